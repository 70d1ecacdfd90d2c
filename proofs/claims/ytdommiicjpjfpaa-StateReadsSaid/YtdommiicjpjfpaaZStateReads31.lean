import Derived.Test.YtdommiicjpjfpaaZStateReads2
import Derived.Laws.BitsLemmas
import Derived.Test.YtdommiicjpjfpaaZStateReads8
import Derived.Test.YtdommiicjpjfpaaZStateReads9
import Derived.Test.YtdommiicjpjfpaaZStateReads10
import Derived.Test.YtdommiicjpjfpaaZStateReads3
import Derived.Lib.SmallJoins
import Derived.Test.YtdommiicjpjfpaaZStateReads13
import Derived.Test.YtdommiicjpjfpaaZStateReads15
import Derived.Test.YtdommiicjpjfpaaZStateReads11
import Derived.Test.YtdommiicjpjfpaaZStateReads6
import Derived.Test.YtdommiicjpjfpaaZStateReads7
import Derived.Test.YtdommiicjpjfpaaZStateReads18
import Derived.Test.YtdommiicjpjfpaaZStateReads23
import Derived.Test.YtdommiicjpjfpaaZStateReads24
import Derived.Test.YtdommiicjpjfpaaZStateReads25
set_option linter.unusedVariables false
set_option linter.unusedSimpArgs false
namespace Go.Proofs.Ytdommiicjpjfpaa.Pl
open Go.RowKit Go.Proofs.YtdommiicjpjfpaaW.PrintWords Go.Proofs.YtdommiicjpjfpaaW.PrintLast Go.Proofs.YtdommiicjpjfpaaW.PrintMore
theorem u64m (x:Int):IntKind.u64.wrap x=x % 18446744073709551616:=by simp [IntKind.wrap,IntKind.bits,IntKind.signed]
theorem u64w (x:Int) (h0:0≤x) (h1:x < 18446744073709551616):IntKind.u64.wrap x=x:=by rw [u64m];omega
theorem u64w' (x:Int) (h0:0≤x) (h1:x < 2 ^ 64):IntKind.u64.wrap x=x:=u64w x h0 (by omega)
theorem w64 (x:Int) (h0 : -9223372036854775808≤x) (h1:x≤9223372036854775807):wrap64 x=x:=by unfold wrap64;omega
theorem w64m (x:Int):wrap64 x=(x+9223372036854775808) % 18446744073709551616 - 9223372036854775808:=by unfold wrap64;omega
theorem lit_u8 {x:Int} (h:(Lit.int .u8 x).wf=true):0≤x∧x≤255:=by
 simp [Lit.wf,IntKind.min,IntKind.max,IntKind.signed,IntKind.bits] at h;omega
theorem or128 (x:Int) (h0:0≤x) (h1:x < 256):bits .or .u8 x 128=x % 128+128:=by
 obtain ⟨a,rfl⟩:=Int.eq_ofNat_of_zero_le h0
 have h:=(bits_nat .u8 8 (by decide) wraps_u8 a 128 (by omega) (by omega)).2
 have e:a ||| 128=a % 128+128:=by
  rcases Nat.lt_or_ge a 128 with ha | ha
  ·have:=Nat.two_pow_add_eq_or_of_lt (i:=7) (b:=a) (by omega) 1
   rw [Nat.or_comm]
   simp at this
   omega
  ·obtain ⟨b,rfl⟩:∃ b,a=128+b:=⟨a - 128,by omega⟩
   have:=Nat.two_pow_add_eq_or_of_lt (i:=7) (b:=b) (by omega) 1
   simp at this
   rw [this,Nat.or_assoc,Nat.or_comm b 128,← Nat.or_assoc,Nat.or_self,← this]
   omega
 rw [e] at h
 rw [show (128:Int)=((128:Nat):Int) from rfl,h]
 omega
theorem and127 (x:Int) (h0:0≤x) (h1:x < 256):bits .and .u8 x 127=x % 128:=by
 have h:=bits_mask .u8 8 (by decide) wraps_u8 7 (by decide) x h0 (by omega)
 simpa using h
theorem and1 (x:Int) (h0:0≤x) (h1:x < 18446744073709551616):bits .and .u64 x 1=x % 2:=by
 have h:=bits_mask .u64 64 (by decide) u64w' 1 (by decide) x h0 (by omega)
 simpa using h
theorem or_low (i:Nat) (n y:Int) (h0:0≤n) (h1:n < 2 ^ i) (h2:0≤y) (h3:y % 2 ^ i=0) (h4:y < 2 ^ 64) (hi:i≤64):bits .or .u64 n y=n+y:=by
 have hn:n < 2 ^ 64:=by
  have:(2:Int) ^ i≤2 ^ 64:=by exact_mod_cast Nat.pow_le_pow_right (by decide) hi
  omega
 obtain ⟨a,rfl⟩:=Int.eq_ofNat_of_zero_le h0
 obtain ⟨b,rfl⟩:=Int.eq_ofNat_of_zero_le h2
 have ha:a < 2 ^ 64:=by exact_mod_cast hn
 have hb:b < 2 ^ 64:=by exact_mod_cast h4
 have e:=bits_join .u64 64 (by decide) u64w' i (b:Int) (a:Int) h2 h3 h4 h0 h1 hn
 have e1:=(bits_nat .u64 64 (by decide) u64w' a b ha hb).2
 have e2:=(bits_nat .u64 64 (by decide) u64w' b a hb ha).2
 rw [e1,Nat.or_comm,← e2,e]
 omega
theorem xor0 (x:Int) (h0 : -9223372036854775808≤x) (h1:x≤9223372036854775807):bits .xor .i64 x 0=x:=by
 have z:BitVec.ofInt 64 x ^^^ BitVec.ofInt 64 0=BitVec.ofInt 64 x:=by simp
 have e:bits .xor .i64 x 0=IntKind.i64.wrap ((BitVec.ofInt 64 x).toNat):=by
  show IntKind.i64.wrap ((BitVec.ofInt 64 x ^^^ BitVec.ofInt 64 0).toNat:Int)=_
  rw [z]
 rw [e,IntKind.wrap_i64,BitVec.toNat_ofInt]
 omega
theorem xor1 (x:Int) (h0 : -9223372036854775808≤x) (h1:x≤9223372036854775807):bits .xor .i64 x (-1) = -x - 1:=by
 have e:bits .xor .i64 x (-1)=IntKind.i64.wrap ((~~~ (BitVec.ofInt 64 x)).toNat):=by
  have z:BitVec.ofInt 64 x ^^^ BitVec.ofInt 64 (-1) = ~~~ (BitVec.ofInt 64 x):=by
   rw [show BitVec.ofInt 64 (-1)=BitVec.allOnes 64 by decide,BitVec.xor_allOnes]
  show IntKind.i64.wrap ((BitVec.ofInt 64 x ^^^ BitVec.ofInt 64 (-1)).toNat:Int)=_
  rw [z]
 rw [e,IntKind.wrap_i64,BitVec.toNat_not,BitVec.toNat_ofInt]
 omega
def puts:Nat→Int→List Int
 | 0,_=>[]
 | f+1,n=>if n ≥ 128 then (n % 128+128) :: puts f (n / 128) else [n]
def rdU:Nat→Nat→List Int→Int→Int × Int × Int
 | 0,_,_,_=>(0,0,12)
 | _+1,_,[],_=>(0,0,11)
 | f+1,i,c :: t,n=>if (f=0∧c > 1) ∨ (0 < i∧c=0) then (0,0,12) else if c < 128 then (n+c * 128 ^ i,i+1,0) else rdU f (i+1) t (n+(c - 128) * 128 ^ i)
def putU (n:Int):List Int:=puts 10 n
def Bytes (l:List Int):Prop:=∀ c ∈ l,0≤c∧c≤255
theorem Bytes.of {l:List Int} (h:∀ x ∈ l,(Lit.int .u8 x).wf=true):Bytes l:=fun c hc=>lit_u8 (h c hc)
theorem Bytes.nil:Bytes []:=fun _ h=>by simp at h
theorem Bytes.append {a b:List Int} (ha:Bytes a) (hb:Bytes b):Bytes (a ++ b):=fun c hc=>(List.mem_append.1 hc).elim (ha c) (hb c)
theorem Bytes.drop {a:List Int} (ha:Bytes a) (n:Nat):Bytes (a.drop n):=fun c hc=>ha c (List.mem_of_mem_drop hc)
theorem Bytes.take {a:List Int} (ha:Bytes a) (n:Nat):Bytes (a.take n):=fun c hc=>ha c (List.mem_of_mem_take hc)
theorem puts_len (f:Nat):∀ n,(puts f n).length≤f∧(0 < f→0 < (puts f n).length):=by
 induction f with
 | zero=>intro n;simp [puts]
 | succ f ih =>
  intro n
  unfold puts
  have:=ih (n / 128)
  split
  ·simp;omega
  ·simp
theorem pow_pos' (i:Nat):(0:Int) < 128 ^ i:=Int.pow_pos (by decide)
theorem pow_s (i:Nat):(128:Int) ^ (i+1)=128 * 128 ^ i:=by rw [Int.pow_succ];omega
theorem pow10:(128:Int) ^ 10=1180591620717411303424:=by decide
theorem pow9:(128:Int) ^ 9=9223372036854775808:=by decide
theorem rd_puts (rest:List Int) (d:Nat):∀ (i:Nat) (n acc:Int),i+d=10→0≤n→n * 128 ^ i < 18446744073709551616→(0 < i→0 < n) →
  rdU d i (puts d n ++ rest) acc=(acc+n * 128 ^ i,((i+(puts d n).length:Nat):Int),0):=by
 induction d with
 | zero =>
  intro i n acc hi h0 hb hp
  obtain rfl:i=10:=by omega
  have:=hp (by omega)
  rw [pow10] at hb
  omega
 | succ d ih =>
  intro i n acc hi h0 hb hp
  unfold puts
  by_cases hn:n ≥ 128
  ·rw [if_pos hn,List.cons_append]
   have hd:d ≠ 0:=by
    rintro rfl
    obtain rfl:i=9:=by omega
    rw [pow9] at hb
    omega
   simp only [rdU]
   have e:n / 128 * 128 ^ (i+1)+n % 128 * 128 ^ i=n * 128 ^ i:=by
    rw [pow_s,← Int.mul_assoc,← Int.add_mul,Int.ediv_mul_add_emod]
   have hq:0≤n % 128 * 128 ^ i:=Int.mul_nonneg (by omega) (Int.le_of_lt (pow_pos' i))
   rw [if_neg (by omega),if_neg (by omega)]
   have:=ih (i+1) (n / 128) (acc+(n % 128+128 - 128) * 128 ^ i) (by omega) (by omega) (by omega) (by omega)
   rw [this]
   refine Prod.ext ?_ (Prod.ext ?_ rfl)
   ·show acc+(n % 128+128 - 128) * 128 ^ i+n / 128 * 128 ^ (i+1)=acc+n * 128 ^ i
    rw [← e,show n % 128+128 - 128=n % 128 by omega]
    omega
   ·simp;omega
  ·rw [if_neg hn]
   simp only [List.singleton_append,rdU]
   have h9:¬ ((d=0∧n > 1) ∨ (0 < i∧n=0)):=by
    rintro (⟨rfl,h1⟩ | ⟨h1,h2⟩)
    ·obtain rfl:i=9:=by omega
     rw [pow9] at hb
     omega
    ·have:=hp h1;omega
   rw [if_neg h9,if_pos (by omega)]
   simp
theorem putU_read (n:Int) (rest:List Int) (h0:0≤n) (h1:n < 18446744073709551616):rdU 10 0 (putU n ++ rest) 0=(n,((putU n).length:Int),0):=by
 have:=rd_puts rest 10 0 n 0 rfl h0 (by simpa using h1) (by omega)
 simpa [putU] using this
theorem rd_form (d:Nat):∀ (i:Nat) (l:List Int) (acc:Int) (v m:Int),i+d=10→Bytes l→rdU d i l acc=(v,m,0) →
  ∃ n:Int,0≤n∧v=acc+n * 128 ^ i∧n * 128 ^ i < 18446744073709551616∧(0 < i→0 < n)∧l.take (m.toNat - i)=puts d n∧(i:Int) < m∧m≤10∧m≤i+l.length:=by
 induction d with
 | zero=>intro i l acc v m _ _ h;simp [rdU] at h
 | succ d ih =>
  intro i l acc v m hi hl h
  match l,hl,h with
  | [],_,h=>simp [rdU] at h
  | c :: t,hl,h =>
   have hc:=hl c (List.mem_cons_self)
   simp only [rdU] at h
   by_cases h1:(d=0∧c > 1) ∨ (0 < i∧c=0)
   ·rw [if_pos h1] at h;simp at h
   ·rw [if_neg h1] at h
    by_cases h2:c < 128
    ·rw [if_pos h2] at h
     simp only [Prod.mk.injEq,and_true] at h
     obtain ⟨rfl,rfl⟩:=h
     refine ⟨c,hc.1,rfl, ?_,by omega, ?_,by omega,by omega,by simp;omega⟩
     ·by_cases h9:i=9
      ·subst h9
       rw [pow9]
       have:¬ (d=0∧c > 1):=fun z=>h1 (.inl z)
       omega
      ·have hle:(128:Int) ^ i≤128 ^ 8:=by exact_mod_cast Nat.pow_le_pow_right (by decide) (show i≤8 by omega)
       have e8:(128:Int) ^ 8=72057594037927936:=by decide
       have hm:c * 128 ^ i≤128 * 128 ^ i:=Int.mul_le_mul_of_nonneg_right (by omega) (Int.le_of_lt (pow_pos' i))
       omega
     ·rw [show ((i:Int)+1).toNat - i=1 by omega]
      simp [puts];omega
    ·rw [if_neg h2] at h
     obtain ⟨n,hn0,hv,hb,hp,ht,hm1,hm2,hm3⟩:=ih (i+1) t _ v m (by omega) (fun z hz=>hl z (List.mem_cons_of_mem _ hz)) h
     have hpn:=hp (by omega)
     have e:(n * 128+(c - 128)) * 128 ^ i=n * 128 ^ (i+1)+(c - 128) * 128 ^ i:=by rw [pow_s,Int.add_mul,Int.mul_assoc]
     refine ⟨n * 128+(c - 128),by omega, ?_, ?_,by omega, ?_,by omega,hm2,by simp;omega⟩
     ·rw [e,hv];omega
     ·have hlt:(c - 128) * 128 ^ i < 128 ^ (i+1):=by
       rw [pow_s]
       exact Int.mul_lt_mul_of_pos_right (by omega) (pow_pos' i)
      by_cases hi8:i+1≤9
      ·
       have hd:(128:Int) ^ (i+1) ∣ 18446744073709551616:=by
        have:(128:Int) ^ (i+1) ∣ 128 ^ 9:=by exact_mod_cast Nat.pow_dvd_pow 128 hi8
        exact Int.dvd_trans this (by rw [pow9];exact ⟨2,by decide⟩)
       obtain ⟨q,hq⟩:=hd
       rw [e]
       have hnq:n < q:=by
        rcases Int.lt_or_le n q with z | z
        ·exact z
        ·have:=Int.mul_le_mul_of_nonneg_left z (Int.le_of_lt (pow_pos' (i+1)))
         rw [Int.mul_comm] at this
         rw [Int.mul_comm (128 ^ (i+1)) n] at this
         rw [Int.mul_comm] at hq
         omega
       have hstep:128 ^ (i+1) * (n+1)≤128 ^ (i+1) * q:=Int.mul_le_mul_of_nonneg_left (by omega) (Int.le_of_lt (pow_pos' (i+1)))
       rw [Int.mul_add,Int.mul_one,Int.mul_comm (128 ^ (i+1)) n] at hstep
       omega
      ·obtain rfl:i=9:=by omega
       rw [pow10] at hb
       omega
     ·rw [show m.toNat - i=(m.toNat - (i+1))+1 by omega,List.take_succ_cons,ht]
      conv=>rhs;unfold puts
      rw [if_pos (by omega)]
      congr 1
      ·omega
      ·congr 1;omega
theorem rdU_form (l:List Int) (hl:Bytes l) (v m:Int) (h:rdU 10 0 l 0=(v,m,0)):0≤v∧v < 18446744073709551616∧l.take m.toNat=putU v∧0 < m∧m≤10∧m≤l.length:=by
 obtain ⟨n,h0,hv,hb,_,ht,h1,h2,h3⟩:=rd_form 10 0 l 0 v m rfl hl h
 obtain rfl:v=n:=by simpa using hv
 simp at hb
 exact ⟨h0,hb,by simpa [putU] using ht,by omega,h2,by omega⟩
theorem rdU_err (d:Nat):∀ (i:Nat) (l:List Int) (acc:Int),(rdU d i l acc).2.2=0 ∨ rdU d i l acc=(0,0,11) ∨ rdU d i l acc=(0,0,12):=by
 induction d with
 | zero=>intro i l acc;exact .inr (.inr rfl)
 | succ d ih =>
  intro i l acc
  match l with
  | []=>exact .inr (.inl rfl)
  | c :: t =>
   simp only [rdU]
   split
   ·exact .inr (.inr rfl)
   ·split
    ·exact .inl rfl
    ·exact ih _ _ _
theorem qCB (n m:Int) (a b:List Int) (h0:0≤n) (h1:n < 18446744073709551616) (h2:0≤m) (h3:m < 18446744073709551616) (h:putU n ++ a=putU m ++ b):n=m∧a=b:=by
 have e1:=putU_read n a h0 h1
 have e2:=putU_read m b h2 h3
 rw [h,e2] at e1
 simp only [Prod.mk.injEq] at e1
 obtain ⟨rfl,_⟩:=e1
 exact ⟨rfl,List.append_cancel_left h⟩
theorem qBr (n:Int):0 < (putU n).length∧(putU n).length≤10:=⟨(puts_len 10 n).2 (by omega),(puts_len 10 n).1⟩
def zz (n:Int):Int:=if n < 0 then -2 * n - 1 else 2 * n
def unzz (m:Int):Int:=if m % 2=1 then -(m / 2) - 1 else m / 2
theorem zz_range (n:Int) (h0 : -9223372036854775808≤n) (h1:n≤9223372036854775807):0≤zz n∧zz n < 18446744073709551616:=by unfold zz;split <;> omega
theorem unzz_zz (n:Int):unzz (zz n)=n:=by unfold zz unzz;split <;> split <;> omega
theorem zz_unzz (m:Int) (h:0≤m):zz (unzz m)=m:=by unfold zz unzz;split <;> split <;> omega
theorem unzz_range (m:Int) (h0:0≤m) (h1:m < 18446744073709551616) : -9223372036854775808≤unzz m∧unzz m≤9223372036854775807:=by unfold unzz;split <;> omega
theorem str_data (l:List Int):(strOfNums l).data.toList=l.map fun n=>UInt8.ofNat n.toNat:=by simp [strOfNums]
theorem str_bytesOf (s:ByteArray):strOfNums (bytesOf s)=s:=by
 apply ByteArray.ext
 apply Array.ext'
 rw [str_data]
 unfold bytesOf
 rw [List.map_map]
 conv=>rhs;rw [← List.map_id s.data.toList]
 apply List.map_congr_left
 intro b _
 simp
theorem qCH (l:List Int) (h:Bytes l):bytesOf (strOfNums l)=l:=by
 unfold bytesOf
 rw [str_data,List.map_map]
 conv=>rhs;rw [← List.map_id l]
 apply List.map_congr_left
 intro c hc
 have:=h c hc
 simp
 omega
theorem str_inj {a b:List Int} (ha:Bytes a) (hb:Bytes b) (h:strOfNums a=strOfNums b):a=b:=by
 rw [← qCH a ha,← qCH b hb,h]
theorem toList_inj {a b:ByteArray} (h:a.toList=b.toList):a=b:=by
 rw [ByteArray.toList_eq,ByteArray.toList_eq] at h
 exact ByteArray.ext (Array.ext' h)
theorem qB7 (l:List Int):(strOfNums l).size=l.length:=by
 show (strOfNums l).data.size=l.length
 rw [← Array.length_toList,str_data,List.length_map]
theorem qBM (s:ByteArray):(bytesOf s).length=s.size:=bytesOf_length s
end Go.Proofs.Ytdommiicjpjfpaa.Pl
namespace Go.Proofs.Ytdommiicjpjfpaa.Pl
open Go.RowKit Go.Proofs.Ytdommiicjpjfpaa.X Go.Proofs.YtdommiicjpjfpaaW.PrintWords Go.Proofs.YtdommiicjpjfpaaW.PrintLast Go.Proofs.YtdommiicjpjfpaaW.PrintMore
theorem putuint_l0 (d:Nat):∀ (k:Nat) (x:Int) (xs:List Int),d+1≤k→0≤x→x < 128 ^ (d+1)→xs.length+d < 140737488355328→qAt.l0 k x xs=some (xs ++ puts (d+1) x):=by
 induction d with
 | zero =>
  intro k x xs hk h0 h1 hl
  obtain ⟨k,rfl⟩:∃ m,k=m+1:=⟨k - 1,by omega⟩
  have:x < 128:=by simpa using h1
  simp only [qAt.l0,puts]
  rw [if_neg (by omega),if_pos (by omega),if_neg (by omega),show x % 256=x by omega]
 | succ d ih =>
  intro k x xs hk h0 h1 hl
  obtain ⟨k,rfl⟩:∃ m,k=m+1:=⟨k - 1,by omega⟩
  simp only [qAt.l0]
  conv=>rhs;unfold puts
  by_cases c:x ≥ 128
  ·rw [if_pos c,if_pos (by omega),if_pos c,or128 (x % 256) (by omega) (by omega),ih k (x / 128) _ (by omega) (by omega) (by rw [pow_s] at h1;omega) (by simp;omega),show x % 256 % 128+128=x % 128+128 by omega]
   simp
  ·rw [if_neg c,if_pos (by omega),if_neg c,show x % 256=x by omega]
theorem fresh_eq (l:List Int) (hl:l.length≤140737488355328):qCD.f l=some l:=by
 unfold qCD.f
 rw [w64 ((l.length:Int)+10) (by omega) (by omega),if_pos (by omega),if_pos (by omega),if_pos (by omega)]
 simp
theorem qCT (k:Nat) (l:List Int) (n:Int) (hk:10≤k) (h0:0≤n) (h1:n < 18446744073709551616) (hl:l.length+10≤140737488355328):qAt.f k l n=some (l ++ putU n):=by
 unfold qAt.f
 rw [fresh_eq l (by omega)]
 simp only [Option.bind_some]
 exact putuint_l0 9 k n l (by omega) h0 (by rw [pow10];omega) (by omega)
theorem PutInt_eq (k:Nat) (l:List Int) (n:Int) (hk:10≤k) (h0 : -9223372036854775808≤n) (h1:n≤9223372036854775807) (hl:l.length+10≤140737488355328):qBy.f k l n=some (l ++ putU (zz n)):=by
 have e:IntKind.u64.wrap (bits .xor .i64 (wrap64 (n * 2)) (n / 9223372036854775808))=zz n:=by
  unfold zz
  by_cases c:n < 0
  ·rw [if_pos c,show n / 9223372036854775808 = -1 by omega,xor1 _ (by rw [w64m];omega) (by rw [w64m];omega),u64m,w64m]
   omega
  ·rw [if_neg c,show n / 9223372036854775808=0 by omega,xor0 _ (by rw [w64m];omega) (by rw [w64m];omega),u64m,w64m]
   omega
 have hz:=zz_range n h0 h1
 unfold qBy.f
 rw [e,qCT k l _ hk hz.1 hz.2 hl]
 rfl
theorem PutText_eq (k:Nat) (l:List Int) (s:ByteArray) (hk:10≤k) (hl:l.length+10+s.size < 140737488355328):qBT.f k l s=some (l ++ putU s.size ++ bytesOf s):=by
 have hp:=qBr (s.size:Int)
 unfold qBT.f
 rw [u64w _ (by omega) (by omega),qCT k l _ hk (by omega) (by omega) (by omega)]
 simp only [Option.bind_some]
 rw [if_pos (by simp only [List.length_append];omega)]
end Go.Proofs.Ytdommiicjpjfpaa.Pl
namespace Go.Proofs.Ytdommiicjpjfpaa.X
open Go.RowKit Go.Proofs.YtdommiicjpjfpaaW.PrintWords Go.Proofs.YtdommiicjpjfpaaW.PrintLast Go.Proofs.YtdommiicjpjfpaaW.PrintMore Go.Proofs.YtdommiicjpjfpaaW
mutual
def qAu.l0:Nat→Int→Int→Int→Int→ByteArray→List (S34)→List ByteArray→Option (Int)
 | 0,_,_,_,_,_,_,_=>none
 | k+1,x3,x4,x129000,x129001,x129002,x129003,x129004=>if x4 < (x129003.length:Int) then (if 0≤x4 then ((qAu.f k ((qAR x129003 x4).f0) ((qAR x129003 x4).f1) ((qAR x129003 x4).f2) ((qAR x129003 x4).f3) ((qAR x129003 x4).f4)).bind fun t130=>(qAu.l0 k (mx x3 t130) (wrap64 (x4+1)) x129000 x129001 x129002 x129003 x129004)) else (none)) else (some (wrap64 (x3+1)))
def qAu.f:Nat→Int→Int→ByteArray→List (S34)→List ByteArray→Option (Int)
 | 0,_,_,_,_,_=>none
 | k+1,a0_0,a0_1,a0_2,l0_3,l0_4=>qAu.l0 k 0 0 a0_0 a0_1 a0_2 l0_3 l0_4
end
end Go.Proofs.Ytdommiicjpjfpaa.X
namespace Go.Proofs.Ytdommiicjpjfpaa.X
open Go.ChangeShapes Go.WideShapes Go.ChangeAt Go.RowKit Go.Proofs.YtdommiicjpjfpaaW.PrintWords Go.Proofs.YtdommiicjpjfpaaW
inductive Val:S34→Prop
 | mk (x:S34) (a0 : -9223372036854775808≤x.f0) (b0:x.f0≤9223372036854775807) (a1 : -9223372036854775808≤x.f1) (b1:x.f1≤9223372036854775807)
   (h2:x.f2.size≤9223372036854775807) (h3:x.f3.length≤9223372036854775807) (h4:x.f4.length≤9223372036854775807)
   (k4:∀ s ∈ x.f4,s.size≤9223372036854775807) (k3:∀ y ∈ x.f3,Val y):Val x
theorem mapM_at {α β:Type} {f:α→Option β}:∀ {l:List α} {r:List β},l.mapM f=some r→r.length=l.length∧∀ (i:Nat) (x:α),l[i]?=some x→f x=r[i]?
 | [],r,h=>by
  simp at h;subst h;exact ⟨rfl,fun i x hx=>by simp at hx⟩
 | a :: l,r,h=>by
  simp only [List.mapM_cons,Option.bind_eq_bind,Option.pure_def,Option.bind_eq_some_iff] at h
  obtain ⟨y,hy,ys,hys,h⟩:=h
  obtain rfl:=Option.some.inj h
  obtain ⟨h1,h2⟩:=mapM_at hys
  refine ⟨by simp [h1],fun i x hx => ?_⟩
  cases i with
  | zero=>simp at hx;subst hx;simpa using hy
  | succ i=>simp at hx;simpa using h2 i x hx
theorem cells_at {w:World} {a:Addr} {n:Nat} {cs:List Value} (h:w.cells? 0 a n=some cs):cs.length=n∧∀ (i:Nat) (u:Value),cs[i]?=some u→w.cell? (a.add i)=some u:=by
 unfold World.cells? at h
 rw [if_pos (Nat.zero_le _)] at h
 obtain ⟨h1,h2⟩:=mapM_at h
 rw [List.length_range] at h1
 refine ⟨h1,fun i u hu => ?_⟩
 have hi:i < n:=by have:=(List.getElem?_eq_some_iff.1 hu).1;omega
 rw [h2 i i (by simp [hi]),hu]
theorem qCG {α β:Type} (p:Nat→α→Prop):∀ (n:Nat),(∀ i,i < n→∃ x,p i x)→∃ xs:List α,xs.length=n∧∀ (i:Nat) (x:α),xs[i]?=some x→p i x
 | 0,_=>⟨[],rfl,fun i x h=>by simp at h⟩
 | n+1,h=>by
  obtain ⟨xs,hl,hx⟩:=qCG (β:=β) p n (fun i hi=>h i (by omega))
  obtain ⟨y,hy⟩:=h n (by omega)
  refine ⟨xs ++ [y],by simp [hl],fun i x hq => ?_⟩
  by_cases hi:i < n
  ·rw [List.getElem?_append_left (by omega)] at hq
   exact hx i x hq
  ·rw [List.getElem?_append_right (by omega)] at hq
   have:i - xs.length=0:=by
    have:=(List.getElem?_eq_some_iff.1 hq).1
    simp at this;omega
   rw [this] at hq
   simp at hq
   subst hq
   obtain rfl:i=n:=by omega
   exact hy
section
variable {H:Type} {enc:TypeId × Value→H} {P:Program} {w:World} {held:Bool} {spare:Nat→Bool}
theorem row_open {α:Type} (d:Kd α) (good:α→Prop) {t e:TypeId} (ht:P.underlying t=some (.slice e)) (hsz:P.cellsOf e=d.sz) (fuel:Nat)
  (hel:∀ n,n < fuel→∀ cs y,DataW.trod enc P w 0 spare held n e cs=some y→∃ x,d.K w x cs∧good x) {cs:List Value} {y:DataW H × List MemPlace} (h:DataW.trod enc P w 0 spare held fuel t cs=some y) :
  ∃ A xs c,cs=[.slice A xs.length c]∧xs.length≤c∧xs.length≤9223372036854775807∧d.C w A xs.length xs∧∀ x ∈ xs,good x:=by
 rcases DataW.trod_slice ht h with ⟨rfl,_⟩ | ⟨a,len,cap,elems,rest,n,rfl,rfl,_,_,hlc,hcm,hlen,hel0,_,_⟩
 ·exact ⟨none,[],0,rfl,Nat.le_refl _,by simp,⟨rfl,by simp,fun h=>absurd h (by simp)⟩,fun x hx=>by simp at hx⟩
 ·obtain ⟨xs,hxl,hx⟩:=qCG (β:=Unit) (fun i (x:α)=>good x∧∃ c,c.length=d.sz∧d.K w x c∧∀ (j:Nat) (u:Value),c[j]?=some u→w.cell? (a.add (i * d.sz+j))=some u) len (fun i hi=>by
   have h1:=hel0 i hi
   have hi2:i < elems.length:=by omega
   rw [List.getElem?_eq_getElem hi2] at h1
   obtain ⟨c,hc,hy⟩:=Option.bind_eq_some_iff.mp h1
   obtain ⟨x,hK,hg⟩:=hel n (by omega) c _ hy
   obtain ⟨c1,c2⟩:=cells_at hc
   refine ⟨x,hg,c,by omega,hK,fun j u hu => ?_⟩
   have:=c2 j u hu
   rw [hsz] at this
   rwa [Addr.add_add] at this)
  have hM:maxLen=9223372036854775807:=by decide
  refine ⟨some a,xs,cap,by rw [hxl],by omega,by omega,⟨rfl,by omega,fun _=>⟨a,rfl,fun j p hp => ?_⟩⟩,fun x hq => ?_⟩
  ·obtain ⟨_,c,h1,h2,h3⟩:=hx j p hp
   exact ⟨c,h1,h2,h3⟩
  ·obtain ⟨j,hj,rfl⟩:=List.getElem_of_mem hq
   exact (hx j _ (List.getElem?_eq_getElem hj)).1
end
section
variable {H:Type} {enc:TypeId × Value→H} {w:World} {held:Bool} {spare:Nat→Bool}
end
end Go.Proofs.Ytdommiicjpjfpaa.X
namespace Go.Proofs.Ytdommiicjpjfpaa.X
open Go.RowKit Go.Proofs.YtdommiicjpjfpaaW.PrintWords Go.Proofs.YtdommiicjpjfpaaW
theorem mem_lt {x y:S34} (h:y ∈ x.f3):SizeOf.sizeOf y < SizeOf.sizeOf x:=by
 have h1:=List.sizeOf_lt_of_mem h
 have h2:SizeOf.sizeOf x.f3 < SizeOf.sizeOf x:=by cases x;simp;omega
 omega
def wt (x:S34):Nat:=1+x.f2.size+(x.f3.map fun y=>wt y).sum+(x.f4.map fun s=>1+s.size).sum
termination_by SizeOf.sizeOf x
decreasing_by exact mem_lt (by assumption)
theorem wt_eq (x:S34):wt x=1+x.f2.size+(x.f3.map wt).sum+(x.f4.map fun s=>1+s.size).sum:=by rw [wt]
def qB9 (f0:Int) (f3:List S34) (f4:List ByteArray) (i:Nat):Nat:=((f3.drop i).map wt).sum+(if f0=5 then ((f4.drop i).map fun s=>1+s.size).sum else 0)
theorem wrest_end (f0:Int) (f3:List S34) (f4:List ByteArray) (i:Nat) (h:f3.length≤i) (h4:f0=5→f4.length=f3.length):qB9 f0 f3 f4 i=0:=by
 unfold qB9
 rw [List.drop_eq_nil_of_le h]
 split
 ·rename_i h5
  rw [List.drop_eq_nil_of_le (by rw [h4 h5];exact h)];rfl
 ·rfl
theorem wrest_succ (f0:Int) (f3:List S34) (f4:List ByteArray) (i:Nat) (h:i < f3.length) (h4:f0=5→f4.length=f3.length) :
  qB9 f0 f3 f4 i=wt (qAR f3 (i:Int))+(if f0=5 then 1+(rdOf ByteArray.empty f4 (i:Int)).size else 0)+qB9 f0 f3 f4 (i+1):=by
 unfold qB9
 have e:qAR f3 (i:Int)=f3[i]:=by
  unfold qAR
  rw [show ((i:Int)).toNat=i from by omega,List.getD_eq_getElem?_getD,List.getElem?_eq_getElem h];rfl
 rw [List.drop_eq_getElem_cons h,List.map_cons,List.sum_cons,e]
 split
 ·rename_i h5
  have h':i < f4.length:=by rw [h4 h5];exact h
  have e':rdOf ByteArray.empty f4 (i:Int)=f4[i]:=by
   unfold rdOf
   rw [show ((i:Int)).toNat=i from by omega,List.getD_eq_getElem?_getD,List.getElem?_eq_getElem h'];rfl
  rw [List.drop_eq_getElem_cons h',List.map_cons,List.sum_cons,e']
  omega
 ·omega
end Go.Proofs.Ytdommiicjpjfpaa.X
namespace Go.Proofs.Ytdommiicjpjfpaa.X
open Go.RowKit Go.Proofs.YtdommiicjpjfpaaW.PrintWords Go.Proofs.YtdommiicjpjfpaaW.PrintLast Go.Proofs.YtdommiicjpjfpaaW.PrintMore Go.Proofs.YtdommiicjpjfpaaW
def Ev {α:Type} (g:Nat→Option α) (r:α):Prop:=∃ K,∀ k,K≤k→g k=some r
theorem Ev.step {α:Type} {g h:Nat→Option α} {r:α} (p:Ev h r) (e:∀ k,g (k+1)=h k):Ev g r:=by
 obtain ⟨K,hK⟩:=p
 refine ⟨K+1,fun k hk => ?_⟩
 obtain ⟨k,rfl⟩:∃ j,k=j+1:=⟨k - 1,by omega⟩
 rw [e,hK k (by omega)]
theorem Ev.bind {α β:Type} {g:Nat→Option α} {F:Nat→α→Option β} {a:α} {r:β} (p:Ev g a) (q:Ev (fun k=>F k a) r):Ev (fun k=>(g k).bind (F k)) r:=by
 obtain ⟨K,hK⟩:=p
 obtain ⟨L,hL⟩:=q
 exact ⟨K+L,fun k hk=>by show (g k).bind (F k)=some r;rw [hK k (by omega)];exact hL k (by omega)⟩
theorem Ev.const {α:Type} {r:α}:Ev (fun _=>some r) r:=⟨0,fun _ _=>rfl⟩
theorem Ev.congr {α:Type} {g h:Nat→Option α} {r:α} (p:Ev h r) (e:∀ k,g k=h k):Ev g r:=by
 obtain ⟨K,hK⟩:=p
 exact ⟨K,fun k hk=>(e k).trans (hK k hk)⟩
theorem w64 (x:Int) (h0 : -9223372036854775808≤x) (h1:x≤9223372036854775807):wrap64 x=x:=by unfold wrap64;omega
theorem mx_eq (a b:Int):mx a b=if a < b then b else a:=rfl
theorem mn_eq (a b:Int):mn a b=if b < a then b else a:=rfl
theorem plain_eq (f0 f1:Int) (f2:ByteArray) (f3:List S34) (f4:List ByteArray) (h3:f3.length≤9223372036854775807) (h4:f4.length≤9223372036854775807) :
  qA4.f f0 f1 f2 f3 f4=some (qAj.b f0 f1 f2 f3.length f4.length):=by
 have e:(wrap64 ((f3.length:Int)+(f4.length:Int)) == 0)=(((f3.length:Int) == 0) && ((f4.length:Int) == 0)):=by
  rw [Bool.eq_iff_iff]
  simp only [beq_iff_eq,Bool.and_eq_true]
  unfold wrap64
  omega
 unfold qA4.f qAj.b
 rw [e]
 generalize (f3.length:Int)=n3
 generalize (f4.length:Int)=n4
 by_cases k0:f0=0
 ·subst k0;by_cases a:f1=0 <;> by_cases b:f2.toList=[] <;> by_cases c:n3=0 <;> simp [a,b,c]
 by_cases k1:f0=1
 ·subst k1;by_cases a:f1=0 <;> by_cases a':f1=1 <;> by_cases b:f2.toList=[] <;> by_cases c:n3=0 <;> simp [a,a',b,c]
 by_cases k2:f0=2
 ·subst k2;by_cases b:f2.toList=[] <;> by_cases c:n3=0 <;> simp [b,c]
 by_cases k3:f0=3
 ·subst k3;by_cases a:f1=0 <;> by_cases c:n3=0 <;> simp [a,c]
 by_cases k4:f0=4
 ·subst k4;by_cases a:f1=0 <;> by_cases b:f2.toList=[] <;> simp [a,b]
 by_cases k5:f0=5
 ·subst k5;by_cases a:f1=0 <;> by_cases b:f2.toList=[] <;> by_cases c:n4=n3 <;> simp [a,b,c]
 ·simp [k0,k1,k2,k3,k4,k5]
theorem form_len {f0 f1:Int} {f2:ByteArray} {n3 n4:Nat} (h3:n3≤9223372036854775807) (h4:n4≤9223372036854775807) (h:qAj.b f0 f1 f2 n3 n4=true) :
  (f0=5→n4=n3)∧(f0 ≠ 3→f2.toList=[])∧(f0=3→n3=0):=by
 have e:(wrap64 ((n3:Int)+(n4:Int)) == 0)=(((n3:Int) == 0) && ((n4:Int) == 0)):=by
  rw [Bool.eq_iff_iff]
  simp only [beq_iff_eq,Bool.and_eq_true]
  unfold wrap64
  omega
 unfold qAj.b at h
 rw [e] at h
 refine ⟨fun q => ?_,fun q => ?_,fun q => ?_⟩
 ·subst q
  simp at h
  omega
 ·by_cases k0:f0=0
  ·subst k0;simp at h;simp [h]
  by_cases k1:f0=1
  ·subst k1;simp at h;simp [h]
  by_cases k2:f0=2
  ·subst k2;simp at h;simp [h]
  by_cases k4:f0=4
  ·subst k4;simp at h;simp [h]
  by_cases k5:f0=5
  ·subst k5;simp at h;simp [h]
  ·simp [k0,k1,k2,q,k4,k5] at h
 ·subst q
  simp at h
  omega
theorem qCO {f0 f1:Int} {f2:ByteArray} {n3 n4:Nat} (h3:n3≤9223372036854775807) (h4:n4≤9223372036854775807) (h:qAj.b f0 f1 f2 n3 n4=true) :
  (f0=0∧f1=0∧f2.toList=[]∧n3=0∧n4=0) ∨ (f0=1∧(f1=0 ∨ f1=1)∧f2.toList=[]∧n3=0∧n4=0) ∨ (f0=2∧f2.toList=[]∧n3=0∧n4=0) ∨
  (f0=3∧f1=0∧n3=0∧n4=0) ∨ (f0=4∧f1=0∧f2.toList=[]∧n4=0) ∨ (f0=5∧f1=0∧f2.toList=[]∧n4=n3):=by
 have e:(wrap64 ((n3:Int)+(n4:Int)) == 0)=(((n3:Int) == 0) && ((n4:Int) == 0)):=by
  rw [Bool.eq_iff_iff]
  simp only [beq_iff_eq,Bool.and_eq_true]
  unfold wrap64
  omega
 unfold qAj.b at h
 rw [e] at h
 by_cases k0:f0=0
 ·subst k0;simp at h;left;simp [h]
 by_cases k1:f0=1
 ·subst k1;simp at h;right;left;simp [h]
 by_cases k2:f0=2
 ·subst k2;simp at h;right;right;left;simp [h]
 by_cases k3:f0=3
 ·subst k3;simp at h;right;right;right;left;simp [h]
 by_cases k4:f0=4
 ·subst k4;simp at h;right;right;right;right;left;simp [h]
 by_cases k5:f0=5
 ·subst k5;simp at h;right;right;right;right;right;simp [h];omega
 ·simp [k0,k1,k2,k3,k4,k5] at h
inductive Frm:S34→Prop
 | mk (x:S34) (h:qAj.b x.f0 x.f1 x.f2 x.f3.length x.f4.length=true) (k:∀ y ∈ x.f3,Frm y):Frm x
def Good (x:S34):Prop:=∀ ar D W:Int,0≤ar→ar≤8→0≤D→D≤8→0≤W→W≤4096 →
 (∃ D' W' d:Int,Ev (fun k=>qAH.w k x.f0 x.f1 x.f2 x.f3 x.f4 ar D W) (true,D',W')∧Ev (fun k=>qAG.f k x.f0 x.f1 x.f2 x.f3 x.f4 ar W) W' ∧
  Ev (fun k=>qAu.f k x.f0 x.f1 x.f2 x.f3 x.f4) d∧D'=mx D (ar+d)∧1≤d∧D'≤8∧W < W'∧W'≤2048∧Frm x∧W+(wt x:Int)≤W') ∨
 (∃ D' W':Int,Ev (fun k=>qAH.w k x.f0 x.f1 x.f2 x.f3 x.f4 ar D W) (false,D',W')∧Ev (fun k=>qAG.f k x.f0 x.f1 x.f2 x.f3 x.f4 ar W) 2049)
theorem loop_eq (f0 f1:Int) (f2:ByteArray) (f3:List S34) (f4:List ByteArray) (hg:∀ y ∈ f3,Good y) (h3:f3.length≤9223372036854775807) (h45:f0=5→f4.length=f3.length)
  (h4:∀ s ∈ f4,s.size≤9223372036854775807) (ar D0:Int) (ha:0≤ar) (hb:ar≤7) (hd0:0≤D0) :
  ∀ (rem i:Nat),i+rem=f3.length→∀ D W e:Int,D=mx D0 (ar+1+e)→D≤8→0≤e→0≤W→W≤2048 →
  (∃ D' W' d:Int,Ev (fun k=>qAH.l k f0 f1 f2 f3 f4 ar D W (i:Int)) (true,D',W')∧Ev (fun k=>qAG.l0 k ar 2049 W (i:Int) f0 f1 f2 f3 f4) W' ∧
   Ev (fun k=>qAu.l0 k e (i:Int) f0 f1 f2 f3 f4) d∧D'=mx D0 (ar+d)∧1≤d∧D'≤8∧W+(qB9 f0 f3 f4 i:Int)≤W'∧W'≤2048∧∀ y ∈ f3.drop i,Frm y) ∨
  (∃ D' W':Int,Ev (fun k=>qAH.l k f0 f1 f2 f3 f4 ar D W (i:Int)) (false,D',W')∧Ev (fun k=>qAG.l0 k ar 2049 W (i:Int) f0 f1 f2 f3 f4) 2049):=by
 intro rem
 induction rem with
 | zero =>
  intro i hi D W e hD hD8 he hW0 hW1
  left
  have c:¬ ((i:Int) < (f3.length:Int)):=by omega
  have he8:e≤8:=by rw [hD,mx_eq] at hD8;split at hD8 <;> omega
  refine ⟨D,W,e+1, ?_, ?_, ?_, ?_,by omega,hD8,by rw [wrest_end f0 f3 f4 i (by omega) h45];omega,hW1,fun y hy=>by rw [List.drop_eq_nil_of_le (by omega)] at hy;simp at hy⟩
  ·exact Ev.step Ev.const (fun k=>by rw [qAH.l,if_neg c,decide_eq_true hW1])
  ·refine Ev.step (h:=fun k=>qAG.j3 k ar 2049 W (i:Int) false f0 f1 f2 f3 f4) ?_ (fun k=>by rw [qAG.l0,if_neg c])
   exact Ev.step Ev.const (fun k=>by rw [qAG.j3,if_neg (by simp),if_neg (by omega)])
  ·exact Ev.step Ev.const (fun k=>by rw [qAu.l0,if_neg c,w64 _ (by omega) (by omega)])
  ·rw [hD,show ar+1+e=ar+(e+1) from by omega]
 | succ rem ih =>
  intro i hi D W e hD hD8 he hW0 hW1
  have c:(i:Int) < (f3.length:Int):=by omega
  have p:(0:Int)≤(i:Int):=by omega
  have ei:wrap64 ((i:Int)+1)=((i+1:Nat):Int):=by rw [w64 _ (by omega) (by omega)];omega
  have ea:wrap64 (ar+1)=ar+1:=w64 _ (by omega) (by omega)
  have hD0':0≤D:=by rw [hD,mx_eq];split <;> omega
  have hmem:qAR f3 (i:Int) ∈ f3:=by
   have hl:i < f3.length:=by omega
   unfold qAR
   rw [show ((i:Int)).toNat=i from by omega,List.getD_eq_getElem?_getD,List.getElem?_eq_getElem hl]
   exact List.getElem_mem hl
  have hgx:=hg _ hmem
  have hrs:=wrest_succ f0 f3 f4 i (by omega) h45
  have hdrop:Frm (qAR f3 (i:Int))→(∀ y ∈ f3.drop (i+1),Frm y)→∀ y ∈ f3.drop i,Frm y:=by
   intro h1 h2 y hy
   have hl:i < f3.length:=by omega
   rw [List.drop_eq_getElem_cons hl] at hy
   rcases List.mem_cons.1 hy with rfl | hy
   ·have e:qAR f3 (i:Int)=f3[i]:=by
     unfold qAR
     rw [show ((i:Int)).toNat=i from by omega,List.getD_eq_getElem?_getD,List.getElem?_eq_getElem hl];rfl
    rwa [e] at h1
   ·exact h2 y hy
  generalize hx:qAR f3 (i:Int)=x at hgx hdrop hrs
  have child:∀ V:Int,0≤V→V≤4096→W≤V →
    (∃ D' W' d:Int,Ev (fun k=>(qAH.w k x.f0 x.f1 x.f2 x.f3 x.f4 (ar+1) D V).bind fun r=>if r.1=true then qAH.l k f0 f1 f2 f3 f4 ar r.2.1 r.2.2 ((i+1:Nat):Int) else some (false,r.2.1,r.2.2)) (true,D',W') ∧
     Ev (fun k=>(qAG.f k x.f0 x.f1 x.f2 x.f3 x.f4 (ar+1) V).bind fun t=>qAG.l0 k ar 2049 t ((i+1:Nat):Int) f0 f1 f2 f3 f4) W' ∧
     Ev (fun k=>(qAu.f k x.f0 x.f1 x.f2 x.f3 x.f4).bind fun t=>qAu.l0 k (mx e t) ((i+1:Nat):Int) f0 f1 f2 f3 f4) d∧D'=mx D0 (ar+d)∧1≤d∧D'≤8∧V+(wt x:Int)+(qB9 f0 f3 f4 (i+1):Int)≤W'∧W'≤2048∧∀ y ∈ f3.drop i,Frm y) ∨
    (∃ D' W':Int,Ev (fun k=>(qAH.w k x.f0 x.f1 x.f2 x.f3 x.f4 (ar+1) D V).bind fun r=>if r.1=true then qAH.l k f0 f1 f2 f3 f4 ar r.2.1 r.2.2 ((i+1:Nat):Int) else some (false,r.2.1,r.2.2)) (false,D',W') ∧
     Ev (fun k=>(qAG.f k x.f0 x.f1 x.f2 x.f3 x.f4 (ar+1) V).bind fun t=>qAG.l0 k ar 2049 t ((i+1:Nat):Int) f0 f1 f2 f3 f4) 2049):=by
   intro V hV0 hV1 hWV
   rcases hgx (ar+1) D V (by omega) (by omega) hD0' hD8 hV0 hV1 with ⟨D1,W1,d1,m1,r1,q1,hD1,hd1,hD18,hW1',hW18,F1,hwt1⟩ | ⟨D1,W1,m1,r1⟩
   ·have hD1':D1=mx D0 (ar+1+mx e d1):=by
     rw [hD1,hD];simp only [mx_eq];repeat' split <;> omega
    rcases ih (i+1) (by omega) D1 W1 (mx e d1) hD1' hD18 (by rw [mx_eq];split <;> omega) (by omega) hW18 with ⟨D2,W2,d2,m2,r2,q2,hD2,hd2,hD28,hW2,hW28,F2⟩ | ⟨D2,W2,m2,r2⟩
    ·left
     exact ⟨D2,W2,d2,Ev.bind m1 (by simpa using m2),Ev.bind r1 r2,Ev.bind q1 q2,hD2,hd2,hD28,by omega,hW28,hdrop F1 F2⟩
    ·right
     exact ⟨D2,W2,Ev.bind m1 (by simpa using m2),Ev.bind r1 r2⟩
   ·right
    refine ⟨D1,W1,Ev.bind m1 (by simpa using Ev.const),Ev.bind r1 ?_⟩
    by_cases c':((i+1:Nat):Int) < (f3.length:Int)
    ·refine Ev.step (h:=fun k=>qAG.j3 k ar 2049 2049 ((i+1:Nat):Int) false f0 f1 f2 f3 f4) ?_ (fun k=>by rw [qAG.l0,if_pos c'];rfl)
     exact Ev.step Ev.const (fun k=>by rw [qAG.j3,if_neg (by simp),if_pos (by omega)])
    ·refine Ev.step (h:=fun k=>qAG.j3 k ar 2049 2049 ((i+1:Nat):Int) false f0 f1 f2 f3 f4) ?_ (fun k=>by rw [qAG.l0,if_neg c'])
     exact Ev.step Ev.const (fun k=>by rw [qAG.j3,if_neg (by simp),if_pos (by omega)])
  have hdeep:∀ k,qAu.l0 (k+1) e (i:Int) f0 f1 f2 f3 f4=(qAu.f k x.f0 x.f1 x.f2 x.f3 x.f4).bind fun t=>qAu.l0 k (mx e t) ((i+1:Nat):Int) f0 f1 f2 f3 f4:=fun k=>by
   rw [qAu.l0,if_pos c,if_pos p,ei,hx]
  have hl0:∀ k,qAG.l0 (k+1) ar 2049 W (i:Int) f0 f1 f2 f3 f4=qAG.j3 k ar 2049 W (i:Int) true f0 f1 f2 f3 f4:=fun k=>by
   rw [qAG.l0,if_pos c,decide_eq_true (by omega)]
  by_cases k5:f0=5
  ·have q4:(i:Int) < (f4.length:Int):=by have:=h45 k5;omega
   have hki:rdOf ByteArray.empty f4 (i:Int) ∈ f4:=by
    have hl:i < f4.length:=by omega
    unfold rdOf
    rw [show ((i:Int)).toNat=i from by omega,List.getD_eq_getElem?_getD,List.getElem?_eq_getElem hl]
    exact List.getElem_mem hl
   have hks:=h4 _ hki
   by_cases g1:32 < ((rdOf ByteArray.empty f4 (i:Int)).size:Int)
   ·right
    refine ⟨D,W,Ev.step Ev.const (fun k=>by rw [qAH.l,if_pos c,if_pos p,if_pos k5,if_pos q4,if_pos g1]), ?_⟩
    refine Ev.step ?_ hl0
    exact Ev.step Ev.const (fun k=>by rw [qAG.j3,if_pos rfl,if_pos k5,if_pos p,if_pos q4,if_pos (by omega)])
   have es:wrap64 (wrap64 (W+1)+((rdOf ByteArray.empty f4 (i:Int)).size:Int))=W+1+((rdOf ByteArray.empty f4 (i:Int)).size:Int):=by
    rw [w64 (W+1) (by omega) (by omega),w64 _ (by omega) (by omega)]
   have et:wrap64 (W+wrap64 (1+((rdOf ByteArray.empty f4 (i:Int)).size:Int)))=W+1+((rdOf ByteArray.empty f4 (i:Int)).size:Int):=by
    rw [w64 (1+((rdOf ByteArray.empty f4 (i:Int)).size:Int)) (by omega) (by omega),w64 _ (by omega) (by omega)];omega
   by_cases g2:(0:Int) < (i:Int)
   ·have ej:wrap64 ((i:Int) - 1)=(i:Int) - 1:=w64 _ (by omega) (by omega)
    cases g3:Op.bytesLess ((rdOf ByteArray.empty f4 ((i:Int) - 1)).toList) ((rdOf ByteArray.empty f4 (i:Int)).toList) with
    | false =>
     right
     refine ⟨D,W,Ev.step Ev.const (fun k=>by rw [qAH.l,if_pos c,if_pos p,if_pos k5,if_pos q4,if_neg g1,if_pos ⟨g2,g3⟩]), ?_⟩
     refine Ev.step ?_ hl0
     exact Ev.step Ev.const (fun k=>by rw [qAG.j3,if_pos rfl,if_pos k5,if_pos p,if_pos q4,if_neg (by omega),if_pos (by omega),ej,if_pos (by omega),if_pos (by omega),if_neg (by simp [g3])])
    | true =>
     have hm:∀ k,qAH.l (k+1) f0 f1 f2 f3 f4 ar D W (i:Int)=(qAH.w k x.f0 x.f1 x.f2 x.f3 x.f4 (ar+1) D (W+1+((rdOf ByteArray.empty f4 (i:Int)).size:Int))).bind fun r=>if r.1=true then qAH.l k f0 f1 f2 f3 f4 ar r.2.1 r.2.2 ((i+1:Nat):Int) else some (false,r.2.1,r.2.2):=fun k=>by
      rw [qAH.l,if_pos c,if_pos p,if_pos k5,if_pos q4,if_neg g1,if_neg (by simp [g3]),hx,ea,et,ei]
     have hj:∀ k,qAG.j3 (k+1) ar 2049 W (i:Int) true f0 f1 f2 f3 f4=(qAG.f k x.f0 x.f1 x.f2 x.f3 x.f4 (ar+1) (W+1+((rdOf ByteArray.empty f4 (i:Int)).size:Int))).bind fun t=>qAG.l0 k ar 2049 t ((i+1:Nat):Int) f0 f1 f2 f3 f4:=fun k=>by
      rw [qAG.j3,if_pos rfl,if_pos k5,if_pos p,if_pos q4,if_neg (by omega),if_pos (by omega),ej,if_pos (by omega),if_pos (by omega),if_pos g3,if_pos c,hx,ea,es,ei]
     rcases child (W+1+((rdOf ByteArray.empty f4 (i:Int)).size:Int)) (by omega) (by omega) (by omega) with ⟨D',W',d,a1,a2,a3,a4⟩ | ⟨D',W',a1,a2⟩
     ·exact Or.inl ⟨D',W',d,Ev.step a1 hm,Ev.step (Ev.step a2 hj) hl0,Ev.step a3 hdeep,a4.1,a4.2.1,a4.2.2.1,(by have:=a4.2.2.2.1;rw [hrs,if_pos k5];omega),a4.2.2.2.2⟩
     ·exact Or.inr ⟨D',W',Ev.step a1 hm,Ev.step (Ev.step a2 hj) hl0⟩
   ·have hm:∀ k,qAH.l (k+1) f0 f1 f2 f3 f4 ar D W (i:Int)=(qAH.w k x.f0 x.f1 x.f2 x.f3 x.f4 (ar+1) D (W+1+((rdOf ByteArray.empty f4 (i:Int)).size:Int))).bind fun r=>if r.1=true then qAH.l k f0 f1 f2 f3 f4 ar r.2.1 r.2.2 ((i+1:Nat):Int) else some (false,r.2.1,r.2.2):=fun k=>by
     rw [qAH.l,if_pos c,if_pos p,if_pos k5,if_pos q4,if_neg g1,if_neg (fun h=>g2 h.1),hx,ea,et,ei]
    have hj:∀ k,qAG.j3 (k+1) ar 2049 W (i:Int) true f0 f1 f2 f3 f4=(qAG.f k x.f0 x.f1 x.f2 x.f3 x.f4 (ar+1) (W+1+((rdOf ByteArray.empty f4 (i:Int)).size:Int))).bind fun t=>qAG.l0 k ar 2049 t ((i+1:Nat):Int) f0 f1 f2 f3 f4:=fun k=>by
     rw [qAG.j3,if_pos rfl,if_pos k5,if_pos p,if_pos q4,if_neg (by omega),if_neg (by omega),if_pos c,hx,ea,es,ei]
    rcases child (W+1+((rdOf ByteArray.empty f4 (i:Int)).size:Int)) (by omega) (by omega) (by omega) with ⟨D',W',d,a1,a2,a3,a4⟩ | ⟨D',W',a1,a2⟩
    ·exact Or.inl ⟨D',W',d,Ev.step a1 hm,Ev.step (Ev.step a2 hj) hl0,Ev.step a3 hdeep,a4.1,a4.2.1,a4.2.2.1,(by have:=a4.2.2.2.1;rw [hrs,if_pos k5];omega),a4.2.2.2.2⟩
    ·exact Or.inr ⟨D',W',Ev.step a1 hm,Ev.step (Ev.step a2 hj) hl0⟩
  ·have hm:∀ k,qAH.l (k+1) f0 f1 f2 f3 f4 ar D W (i:Int)=(qAH.w k x.f0 x.f1 x.f2 x.f3 x.f4 (ar+1) D W).bind fun r=>if r.1=true then qAH.l k f0 f1 f2 f3 f4 ar r.2.1 r.2.2 ((i+1:Nat):Int) else some (false,r.2.1,r.2.2):=fun k=>by
    rw [qAH.l,if_pos c,if_pos p,if_neg k5,hx,ea,ei]
   have hj:∀ k,qAG.j3 (k+1) ar 2049 W (i:Int) true f0 f1 f2 f3 f4=(qAG.f k x.f0 x.f1 x.f2 x.f3 x.f4 (ar+1) W).bind fun t=>qAG.l0 k ar 2049 t ((i+1:Nat):Int) f0 f1 f2 f3 f4:=fun k=>by
    rw [qAG.j3,if_pos rfl,if_neg k5,if_pos p,if_pos c,hx,ea,ei]
   rcases child W hW0 (by omega) (by omega) with ⟨D',W',d,a1,a2,a3,a4⟩ | ⟨D',W',a1,a2⟩
   ·exact Or.inl ⟨D',W',d,Ev.step a1 hm,Ev.step (Ev.step a2 hj) hl0,Ev.step a3 hdeep,a4.1,a4.2.1,a4.2.2.1,(by have:=a4.2.2.2.1;rw [hrs,if_neg k5];omega),a4.2.2.2.2⟩
   ·exact Or.inr ⟨D',W',Ev.step a1 hm,Ev.step (Ev.step a2 hj) hl0⟩
theorem length_toList_ (b:ByteArray):b.toList.length=b.size:=by
 rw [Lib.toList_data];simp
theorem good (x:S34) (hx:Val x):Good x:=by
 induction hx with
 | mk x a0 b0 a1 b1 h2 h3 h4 k4 _ ih =>
 intro ar D W ha0 ha1 hD0 hD1 hW0 hW1
 have ea:wrap64 (ar+1)=ar+1:=w64 _ (by omega) (by omega)
 have ew:wrap64 (W+wrap64 (1+mn (x.f2.size:Int) 2048))=W+1+mn (x.f2.size:Int) 2048:=by
  have hm:0≤mn (x.f2.size:Int) 2048∧mn (x.f2.size:Int) 2048≤2048:=by rw [mn_eq];split <;> omega
  rw [w64 (1+mn (x.f2.size:Int) 2048) (by omega) (by omega),w64 _ (by omega) (by omega)];omega
 have hpl:∀ k,qAG.f (k+1) x.f0 x.f1 x.f2 x.f3 x.f4 ar W=(if qAj.b x.f0 x.f1 x.f2 x.f3.length x.f4.length=true then (if ar ≥ 8 then (qAG.j0 k ar W 2049 true x.f0 x.f1 x.f2 x.f3 x.f4) else (qAG.j0 k ar W 2049 (decide (W > 2048)) x.f0 x.f1 x.f2 x.f3 x.f4)) else (qAG.j0 k ar W 2049 true x.f0 x.f1 x.f2 x.f3 x.f4)):=fun k=>by
  rw [qAG.f,plain_eq _ _ _ _ _ h3 h4];rfl
 have hno:Ev (fun k=>qAG.j0 k ar W 2049 true x.f0 x.f1 x.f2 x.f3 x.f4) 2049:=Ev.step Ev.const (fun k=>by rw [qAG.j0,if_pos rfl])
 cases hf:qAj.b x.f0 x.f1 x.f2 x.f3.length x.f4.length with
 | false =>
  right
  refine ⟨mx D (ar+1),W+1+mn (x.f2.size:Int) 2048,Ev.step Ev.const (fun k => ?_),Ev.step hno (fun k=>by rw [hpl,hf,if_neg (by simp)])⟩
  rw [qAH.w,ea,ew]
  split
  ·rfl
  ·split
   ·rfl
   ·rw [qAj.f,hf];rfl
 | true =>
 obtain ⟨q5,q3,q30⟩:=form_len h3 h4 hf
 by_cases hd:8 < mx D (ar+1)
 ·have:ar ≥ 8:=by rw [mx_eq] at hd;split at hd <;> omega
  right
  exact ⟨_,_,Ev.step Ev.const (fun k=>by rw [qAH.w,ea,ew,if_pos hd]),Ev.step hno (fun k=>by rw [hpl,hf,if_pos rfl,if_pos this])⟩
 have ha7:ar≤7:=by rw [mx_eq] at hd;split at hd <;> omega
 by_cases hW2:W > 2048
 ·right
  have hm:0≤mn (x.f2.size:Int) 2048:=by rw [mn_eq];split <;> omega
  exact ⟨_,_,Ev.step Ev.const (fun k=>by rw [qAH.w,ea,ew,if_neg hd,if_pos (by omega)]),Ev.step hno (fun k=>by rw [hpl,hf,if_pos rfl,if_neg (by omega),decide_eq_true hW2])⟩
 have hfw:∀ k,qAG.f (k+1) x.f0 x.f1 x.f2 x.f3 x.f4 ar W=qAG.j0 k ar W 2049 false x.f0 x.f1 x.f2 x.f3 x.f4:=fun k=>by
  rw [hpl,hf,if_pos rfl,if_neg (by omega),decide_eq_false hW2]
 have hm:0≤mn (x.f2.size:Int) 2048∧mn (x.f2.size:Int) 2048≤2048:=by rw [mn_eq];split <;> omega
 by_cases hs:x.f0=3∧(x.f2.size:Int) > 2048
 ·right
  have e2:mn (x.f2.size:Int) 2048=2048:=by rw [mn_eq,if_pos (by omega)]
  exact ⟨_,_,Ev.step Ev.const (fun k=>by rw [qAH.w,ea,ew,if_neg hd,if_pos (by omega)]),Ev.step (Ev.step Ev.const (fun k=>by rw [qAG.j0,if_neg (by simp),if_pos hs.1,if_pos hs.2])) hfw⟩
 have hj0:∀ k,qAG.j0 (k+1) ar W 2049 false x.f0 x.f1 x.f2 x.f3 x.f4=qAG.j1 k ar 2049 (W+1+mn (x.f2.size:Int) 2048) x.f0 x.f1 x.f2 x.f3 x.f4:=fun k=>by
  by_cases k3:x.f0=3
  ·have hs2:¬ (x.f2.size:Int) > 2048:=fun h=>hs ⟨k3,h⟩
   rw [qAG.j0,if_neg (by simp),if_pos k3,if_neg hs2,w64 (W+1) (by omega) (by omega),w64 _ (by omega) (by omega)]
   rw [mn_eq,if_neg (by omega)]
  ·have h0:x.f2.size=0:=by
    have:=q3 k3
    rw [← length_toList_]
    rw [this];rfl
   rw [qAG.j0,if_neg (by simp),if_neg k3,w64 (W+1) (by omega) (by omega)]
   rw [mn_eq,if_neg (by omega),h0]
   simp
 have hj1:∀ k,qAG.j1 (k+1) ar 2049 (W+1+mn (x.f2.size:Int) 2048) x.f0 x.f1 x.f2 x.f3 x.f4=qAG.l0 k ar 2049 (W+1+mn (x.f2.size:Int) 2048) ((0:Nat):Int) x.f0 x.f1 x.f2 x.f3 x.f4:=fun k=>by
  rw [qAG.j1];rfl
 have hwtx:∀ W':Int,W+1+mn (x.f2.size:Int) 2048+(qB9 x.f0 x.f3 x.f4 0:Int)≤W'→W+(wt x:Int)≤W':=by
  intro W' hh
  have hsz:mn (x.f2.size:Int) 2048=(x.f2.size:Int):=by
   rw [mn_eq]
   split
   ·rename_i hgt
    by_cases k3:x.f0=3
    ·exact absurd ⟨k3,by omega⟩ hs
    ·have h0:x.f2.size=0:=by
      have:=q3 k3
      rw [← length_toList_]
      rw [this];rfl
     omega
   ·rfl
  have hkeys:((x.f4.map fun s=>1+s.size).sum:Nat)=if x.f0=5 then ((x.f4.drop 0).map fun s=>1+s.size).sum else 0:=by
   split
   ·simp
   ·rename_i k5
    have h40:x.f4=[]:=by
     rcases qCO h3 h4 hf with z | z | z | z | z | z
     all_goals first | exact List.eq_nil_of_length_eq_zero z.2.2.2.2 | exact List.eq_nil_of_length_eq_zero z.2.2.2 | exact absurd z.1 k5
    rw [h40];rfl
  have e1:(wt x:Int)=1+(x.f2.size:Int)+(qB9 x.f0 x.f3 x.f4 0:Int):=by
   rw [wt_eq,hkeys]
   unfold qB9
   simp only [List.drop_zero]
   omega
  omega
 generalize hV:W+1+mn (x.f2.size:Int) 2048=V at *
 by_cases hV2:2048 < V
 ·right
  refine ⟨_,_,Ev.step Ev.const (fun k=>by rw [qAH.w,ea,ew,if_neg hd,if_pos hV2]),Ev.step (Ev.step (Ev.step ?_ hj1) hj0) hfw⟩
  refine Ev.step (h:=fun k=>qAG.j3 k ar 2049 V ((0:Nat):Int) false x.f0 x.f1 x.f2 x.f3 x.f4) ?_ (fun k => ?_)
  ·exact Ev.step Ev.const (fun k=>by rw [qAG.j3,if_neg (by simp),if_pos (by omega)])
  ·rw [qAG.l0]
   split
   ·rw [decide_eq_false (by omega)]
   ·rfl
 have hmw:∀ k,qAH.w (k+1) x.f0 x.f1 x.f2 x.f3 x.f4 ar D W=qAH.l k x.f0 x.f1 x.f2 x.f3 x.f4 ar (mx D (ar+1)) V ((0:Nat):Int):=fun k=>by
  rw [qAH.w,ea,ew,if_neg hd,if_neg hV2,qAj.f,hf];rfl
 have hdp:∀ k,qAu.f (k+1) x.f0 x.f1 x.f2 x.f3 x.f4=qAu.l0 k 0 ((0:Nat):Int) x.f0 x.f1 x.f2 x.f3 x.f4:=fun k=>by
  rw [qAu.f];rfl
 rcases loop_eq x.f0 x.f1 x.f2 x.f3 x.f4 ih h3 q5 k4 ar D ha0 ha7 hD0 x.f3.length 0 (by omega) (mx D (ar+1)) V 0 (by simp) (by omega) (by omega) (by omega) (by omega) with ⟨D',W',d,a1,a2,a3,a4,a5,a6,a7,a8,a9⟩ | ⟨D',W',a1,a2⟩
 ·exact Or.inl ⟨D',W',d,Ev.step a1 hmw,Ev.step (Ev.step (Ev.step a2 hj1) hj0) hfw,Ev.step a3 hdp,a4,a5,a6,by omega,a8,Frm.mk x hf (by simpa using a9),hwtx W' a7⟩
 ·exact Or.inr ⟨D',W',Ev.step a1 hmw,Ev.step (Ev.step (Ev.step a2 hj1) hj0) hfw⟩
end Go.Proofs.Ytdommiicjpjfpaa.X
namespace Go.Proofs.Ytdommiicjpjfpaa.X
open Go.RowKit Go.Proofs.Ytdommiicjpjfpaa.Pl Go.Proofs.YtdommiicjpjfpaaW.PrintWords Go.Proofs.YtdommiicjpjfpaaW.PrintLast Go.Proofs.YtdommiicjpjfpaaW.PrintMore Go.Proofs.YtdommiicjpjfpaaW
def recs:List (List Int)→List ByteArray→List Int
 | e :: es,k :: ks=>putU (k.size:Int) ++ (bytesOf k ++ (e ++ recs es ks))
 | _,_=>[]
def en (x:S34):List Int :=
 if x.f0=1 then [1+x.f1]
 else if x.f0=2 then 3 :: putU (zz x.f1)
 else if x.f0=3 then 4 :: (putU (x.f2.size:Int) ++ bytesOf x.f2)
 else if x.f0=4 then 5 :: (putU (x.f3.length:Int) ++ (x.f3.map fun y=>en y).flatten)
 else if x.f0=5 then 6 :: (putU (x.f3.length:Int) ++ recs (x.f3.map fun y=>en y) x.f4)
 else [0]
termination_by SizeOf.sizeOf x
decreasing_by all_goals exact mem_lt (by assumption)
theorem en_eq (x:S34):en x=if x.f0=1 then [1+x.f1]
 else if x.f0=2 then 3 :: putU (zz x.f1)
 else if x.f0=3 then 4 :: (putU (x.f2.size:Int) ++ bytesOf x.f2)
 else if x.f0=4 then 5 :: (putU (x.f3.length:Int) ++ (x.f3.map en).flatten)
 else if x.f0=5 then 6 :: (putU (x.f3.length:Int) ++ recs (x.f3.map en) x.f4)
 else [0]:=by rw [en]
theorem en0 {x:S34} (h:x.f0=0):en x=[0]:=by rw [en_eq,if_neg (by omega),if_neg (by omega),if_neg (by omega),if_neg (by omega),if_neg (by omega)]
theorem en1 {x:S34} (h:x.f0=1):en x=[1+x.f1]:=by rw [en_eq,if_pos h]
theorem en2 {x:S34} (h:x.f0=2):en x=3 :: putU (zz x.f1):=by rw [en_eq,if_neg (by omega),if_pos h]
theorem en3 {x:S34} (h:x.f0=3):en x=4 :: (putU (x.f2.size:Int) ++ bytesOf x.f2):=by rw [en_eq,if_neg (by omega),if_neg (by omega),if_pos h]
theorem en4 {x:S34} (h:x.f0=4):en x=5 :: (putU (x.f3.length:Int) ++ (x.f3.map en).flatten):=by rw [en_eq,if_neg (by omega),if_neg (by omega),if_neg (by omega),if_pos h]
theorem en5 {x:S34} (h:x.f0=5):en x=6 :: (putU (x.f3.length:Int) ++ recs (x.f3.map en) x.f4):=by rw [en_eq,if_neg (by omega),if_neg (by omega),if_neg (by omega),if_neg (by omega),if_pos h]
theorem en_pos (x:S34):0 < (en x).length:=by
 rw [en_eq]
 repeat' split
 all_goals simp
theorem flat_len:∀ (l:List S34),(∀ y ∈ l,(en y).length≤12 * wt y)→((l.map en).flatten).length≤12 * (l.map wt).sum
 | [],_=>by simp
 | a :: l,h=>by
  have h1:=h a List.mem_cons_self
  have h2:=flat_len l (fun y hy=>h y (List.mem_cons_of_mem _ hy))
  simp only [List.map_cons,List.flatten_cons,List.length_append,List.sum_cons]
  omega
theorem recs_len:∀ (l:List S34) (ks:List ByteArray),(∀ y ∈ l,(en y).length≤12 * wt y)→(recs (l.map en) ks).length≤12 * ((l.map wt).sum+(ks.map fun s=>1+s.size).sum)
 | [],ks,_=>by simp [recs]
 | a :: l,[],_=>by simp [recs]
 | a :: l,k :: ks,h=>by
  have h1:=h a List.mem_cons_self
  have h2:=recs_len l ks (fun y hy=>h y (List.mem_cons_of_mem _ hy))
  have h3:=qBr (k.size:Int)
  simp only [List.map_cons,recs,List.length_append,List.sum_cons,qBM]
  omega
theorem en_len (x:S34) (hv:Val x):(en x).length≤12 * wt x∧0 < (en x).length:=by
 induction hv with
 | mk x a0 b0 a1 b1 h2 h3 h4 k4 _ ih =>
 have ih':∀ y ∈ x.f3,(en y).length≤12 * wt y:=fun y hy=>(ih y hy).1
 rw [wt_eq]
 by_cases c1:x.f0=1
 ·rw [en1 c1];simp only [List.length_cons,List.length_nil];omega
 by_cases c2:x.f0=2
 ·have:=qBr (zz x.f1)
  rw [en2 c2];simp only [List.length_cons];omega
 by_cases c3:x.f0=3
 ·have:=qBr (x.f2.size:Int)
  rw [en3 c3];simp only [List.length_cons,List.length_append,qBM];omega
 by_cases c4:x.f0=4
 ·have:=qBr (x.f3.length:Int)
  have:=flat_len x.f3 ih'
  rw [en4 c4];simp only [List.length_cons,List.length_append];omega
 by_cases c5:x.f0=5
 ·have:=qBr (x.f3.length:Int)
  have:=recs_len x.f3 x.f4 ih'
  rw [en5 c5];simp only [List.length_cons,List.length_append];omega
 rw [en_eq,if_neg c1,if_neg c2,if_neg c3,if_neg c4,if_neg c5]
 simp only [List.length_cons,List.length_nil];omega
theorem at_drop (l:List S34) (i:Nat) (h:i < l.length):l.drop i=qAR l (i:Int) :: l.drop (i+1):=by
 have e:qAR l (i:Int)=l[i]:=by
  unfold qAR
  rw [show ((i:Int)).toNat=i from by omega,List.getD_eq_getElem?_getD,List.getElem?_eq_getElem h];rfl
 rw [List.drop_eq_getElem_cons h,e]
theorem at_dropB (l:List ByteArray) (i:Nat) (h:i < l.length):l.drop i=rdOf ByteArray.empty l (i:Int) :: l.drop (i+1):=by
 have e:rdOf ByteArray.empty l (i:Int)=l[i]:=by
  unfold rdOf
  rw [show ((i:Int)).toNat=i from by omega,List.getD_eq_getElem?_getD,List.getElem?_eq_getElem h];rfl
 rw [List.drop_eq_getElem_cons h,e]
theorem at_mem (l:List S34) (i:Nat) (h:i < l.length):qAR l (i:Int) ∈ l:=by
 have:=at_drop l i h
 exact List.mem_of_mem_drop (i:=i) (by rw [this];exact List.mem_cons_self)
def Puts (x:S34):Prop:=∀ b:List Int,b.length+(en x).length+64≤140737488355328→Ev (fun k=>qAU.w k b x.f0 x.f1 x.f2 x.f3 x.f4) (b ++ en x)
theorem la_ev (f3:List S34) (hl:f3.length≤9223372036854775000) (hg:∀ y ∈ f3,Puts y):∀ (rem i:Nat) (b:List Int),i+rem=f3.length→b.length+(((f3.drop i).map en).flatten).length+64≤140737488355328 →
  Ev (fun k=>qAU.la k b f3 (i:Int)) (b ++ ((f3.drop i).map en).flatten):=by
 intro rem
 induction rem with
 | zero =>
  intro i b hi hb
  rw [List.drop_eq_nil_of_le (by omega)]
  exact Ev.step Ev.const (fun k=>by rw [qAU.la,if_neg (by omega)];simp)
 | succ rem ih =>
  intro i b hi hb
  have ei:wrap64 ((i:Int)+1)=((i+1:Nat):Int):=by rw [X.w64 _ (by omega) (by omega)];omega
  have hd:=at_drop f3 i (by omega)
  have hx:=hg _ (at_mem f3 i (by omega))
  rw [hd] at hb ⊢
  simp only [List.map_cons,List.flatten_cons,List.length_append] at hb ⊢
  generalize hxe:qAR f3 (i:Int)=x at *
  refine Ev.step (h:=fun k=>(qAU.w k b x.f0 x.f1 x.f2 x.f3 x.f4).bind fun b=>qAU.la k b f3 ((i+1:Nat):Int)) ?_ (fun k=>by rw [qAU.la,if_pos (by omega),if_pos (by omega),hxe,ei])
  refine Ev.bind (F:=fun k b=>qAU.la k b f3 ((i+1:Nat):Int)) (hx b (by omega)) ?_
  have:=ih (i+1) (b ++ en x) (by omega) (by simp only [List.length_append];omega)
  rwa [List.append_assoc] at this
theorem lr_ev (f3:List S34) (f4:List ByteArray) (h34:f4.length=f3.length) (hl:f3.length≤9223372036854775000) (hg:∀ y ∈ f3,Puts y):∀ (rem i:Nat) (b:List Int),i+rem=f3.length→b.length+(recs ((f3.drop i).map en) (f4.drop i)).length+64≤140737488355328 →
  Ev (fun k=>qAU.lr k b f3 f4 (i:Int)) (b ++ recs ((f3.drop i).map en) (f4.drop i)):=by
 intro rem
 induction rem with
 | zero =>
  intro i b hi hb
  rw [List.drop_eq_nil_of_le (by omega)]
  exact Ev.step Ev.const (fun k=>by rw [qAU.lr,if_neg (by omega)];simp [recs])
 | succ rem ih =>
  intro i b hi hb
  have ei:wrap64 ((i:Int)+1)=((i+1:Nat):Int):=by rw [X.w64 _ (by omega) (by omega)];omega
  have hx:=hg _ (at_mem f3 i (by omega))
  rw [at_drop f3 i (by omega),at_dropB f4 i (by omega)] at hb ⊢
  simp only [List.map_cons,recs,List.length_append,qBM] at hb ⊢
  generalize hxe:qAR f3 (i:Int)=x at *
  generalize hke:rdOf ByteArray.empty f4 (i:Int)=s at *
  refine Ev.step (h:=fun k=>(qBT.f k b s).bind fun b=>(qAU.w k b x.f0 x.f1 x.f2 x.f3 x.f4).bind fun b=>qAU.lr k b f3 f4 ((i+1:Nat):Int)) ?_ (fun k=>by rw [qAU.lr,if_pos (by omega),if_pos (by omega),if_pos (by omega),hxe,hke,ei])
  refine Ev.bind (F:=fun k b=>(qAU.w k b x.f0 x.f1 x.f2 x.f3 x.f4).bind fun b=>qAU.lr k b f3 f4 ((i+1:Nat):Int)) (a:=b ++ putU (s.size:Int) ++ bytesOf s) ⟨10,fun k hk=>PutText_eq k b s hk (by omega)⟩ ?_
  have h1:=hx (b ++ putU (s.size:Int) ++ bytesOf s) (by simp only [List.length_append,qBM];omega)
  refine Ev.bind (F:=fun k b=>qAU.lr k b f3 f4 ((i+1:Nat):Int)) h1 ?_
  have:=ih (i+1) (b ++ putU (s.size:Int) ++ bytesOf s ++ en x) (by omega) (by simp only [List.length_append,qBM];omega)
  simpa only [List.append_assoc] using this
theorem app_eq (b:List Int) (x:Int) (h:b.length+1≤140737488355328):qAU.app b x=some (b ++ [x]):=by unfold qAU.app;rw [if_pos h]
theorem put_ev (x:S34) (hv:Val x) (hF:Frm x):Puts x:=by
 induction hv with
 | mk x a0 b0 a1 b1 h2 h3 h4 k4 _ ih =>
 obtain ⟨_,hf,hk⟩:=hF
 intro b hb
 have hg:∀ y ∈ x.f3,Puts y:=fun y hy=>ih y hy (hk y hy)
 rcases qCO h3 h4 hf with ⟨z,_⟩ | ⟨z,z1,_⟩ | ⟨z,_⟩ | ⟨z,_⟩ | ⟨z,_,_,z4⟩ | ⟨z,_,_,z4⟩
 ·rw [en0 z] at hb ⊢
  simp only [List.length_cons,List.length_nil] at hb
  exact Ev.step Ev.const (fun k=>by rw [qAU.w,z];simp [app_eq b 0 (by omega)])
 ·rw [en1 z] at hb ⊢
  simp only [List.length_cons,List.length_nil] at hb
  have e:IntKind.u8.wrap (wrap64 (1+x.f1))=1+x.f1:=by rcases z1 with z1 | z1 <;> simp [z1,wrap64,IntKind.wrap,IntKind.bits,IntKind.signed]
  exact Ev.step Ev.const (fun k=>by rw [qAU.w,z,if_pos rfl,e,app_eq b _ (by omega)])
 ·rw [en2 z] at hb ⊢
  simp only [List.length_cons] at hb
  have hp:=qBr (zz x.f1)
  refine Ev.step (h:=fun k=>qBy.f k (b ++ [3]) x.f1) ⟨10,fun k hk => ?_⟩ (fun k=>by rw [qAU.w,z,if_neg (by omega),if_pos rfl,app_eq b 3 (by omega),Option.bind_some])
  show qBy.f k (b ++ [3]) x.f1=_
  rw [PutInt_eq k (b ++ [3]) x.f1 hk a1 b1 (by simp only [List.length_append,List.length_cons,List.length_nil];omega)]
  simp
 ·rw [en3 z] at hb ⊢
  simp only [List.length_cons,List.length_append,qBM] at hb
  refine Ev.step (h:=fun k=>qBT.f k (b ++ [4]) x.f2) ⟨10,fun k hk => ?_⟩ (fun k=>by rw [qAU.w,z,if_neg (by omega),if_neg (by omega),if_pos rfl,app_eq b 4 (by omega),Option.bind_some])
  show qBT.f k (b ++ [4]) x.f2=_
  rw [PutText_eq k (b ++ [4]) x.f2 hk (by simp only [List.length_append,List.length_cons,List.length_nil];omega)]
  simp
 ·rw [en4 z] at hb ⊢
  simp only [List.length_cons,List.length_append] at hb
  have hp:=qBr (x.f3.length:Int)
  refine Ev.step (h:=fun k=>(qAt.f k (b ++ [5]) (x.f3.length:Int)).bind fun b=>qAU.la k b x.f3 0) ?_ (fun k=>by rw [qAU.w,z,if_neg (by omega),if_neg (by omega),if_neg (by omega),if_pos rfl,app_eq b 5 (by omega),Option.bind_some,u64w _ (by omega) (by omega)])
  refine Ev.bind (F:=fun k b=>qAU.la k b x.f3 0) (a:=b ++ [5] ++ putU (x.f3.length:Int)) ⟨10,fun k hk=>qCT k (b ++ [5]) _ hk (by omega) (by omega) (by simp only [List.length_append,List.length_cons,List.length_nil];omega)⟩ ?_
  have hlen:x.f3.length≤9223372036854775000:=by
   have:∀ l:List S34,(∀ y ∈ l,0 < (en y).length)→l.length≤((l.map en).flatten).length:=by
    intro l
    induction l with
    | nil=>intro _;simp
    | cons a l ih =>
     intro h
     have h1:=h a List.mem_cons_self
     have h2:=ih (fun y hy=>h y (List.mem_cons_of_mem _ hy))
     simp only [List.map_cons,List.flatten_cons,List.length_append,List.length_cons]
     omega
   have:=this x.f3 (fun y hy=>(en_pos y))
   omega
  have:=la_ev x.f3 hlen hg x.f3.length 0 (b ++ [5] ++ putU (x.f3.length:Int)) (by omega) (by simp only [List.length_append,List.length_cons,List.length_nil,List.drop_zero];omega)
  rw [List.drop_zero] at this
  simp only [Int.natCast_zero] at this
  simpa only [List.append_assoc,List.cons_append,List.nil_append] using this
 ·rw [en5 z] at hb ⊢
  simp only [List.length_cons,List.length_append] at hb
  have hp:=qBr (x.f3.length:Int)
  refine Ev.step (h:=fun k=>(qAt.f k (b ++ [6]) (x.f3.length:Int)).bind fun b=>qAU.lr k b x.f3 x.f4 0) ?_ (fun k=>by rw [qAU.w,z,if_neg (by omega),if_neg (by omega),if_neg (by omega),if_neg (by omega),if_pos rfl,app_eq b 6 (by omega),Option.bind_some,u64w _ (by omega) (by omega)])
  refine Ev.bind (F:=fun k b=>qAU.lr k b x.f3 x.f4 0) (a:=b ++ [6] ++ putU (x.f3.length:Int)) ⟨10,fun k hk=>qCT k (b ++ [6]) _ hk (by omega) (by omega) (by simp only [List.length_append,List.length_cons,List.length_nil];omega)⟩ ?_
  have hlen:x.f3.length≤9223372036854775000:=by
   have:∀ (l:List S34) (ks:List ByteArray),ks.length=l.length→l.length≤(recs (l.map en) ks).length:=by
    intro l
    induction l with
    | nil=>intro ks _;simp
    | cons a l ih =>
     intro ks h
     cases ks with
     | nil=>simp at h
     | cons s ks =>
      have h2:=ih ks (by simpa using h)
      have h3:=qBr (s.size:Int)
      simp only [List.map_cons,recs,List.length_append,List.length_cons]
      omega
   have:=this x.f3 x.f4 z4
   omega
  have:=lr_ev x.f3 x.f4 z4 hlen hg x.f3.length 0 (b ++ [6] ++ putU (x.f3.length:Int)) (by omega) (by simp only [List.length_append,List.length_cons,List.length_nil,List.drop_zero];omega)
  rw [List.drop_zero,List.drop_zero] at this
  simp only [Int.natCast_zero] at this
  simpa only [List.append_assoc,List.cons_append,List.nil_append] using this
end Go.Proofs.Ytdommiicjpjfpaa.X
namespace Go.Proofs.Ytdommiicjpjfpaa.Pl
open Go.RowKit Go.Proofs.Ytdommiicjpjfpaa.X Go.Proofs.YtdommiicjpjfpaaW.PrintWords Go.Proofs.YtdommiicjpjfpaaW.PrintLast Go.Proofs.YtdommiicjpjfpaaW.PrintMore
def fin (a:Int) (r:Int × Int × Int):Int × Int × Int:=(r.1,if r.2.2=0 then a+r.2.1 else 0,r.2.2)
def qAd (l:List Int) (a:Int):Int × Int × Int:=if a < 0 ∨ a > l.length then (0,0,10) else fin a (rdU 10 0 (l.drop a.toNat) 0)
theorem rd_get (l:List Int) (i:Nat) (h:i < l.length):rd l (i:Int)=l[i]:=by
 unfold rd
 rw [Int.toNat_natCast,List.getD_eq_getElem?_getD,List.getElem?_eq_getElem h]
 rfl
theorem shl_pow (i:Nat) (x:Int) (hi:i≤9) (h0:0≤x) (h1:x * 128 ^ i < 18446744073709551616):shl .u64 x (wrap64 (7 * (i:Int)))=x * 128 ^ i:=by
 rw [w64 _ (by omega) (by omega)]
 unfold shl
 rw [show min (7 * (i:Int)).toNat IntKind.u64.bits=7 * i by simp [IntKind.bits];omega]
 have e:(2:Int) ^ (7 * i)=128 ^ i:=by rw [Int.pow_mul];rfl
 rw [e,u64w _ (Int.mul_nonneg h0 (Int.le_of_lt (pow_pos' i))) h1]
theorem or_byte (i:Nat) (n c:Int) (hi:i≤9) (h0:0≤n) (h1:n < 128 ^ i) (hc0:0≤c) (hc1:c≤255) (h9:i=9→c≤1) :
  bits .or .u64 n (shl .u64 (IntKind.u64.wrap (bits .and .u8 c 127)) (wrap64 (7 * (i:Int))))=n+c % 128 * 128 ^ i:=by
 have hlt:c % 128 * 128 ^ i < 18446744073709551616:=by
  by_cases e:i=9
  ·subst e;rw [pow9];have:=h9 rfl;omega
  ·have hle:(128:Int) ^ i≤128 ^ 8:=by exact_mod_cast Nat.pow_le_pow_right (by decide) (show i≤8 by omega)
   have e8:(128:Int) ^ 8=72057594037927936:=by decide
   have hm:c % 128 * 128 ^ i≤128 * 128 ^ i:=Int.mul_le_mul_of_nonneg_right (by omega) (Int.le_of_lt (pow_pos' i))
   omega
 have e:(2:Int) ^ (7 * i)=128 ^ i:=by rw [Int.pow_mul];rfl
 rw [and127 c hc0 (by omega),u64w _ (by omega) (by omega),shl_pow i _ hi (by omega) hlt]
 refine or_low (7 * i) n _ h0 (by rw [e];exact h1) (Int.mul_nonneg (by omega) (Int.le_of_lt (pow_pos' i))) ?_ (by omega) (by omega)
 rw [e]
 exact Int.mul_emod_left _ _
theorem uint_l0 (l:List Int) (hb:Bytes l) (a:Int) (ha0:0≤a) (ha1:a≤9223372036854775000) (d:Nat):∀ (k i:Nat) (n:Int),i+d=10→2 * d < k→0≤n→n < 128 ^ i→i≤l.length →
  qAq.l0 k a l n i=some (fin a (rdU d i (l.drop i) n)):=by
 induction d with
 | zero =>
  intro k i n hi hk h0 h1 hl
  obtain ⟨k,rfl⟩:∃ m,k=m+1:=⟨k - 1,by omega⟩
  simp only [qAq.l0]
  rw [if_neg (by omega)]
  rfl
 | succ d ih =>
  intro k i n hi hk h0 h1 hl
  obtain ⟨k,rfl⟩:∃ m,k=m+2:=⟨k - 2,by omega⟩
  have hi9:i≤9:=by omega
  by_cases he:i=l.length
  ·simp only [qAq.l0]
   rw [if_pos (by omega),if_pos (by omega),List.drop_eq_nil_of_le (by omega)]
   rfl
  ·have hlt:i < l.length:=by omega
   have hc:=hb l[i] (List.getElem_mem _)
   rw [List.drop_eq_getElem_cons hlt]
   generalize hcc:l[i]=c at hc ⊢
   have hr:rd l (i:Int)=c:=by rw [rd_get l i hlt,hcc]
   have J:∀ b:Bool,b=decide ((d=0∧c > 1) ∨ (0 < i∧c=0))→qAq.j2 (k+1) a l n i c i b=some (fin a (rdU (d+1) i (c :: l.drop (i+1)) n)):=by
    intro b hbt
    simp only [qAq.j2,rdU]
    by_cases hbad:(d=0∧c > 1) ∨ (0 < i∧c=0)
    ·rw [if_pos (by rw [hbt];simpa using hbad),if_pos hbad];rfl
    ·rw [if_neg (by rw [hbt];simpa using hbad),if_neg hbad,if_pos (by rw [w64 _ (by omega) (by omega)];omega)]
     have h9:i=9→c≤1:=by
      rintro rfl
      have:¬ (d=0∧c > 1):=fun z=>hbad (.inl z)
      omega
     rw [or_byte i n c hi9 h0 h1 hc.1 hc.2 h9]
     by_cases h128:c < 128
     ·rw [if_pos h128,if_pos h128,show c % 128=c by omega]
      simp only [fin,if_true]
      rw [w64 (a+i) (by omega) (by omega),w64 _ (by omega) (by omega)]
      rw [show a+↑i+1=a+(↑i+1) by omega]
     ·rw [if_neg h128,if_neg h128,show c % 128=c - 128 by omega,w64 _ (by omega) (by omega)]
      have:=ih k (i+1) (n+(c - 128) * 128 ^ i) (by omega) (by omega) (Int.add_nonneg h0 (Int.mul_nonneg (by omega) (Int.le_of_lt (pow_pos' i)))) ?_ (by omega)
      ·exact this
      ·rw [pow_s]
       have:(c - 128) * 128 ^ i≤127 * 128 ^ i:=Int.mul_le_mul_of_nonneg_right (by omega) (Int.le_of_lt (pow_pos' i))
       omega
   have eq0:(c == 0)=decide (c=0):=by by_cases z:c=0 <;> simp [z]
   simp only [qAq.l0]
   rw [if_pos (by omega),if_neg (by omega),if_pos (by omega),if_pos (by omega),hr]
   by_cases h9:(i:Int)=9
   ·have hd:d=0:=by omega
    rw [if_pos h9]
    by_cases h1':c > 1
    ·rw [if_pos h1'];exact J _ (by simp [hd,h1'])
    ·rw [if_neg h1',if_pos (by omega)]
     refine J _ ?_
     rw [eq0]
     have:0 < i:=by omega
     simp [h1',this]
   ·have hd:d ≠ 0:=by omega
    rw [if_neg h9]
    by_cases hp:(i:Int) > 0
    ·rw [if_pos hp]
     refine J _ ?_
     rw [eq0]
     have:0 < i:=by omega
     simp [hd,this]
    ·rw [if_neg hp]
     refine J _ ?_
     have:¬ 0 < i:=by omega
     simp [hd,this]
theorem Uint_eq (k:Nat) (hk:24≤k) (l:List Int) (hb:Bytes l) (hl:l.length≤9223372036854775000) (a:Int):qAq.f k l a=some (qAd l a):=by
 obtain ⟨k,rfl⟩:∃ m,k=m+1:=⟨k - 1,by omega⟩
 unfold qAq.f qAd
 by_cases h0:a < 0
 ·rw [if_pos h0,if_pos (.inl h0)]
  simp [qAq.j0]
 ·rw [if_neg h0]
  simp only [qAq.j0]
  by_cases h1:a > l.length
  ·rw [if_pos (by simpa using h1),if_pos (.inr h1)]
  ·rw [if_neg (by simpa using h1),if_pos (by omega),if_pos (by omega),if_neg (by omega)]
   have:=uint_l0 (l.drop a.toNat) (hb.drop _) a (by omega) (by omega) 10 k 0 0 rfl (by omega) (by omega) (by simp) (by omega)
   simpa using this
theorem rdU_range (d:Nat):∀ (i:Nat) (l:List Int) (n:Int),i+d=10→Bytes l→0≤n→n < 128 ^ i→0≤(rdU d i l n).1∧(rdU d i l n).1 < 18446744073709551616:=by
 induction d with
 | zero=>intro i l n _ _ _ _;simp [rdU]
 | succ d ih =>
  intro i l n hi hl h0 h1
  match l,hl with
  | [],_=>simp [rdU]
  | c :: t,hl =>
   have hc:=hl c List.mem_cons_self
   simp only [rdU]
   split
   ·simp
   ·rename_i hbad
    have hlt:n+c % 128 * 128 ^ i < 18446744073709551616∧n+c % 128 * 128 ^ i < 128 ^ (i+1):=by
     have hm:c % 128 * 128 ^ i≤127 * 128 ^ i:=Int.mul_le_mul_of_nonneg_right (by omega) (Int.le_of_lt (pow_pos' i))
     refine ⟨?_,by rw [pow_s];omega⟩
     by_cases e:i=9
     ·subst e
      have:¬ (d=0∧c > 1):=fun z=>hbad (.inl z)
      rw [pow9] at *
      omega
     ·have hle:(128:Int) ^ i≤128 ^ 8:=by exact_mod_cast Nat.pow_le_pow_right (by decide) (show i≤8 by omega)
      have e8:(128:Int) ^ 8=72057594037927936:=by decide
      omega
    have hn:0≤c % 128 * 128 ^ i:=Int.mul_nonneg (by omega) (Int.le_of_lt (pow_pos' i))
    split
    ·rw [show c % 128=c by omega] at hlt hn
     exact ⟨by show 0≤n+c * 128 ^ i;omega,hlt.1⟩
    ·rw [show c % 128=c - 128 by omega] at hlt hn
     exact ih (i+1) t _ (by omega) (fun z hz=>hl z (List.mem_cons_of_mem _ hz)) (by omega) hlt.2
theorem qA9 (l:List Int) (hb:Bytes l) (a:Int):0≤(qAd l a).1∧(qAd l a).1 < 18446744073709551616:=by
 unfold qAd
 split
 ·simp
 ·exact rdU_range 10 0 _ 0 rfl (hb.drop _) (by omega) (by simp)
theorem uintAt_err (l:List Int) (a:Int) (h:(qAd l a).2.2 ≠ 0):(qAd l a).1=0∧(qAd l a).2.1=0:=by
 unfold qAd at h ⊢
 split
 ·simp
 ·rename_i h1
  rw [if_neg h1] at h
  rcases rdU_err 10 0 (l.drop a.toNat) 0 with e | e | e
  ·exact absurd e h
  ·rw [e];simp [fin]
  ·rw [e];simp [fin]
def qCJ (l:List Int) (a:Int):Int × Int × Int:=(unzz (qAd l a).1,(qAd l a).2.1,(qAd l a).2.2)
theorem Int_eq (k:Nat) (hk:24≤k) (l:List Int) (hb:Bytes l) (hl:l.length≤9223372036854775000) (a:Int):num_Int.f k l a=some (qCJ l a):=by
 have hr:=qA9 l hb a
 unfold num_Int.f qCJ
 rw [Uint_eq k hk l hb hl a]
 simp only [Option.bind_some]
 rw [and1 _ hr.1 hr.2,w64 ((qAd l a).1 / 2) (by omega) (by omega),w64 ((qAd l a).1 % 2) (by omega) (by omega),w64 (-((qAd l a).1 % 2)) (by omega) (by omega)]
 congr 2
 unfold unzz
 by_cases h:(qAd l a).1 % 2=1
 ·rw [if_pos h,h,xor1 _ (by omega) (by omega)]
 ·rw [if_neg h,show (qAd l a).1 % 2=0 by omega]
  exact xor0 _ (by omega) (by omega)
theorem qBb (l:List Int) (hb:Bytes l) (a:Int) (h:(qAd l a).2.2=0):0≤a∧a < (qAd l a).2.1∧(qAd l a).2.1≤a+10∧(qAd l a).2.1≤l.length∧(l.drop a.toNat).take ((qAd l a).2.1 - a).toNat=putU (qAd l a).1:=by
 unfold qAd at h ⊢
 split
 ·rename_i h1;rw [if_pos h1] at h;simp at h
 ·rename_i h1
  rw [if_neg h1] at h
  have h':(rdU 10 0 (l.drop a.toNat) 0).2.2=0:=h
  obtain ⟨_,_,h4,h5,h6,h7⟩:=rdU_form (l.drop a.toNat) (hb.drop _) (rdU 10 0 (l.drop a.toNat) 0).1 (rdU 10 0 (l.drop a.toNat) 0).2.1 (Prod.ext rfl (Prod.ext rfl h'))
  rw [List.length_drop] at h7
  simp only [fin,h',if_true]
  refine ⟨by omega,by omega,by omega,by omega, ?_⟩
  rw [show a+(rdU 10 0 (l.drop a.toNat) 0).2.1 - a=(rdU 10 0 (l.drop a.toNat) 0).2.1 by omega]
  exact h4
end Go.Proofs.Ytdommiicjpjfpaa.Pl
namespace Go.Proofs.Ytdommiicjpjfpaa.X
open Go.ChangeShapes Go.WideShapes Go.ChangeAt Go.RowKit Go.Proofs.YtdommiicjpjfpaaW.PrintWords Go.Proofs.YtdommiicjpjfpaaW
inductive Siz:S34→Prop
 | mk (x:S34) (h2:x.f2.size≤140737488351232) (h3:x.f3.length * 80≤140737488351232) (h4:x.f4.length * 16≤140737488351232) (k4:∀ s ∈ x.f4,s.size≤140737488351232) (k3:∀ y ∈ x.f3,Siz y):Siz x
section
variable {H:Type} {enc:TypeId × Value→H} {P:Program} {w:World} {held:Bool} {spare:Nat→Bool}
end
section
variable {H:Type} {enc:TypeId × Value→H} {w:World} {held:Bool} {spare:Nat→Bool}
end
end Go.Proofs.Ytdommiicjpjfpaa.X
namespace Go.Proofs.Ytdommiicjpjfpaa.X
open Go.RowKit Go.Proofs.Ytdommiicjpjfpaa.Pl Go.Proofs.YtdommiicjpjfpaaW.PrintWords Go.Proofs.YtdommiicjpjfpaaW.PrintLast Go.Proofs.YtdommiicjpjfpaaW.PrintMore Go.Proofs.YtdommiicjpjfpaaW
theorem ext25 {x y:S34} (h0:x.f0=y.f0) (h1:x.f1=y.f1) (h2:x.f2=y.f2) (h3:x.f3=y.f3) (h4:x.f4=y.f4):x=y:=by
 cases x;cases y;simp_all
theorem bytesOf_inj {a b:ByteArray} (h:bytesOf a=bytesOf b):a=b:=by
 have:=congrArg strOfNums h
 rwa [str_bytesOf,str_bytesOf] at this
def Inj (x:S34):Prop:=∀ y,Val y→Frm y→∀ r s,en x ++ r=en y ++ s→x=y∧r=s
theorem flat_inj:∀ (xs ys:List S34) (r s:List Int),xs.length=ys.length→(∀ x ∈ xs,Inj x)→(∀ y ∈ ys,Val y∧Frm y)→(xs.map en).flatten ++ r=(ys.map en).flatten ++ s→xs=ys∧r=s
 | [],[],r,s,_,_,_,h=>⟨rfl,by simpa using h⟩
 | [],_ :: _,_,_,hl,_,_,_=>by simp at hl
 | _ :: _,[],_,_,hl,_,_,_=>by simp at hl
 | x :: xs,y :: ys,r,s,hl,hx,hy,h=>by
  simp only [List.map_cons,List.flatten_cons,List.append_assoc] at h
  obtain ⟨hv,hf⟩:=hy y List.mem_cons_self
  obtain ⟨rfl,h7⟩:=hx x List.mem_cons_self y hv hf _ _ h
  clear h
  obtain ⟨rfl,h8⟩:=flat_inj xs ys r s (by simpa using hl) (fun z hz=>hx z (List.mem_cons_of_mem _ hz)) (fun z hz=>hy z (List.mem_cons_of_mem _ hz)) h7
  exact ⟨rfl,h8⟩
theorem recs_inj:∀ (xs ys:List S34) (ks js:List ByteArray) (r s:List Int),xs.length=ys.length→ks.length=xs.length→js.length=ys.length→(∀ x ∈ xs,Inj x)→(∀ y ∈ ys,Val y∧Frm y) →
  (∀ k ∈ ks,k.size≤9223372036854775807)→(∀ k ∈ js,k.size≤9223372036854775807)→recs (xs.map en) ks ++ r=recs (ys.map en) js ++ s→xs=ys∧ks=js∧r=s
 | [],[],[],[],r,s,_,_,_,_,_,_,_,h=>⟨rfl,rfl,by simpa [recs] using h⟩
 | [],[],_ :: _,_,_,_,_,hk,_,_,_,_,_,_=>by simp at hk
 | [],[],[],_ :: _,_,_,_,_,hj,_,_,_,_,_=>by simp at hj
 | [],_ :: _,_,_,_,_,hl,_,_,_,_,_,_,_=>by simp at hl
 | _ :: _,[],_,_,_,_,hl,_,_,_,_,_,_,_=>by simp at hl
 | _ :: _,_ :: _,[],_,_,_,_,hk,_,_,_,_,_,_=>by simp at hk
 | _ :: _,_ :: _,_ :: _,[],_,_,_,_,hj,_,_,_,_,_=>by simp at hj
 | x :: xs,y :: ys,k :: ks,j :: js,r,s,hl,hk,hj,hx,hy,sk,sj,h=>by
  have k1:=sk k List.mem_cons_self
  have j1:=sj j List.mem_cons_self
  simp only [List.map_cons,recs,List.append_assoc] at h
  obtain ⟨e,h5⟩:=qCB _ _ _ _ (by omega) (by omega) (by omega) (by omega) h
  obtain ⟨e2,h6⟩:=List.append_inj h5 (by rw [qBM,qBM];omega)
  clear h h5
  obtain rfl:=bytesOf_inj e2
  obtain ⟨hv,hf⟩:=hy y List.mem_cons_self
  obtain ⟨rfl,h7⟩:=hx x List.mem_cons_self y hv hf _ _ h6
  clear h6
  obtain ⟨rfl,rfl,h8⟩:=recs_inj xs ys ks js r s (by simpa using hl) (by simpa using hk) (by simpa using hj) (fun z hz=>hx z (List.mem_cons_of_mem _ hz)) (fun z hz=>hy z (List.mem_cons_of_mem _ hz)) (fun z hz=>sk z (List.mem_cons_of_mem _ hz)) (fun z hz=>sj z (List.mem_cons_of_mem _ hz)) h7
  exact ⟨rfl,rfl,h8⟩
def tg (x:S34):Int:=if x.f0=1 then 1+x.f1 else if x.f0=0 then 0 else x.f0+1
theorem en_tg {x:S34} (h3:x.f3.length≤9223372036854775807) (h4:x.f4.length≤9223372036854775807) (h:qAj.b x.f0 x.f1 x.f2 x.f3.length x.f4.length=true):∃ l,en x=tg x :: l:=by
 unfold tg
 rcases qCO h3 h4 h with ⟨z,_⟩ | ⟨z,z1,_⟩ | ⟨z,_⟩ | ⟨z,_⟩ | ⟨z,_,_,z4⟩ | ⟨z,_,_,z4⟩
 ·exact ⟨_,by rw [en0 z,if_neg (by omega),if_pos z]⟩
 ·exact ⟨_,by rw [en1 z,if_pos z]⟩
 ·exact ⟨_,by rw [en2 z,if_neg (by omega),if_neg (by omega),z];rfl⟩
 ·exact ⟨_,by rw [en3 z,if_neg (by omega),if_neg (by omega),z];rfl⟩
 ·exact ⟨_,by rw [en4 z,if_neg (by omega),if_neg (by omega),z];rfl⟩
 ·exact ⟨_,by rw [en5 z,if_neg (by omega),if_neg (by omega),z];rfl⟩
theorem nil_of {f:ByteArray} (h:f.toList=[]):f=ByteArray.empty:=toList_inj (by rw [h];simp)
theorem en_inj (x:S34) (hv:Val x) (hF:Frm x):Inj x:=by
 induction hv with
 | mk x a0 b0 a1 b1 h2 h3 h4 k4 hv3 ih =>
 obtain ⟨_,hf,hk⟩:=hF
 intro y hy hFy r s h
 have hi:∀ z ∈ x.f3,Inj z:=fun z hz=>ih z hz (hk z hz)
 obtain ⟨_,c0,d0,c1,d1,g2,g3,g4,l4,l3⟩:=hy
 obtain ⟨_,hfy,hky⟩:=hFy
 have hyl:∀ z ∈ y.f3,Val z∧Frm z:=fun z hz=>⟨l3 z hz,hky z hz⟩
 obtain ⟨lx,ex⟩:=en_tg h3 h4 hf
 obtain ⟨ly,ey⟩:=en_tg g3 g4 hfy
 have ht:tg x=tg y:=by
  rw [ex,ey] at h
  exact (List.cons.inj h).1
 clear ex ey lx ly
 have fy:=qCO g3 g4 hfy
 have fx:=qCO h3 h4 hf
 have h00:x.f0=y.f0∧(x.f0=1→x.f1=y.f1):=by
  unfold tg at ht
  clear h hi hyl
  rcases fx with ⟨z,_⟩ | ⟨z,z1,_⟩ | ⟨z,_⟩ | ⟨z,_⟩ | ⟨z,_⟩ | ⟨z,_⟩ <;> rcases fy with ⟨u,_⟩ | ⟨u,u1,_⟩ | ⟨u,_⟩ | ⟨u,_⟩ | ⟨u,_⟩ | ⟨u,_⟩ <;> rw [z,u] at ht <;> (repeat' split at ht) <;> omega
 obtain ⟨h0,h01⟩:=h00
 rcases fx with ⟨z,z1,z2,z3,z4⟩ | ⟨z,z1,z2,z3,z4⟩ | ⟨z,z2,z3,z4⟩ | ⟨z,z1,z3,z4⟩ | ⟨z,z1,z2,z4⟩ | ⟨z,z1,z2,z4⟩
 ·rcases fy with ⟨u,u1,u2,u3,u4⟩ | ⟨u,_⟩ | ⟨u,_⟩ | ⟨u,_⟩ | ⟨u,_⟩ | ⟨u,_⟩
  ·rw [en0 z,en0 u] at h
   refine ⟨ext25 h0 (by omega) (by rw [nil_of z2,nil_of u2]) ?_ ?_,by simpa using h⟩
   ·rw [List.eq_nil_of_length_eq_zero z3,List.eq_nil_of_length_eq_zero u3]
   ·rw [List.eq_nil_of_length_eq_zero z4,List.eq_nil_of_length_eq_zero u4]
  all_goals (exfalso;omega)
 ·rcases fy with ⟨u,_⟩ | ⟨u,u1,u2,u3,u4⟩ | ⟨u,_⟩ | ⟨u,_⟩ | ⟨u,_⟩ | ⟨u,_⟩
  case inr.inl =>
   rw [en1 z,en1 u] at h
   refine ⟨ext25 h0 (h01 z) (by rw [nil_of z2,nil_of u2]) ?_ ?_,(List.cons.inj (show (1+x.f1) :: r=(1+y.f1) :: s from h)).2⟩
   ·rw [List.eq_nil_of_length_eq_zero z3,List.eq_nil_of_length_eq_zero u3]
   ·rw [List.eq_nil_of_length_eq_zero z4,List.eq_nil_of_length_eq_zero u4]
  all_goals (exfalso;omega)
 ·rcases fy with ⟨u,_⟩ | ⟨u,_⟩ | ⟨u,u2,u3,u4⟩ | ⟨u,_⟩ | ⟨u,_⟩ | ⟨u,_⟩
  case inr.inr.inl =>
   rw [en2 z,en2 u] at h
   have r1:=zz_range x.f1 a1 b1
   have r2:=zz_range y.f1 c1 d1
   obtain ⟨e,h⟩:=qCB _ _ _ _ r1.1 r1.2 r2.1 r2.2 (List.cons.inj (show (3:Int) :: (putU (zz x.f1) ++ r)=3 :: (putU (zz y.f1) ++ s) from h)).2
   refine ⟨ext25 h0 (by rw [← unzz_zz x.f1,e,unzz_zz]) (by rw [nil_of z2,nil_of u2]) ?_ ?_,h⟩
   ·rw [List.eq_nil_of_length_eq_zero z3,List.eq_nil_of_length_eq_zero u3]
   ·rw [List.eq_nil_of_length_eq_zero z4,List.eq_nil_of_length_eq_zero u4]
  all_goals (exfalso;omega)
 ·rcases fy with ⟨u,_⟩ | ⟨u,_⟩ | ⟨u,_⟩ | ⟨u,u1,u3,u4⟩ | ⟨u,_⟩ | ⟨u,_⟩
  case inr.inr.inr.inl =>
   rw [en3 z,en3 u] at h
   have h:=(List.cons.inj (show (4:Int) :: (putU (x.f2.size:Int) ++ bytesOf x.f2 ++ r)=4 :: (putU (y.f2.size:Int) ++ bytesOf y.f2 ++ s) from h)).2
   rw [List.append_assoc,List.append_assoc] at h
   obtain ⟨e,h⟩:=qCB _ _ _ _ (by omega) (by omega) (by omega) (by omega) h
   obtain ⟨e2,h⟩:=List.append_inj h (by rw [qBM,qBM];omega)
   refine ⟨ext25 h0 (by omega) (bytesOf_inj e2) ?_ ?_,h⟩
   ·rw [List.eq_nil_of_length_eq_zero z3,List.eq_nil_of_length_eq_zero u3]
   ·rw [List.eq_nil_of_length_eq_zero z4,List.eq_nil_of_length_eq_zero u4]
  all_goals (exfalso;omega)
 ·rcases fy with ⟨u,_⟩ | ⟨u,_⟩ | ⟨u,_⟩ | ⟨u,_⟩ | ⟨u,u1,u2,u4⟩ | ⟨u,_⟩
  case inr.inr.inr.inr.inl =>
   rw [en4 z,en4 u] at h
   have h:=(List.cons.inj (show (5:Int) :: (putU (x.f3.length:Int) ++ (x.f3.map en).flatten ++ r)=5 :: (putU (y.f3.length:Int) ++ (y.f3.map en).flatten ++ s) from h)).2
   rw [List.append_assoc,List.append_assoc] at h
   obtain ⟨e,h⟩:=qCB _ _ _ _ (by omega) (by omega) (by omega) (by omega) h
   obtain ⟨e3,h⟩:=flat_inj x.f3 y.f3 r s (by omega) hi hyl h
   refine ⟨ext25 h0 (by omega) (by rw [nil_of z2,nil_of u2]) e3 ?_,h⟩
   rw [List.eq_nil_of_length_eq_zero z4,List.eq_nil_of_length_eq_zero u4]
  all_goals (exfalso;omega)
 ·rcases fy with ⟨u,_⟩ | ⟨u,_⟩ | ⟨u,_⟩ | ⟨u,_⟩ | ⟨u,_⟩ | ⟨u,u1,u2,u4⟩
  case inr.inr.inr.inr.inr =>
   rw [en5 z,en5 u] at h
   have h:=(List.cons.inj (show (6:Int) :: (putU (x.f3.length:Int) ++ recs (x.f3.map en) x.f4 ++ r)=6 :: (putU (y.f3.length:Int) ++ recs (y.f3.map en) y.f4 ++ s) from h)).2
   rw [List.append_assoc,List.append_assoc] at h
   obtain ⟨e,h⟩:=qCB _ _ _ _ (by omega) (by omega) (by omega) (by omega) h
   obtain ⟨e3,e4,h⟩:=recs_inj x.f3 y.f3 x.f4 y.f4 r s (by omega) z4 u4 hi hyl k4 l4 h
   exact ⟨ext25 h0 (by omega) (by rw [nil_of z2,nil_of u2]) e3 e4,h⟩
  all_goals (exfalso;omega)
end Go.Proofs.Ytdommiicjpjfpaa.X
namespace Go.Proofs.Ytdommiicjpjfpaa.Pl
open Go.RowKit Go.Proofs.Ytdommiicjpjfpaa.X Go.Proofs.YtdommiicjpjfpaaW.PrintWords Go.Proofs.YtdommiicjpjfpaaW.PrintLast Go.Proofs.YtdommiicjpjfpaaW.PrintMore
def qBX (l:List Int) (a most:Int):ByteArray × Int × Int :=
 let u:=qAd l a
 if u.2.2=0 then
  if most < 0 ∨ u.1 > most then (⟨#[]⟩,0,13)
  else if u.1 > l.length - u.2.1 then (⟨#[]⟩,0,11)
  else (strOfNums ((l.take (u.2.1+u.1).toNat).drop u.2.1.toNat),u.2.1+u.1,0)
 else (⟨#[]⟩,0,u.2.2)
theorem Text_eq (k:Nat) (hk:24≤k) (l:List Int) (hb:Bytes l) (hl:l.length≤9223372036854775000) (a most:Int) (hm0 : -9223372036854775808≤most) (hm1:most≤9223372036854775807):qBc.f k l a most=some (qBX l a most):=by
 have hr:=qA9 l hb a
 unfold qBc.f qBX
 rw [Uint_eq k hk l hb hl a]
 simp only [Option.bind_some]
 obtain ⟨k,rfl⟩:∃ m,k=m+1:=⟨k - 1,by omega⟩
 by_cases h:(qAd l a).2.2=0
 ·obtain ⟨h0,h1,h2,h3,_⟩:=qBb l hb a h
  rw [if_pos h,if_pos h]
  generalize qAd l a=u at *
  have J:∀ b:Bool,b=decide (most < 0 ∨ u.1 > most)→qBc.j0 (k+1) l u.1 u.2.1 b=some (if most < 0 ∨ u.1 > most then (⟨#[]⟩,0,13) else if u.1 > l.length - u.2.1 then (⟨#[]⟩,0,11) else (strOfNums ((l.take (u.2.1+u.1).toNat).drop u.2.1.toNat),u.2.1+u.1,0)):=by
   intro b hbt
   simp only [qBc.j0]
   by_cases hbad:most < 0 ∨ u.1 > most
   ·rw [if_pos (by rw [hbt];simpa using hbad),if_pos hbad]
   ·rw [if_neg (by rw [hbt];simpa using hbad),if_neg hbad,w64 ((l.length:Int) - u.2.1) (by omega) (by omega),u64w ((l.length:Int) - u.2.1) (by omega) (by omega)]
    by_cases h4:u.1 > l.length - u.2.1
    ·rw [if_pos h4,if_pos h4]
    ·rw [if_neg h4,if_neg h4,w64 u.1 (by omega) (by omega),w64 (u.2.1+u.1) (by omega) (by omega),if_pos (by omega),if_pos (by omega),if_pos (by omega)]
  by_cases h5:most < 0
  ·rw [if_pos h5];exact J _ (by simp [h5])
  ·rw [if_neg h5,u64w most (by omega) (by omega)]
   exact J _ (by simp [h5])
 ·rw [if_neg h,if_neg h]
theorem textAt_small {l:List Int} (hb:Bytes l) {a most:Int} (hm:0≤most) (h:(qBX l a most).2.2=0):((qBX l a most).1.size:Int)≤most:=by
 unfold qBX at h ⊢
 dsimp only at h ⊢
 by_cases h1:(qAd l a).2.2=0
 ·rw [if_pos h1] at h ⊢
  by_cases h2:most < 0 ∨ (qAd l a).1 > most
  ·rw [if_pos h2] at h;exact absurd h (by decide)
  ·rw [if_neg h2] at h ⊢
   by_cases h3:(qAd l a).1 > l.length - (qAd l a).2.1
   ·rw [if_pos h3] at h;exact absurd h (by decide)
   ·rw [if_neg h3]
    dsimp only
    obtain ⟨q0,q1,q2,q3,_⟩:=qBb l hb a h1
    have hr:=qA9 l hb a
    rw [qB7,List.length_drop,List.length_take]
    omega
 ·rw [if_neg h1] at h;exact absurd h h1
theorem textAt_ok {l:List Int} (hb:Bytes l) {a most:Int} (h:(qBX l a most).2.2=0) :
  0≤a∧a < (qBX l a most).2.1∧(qBX l a most).2.1≤l.length∧l.drop a.toNat=(putU ((qBX l a most).1.size:Int) ++ bytesOf (qBX l a most).1) ++ l.drop (qBX l a most).2.1.toNat:=by
 unfold qBX at h ⊢
 dsimp only at h ⊢
 by_cases h1:(qAd l a).2.2=0
 ·rw [if_pos h1] at h ⊢
  by_cases h2:most < 0 ∨ (qAd l a).1 > most
  ·rw [if_pos h2] at h;exact absurd h (by decide)
  ·rw [if_neg h2] at h ⊢
   by_cases h3:(qAd l a).1 > l.length - (qAd l a).2.1
   ·rw [if_pos h3] at h;exact absurd h (by decide)
   ·rw [if_neg h3]
    dsimp only
    obtain ⟨q0,q1,q2,q3,q4⟩:=qBb l hb a h1
    have hr:=qA9 l hb a
    have hs:(strOfNums ((l.take ((qAd l a).2.1+(qAd l a).1).toNat).drop (qAd l a).2.1.toNat)).size=(qAd l a).1.toNat:=by
     rw [qB7,List.length_drop,List.length_take]
     omega
    refine ⟨q0,by omega,by omega, ?_⟩
    rw [hs,qCH _ ((hb.take _).drop _),show (((qAd l a).1.toNat:Nat):Int)=(qAd l a).1 by omega,← q4]
    have e1:l.drop a.toNat=(l.drop a.toNat).take ((qAd l a).2.1 - a).toNat ++ l.drop (qAd l a).2.1.toNat:=by
     conv=>lhs;rw [← List.take_append_drop ((qAd l a).2.1 - a).toNat (l.drop a.toNat)]
     rw [List.drop_drop]
     congr 2
     omega
    have e2:l.drop (qAd l a).2.1.toNat=(l.take ((qAd l a).2.1+(qAd l a).1).toNat).drop (qAd l a).2.1.toNat ++ l.drop ((qAd l a).2.1+(qAd l a).1).toNat:=by
     rw [List.drop_take]
     conv=>lhs;rw [← List.take_append_drop (((qAd l a).2.1+(qAd l a).1).toNat - (qAd l a).2.1.toNat) (l.drop (qAd l a).2.1.toNat)]
     rw [List.drop_drop]
     congr 2
     omega
    rw [List.append_assoc,← e2]
    exact e1
 ·rw [if_neg h1] at h;exact absurd h h1
end Go.Proofs.Ytdommiicjpjfpaa.Pl
namespace Go.Proofs.Ytdommiicjpjfpaa.X
open Go.RowKit Go.Proofs.Ytdommiicjpjfpaa.Pl Go.Proofs.YtdommiicjpjfpaaW.PrintWords Go.Proofs.YtdommiicjpjfpaaW.PrintLast Go.Proofs.YtdommiicjpjfpaaW.PrintMore Go.Proofs.YtdommiicjpjfpaaW
def PF {α:Type} (g:α→Prop) (c:α→List Int):Prop:=∀ x y r s,g x→g y→c x ++ r=c y ++ s→x=y∧r=s
theorem PF.num:PF (fun n:Int=>0≤n∧n < 18446744073709551616) putU:=fun x y r s hx hy h=>qCB x y r s hx.1 hx.2 hy.1 hy.2 h
theorem PF.val:PF (fun x:S34=>Val x∧Frm x) en:=fun x y r s hx hy h=>en_inj x hx.1 hx.2 y hy.1 hy.2 r s h
theorem PF.pair {α β:Type} {g:α→Prop} {k:β→Prop} {c:α→List Int} {d:β→List Int} (h:PF g c) (j:PF k d):PF (fun p:α × β=>g p.1∧k p.2) (fun p=>c p.1 ++ d p.2):=by
 rintro ⟨x1,x2⟩ ⟨y1,y2⟩ r s hx hy e
 simp only [List.append_assoc] at e
 obtain ⟨q1,e1⟩:=h x1 y1 _ _ hx.1 hy.1 e
 obtain ⟨q2,e2⟩:=j x2 y2 _ _ hx.2 hy.2 e1
 exact ⟨Prod.ext q1 q2,e2⟩
def txt (b:List Int):List Int:=putU (b.length:Int) ++ b
theorem PF.txt:PF (fun b:List Int=>b.length < 18446744073709551616) txt:=by
 intro x y r s hx hy e
 unfold X.txt at e
 simp only [List.append_assoc] at e
 obtain ⟨hn,e⟩:=qCB _ _ _ _ (by omega) (by omega) (by omega) (by omega) e
 exact List.append_inj e (by omega)
def str (b:ByteArray):List Int:=putU (b.size:Int) ++ bytesOf b
theorem PF.str:PF (fun b:ByteArray=>b.size < 18446744073709551616) str:=by
 intro x y r s hx hy e
 unfold X.str at e
 simp only [List.append_assoc] at e
 obtain ⟨hn,e⟩:=qCB _ _ _ _ (by omega) (by omega) (by omega) (by omega) e
 obtain ⟨e1,e2⟩:=List.append_inj e (by rw [qBM,qBM];omega)
 exact ⟨bytesOf_inj e1,e2⟩
theorem PF.flat {α:Type} {g:α→Prop} {c:α→List Int} (h:PF g c):∀ (xs ys:List α) (r s:List Int),xs.length=ys.length→(∀ x ∈ xs,g x)→(∀ y ∈ ys,g y)→(xs.map c).flatten ++ r=(ys.map c).flatten ++ s→xs=ys∧r=s
 | [],[],r,s,_,_,_,e=>⟨rfl,by simpa using e⟩
 | [],_ :: _,_,_,hl,_,_,_=>by simp at hl
 | _ :: _,[],_,_,hl,_,_,_=>by simp at hl
 | x :: xs,y :: ys,r,s,hl,hx,hy,e=>by
  simp only [List.map_cons,List.flatten_cons,List.append_assoc] at e
  obtain ⟨q1,e1⟩:=h x y _ _ (hx x List.mem_cons_self) (hy y List.mem_cons_self) e
  obtain ⟨q2,e2⟩:=PF.flat h xs ys r s (by simpa using hl) (fun z hz=>hx z (List.mem_cons_of_mem _ hz)) (fun z hz=>hy z (List.mem_cons_of_mem _ hz)) e1
  exact ⟨by rw [q1,q2],e2⟩
def lst {α:Type} (c:α→List Int) (l:List α):List Int:=putU (l.length:Int) ++ (l.map c).flatten
theorem PF.lst {α:Type} {g:α→Prop} {c:α→List Int} (h:PF g c):PF (fun l:List α=>l.length < 18446744073709551616∧∀ x ∈ l,g x) (lst c):=by
 intro x y r s hx hy e
 unfold X.lst at e
 simp only [List.append_assoc] at e
 obtain ⟨hn,e⟩:=qCB _ _ _ _ (by have:=hx.1;omega) (by have:=hx.1;omega) (by have:=hy.1;omega) (by have:=hy.1;omega) e
 exact PF.flat h x y r s (by omega) hx.2 hy.2 e
theorem PF.row {α:Type} {g:α→Prop} {c:α→List Int} (h:PF g c):PF (fun l:List α=>(l.length < 18446744073709551616∧∀ x ∈ l,g x)∧(X.lst c l).length < 18446744073709551616) (fun l=>X.txt (X.lst c l)):=by
 intro x y r s hx hy e
 obtain ⟨e1,e2⟩:=PF.txt _ _ r s hx.2 hy.2 e
 have e3:X.lst c x ++ []=X.lst c y ++ []:=by rw [e1]
 exact ⟨(PF.lst h x y [] [] hx.1 hy.1 e3).1,e2⟩
theorem PF.tag {α:Type} {g:α→Prop} {c:α→List Int} (t:List Int) (h:PF g c):PF g (fun x=>t ++ c x):=by
 intro x y r s hx hy e
 simp only [List.append_assoc] at e
 exact h x y r s hx hy (List.append_cancel_left e)
def enF (f:(Int × Int) × (Int × ByteArray)):List Int:=(putU f.1.1 ++ putU f.1.2) ++ (putU f.2.1 ++ str f.2.2)
def NatU (n:Int):Prop:=0≤n∧n < 18446744073709551616
theorem PF.fn:PF (fun f=>(NatU f.1.1∧NatU f.1.2)∧(NatU f.2.1∧f.2.2.size < 18446744073709551616)) enF:=PF.pair (PF.pair PF.num PF.num) (PF.pair PF.num PF.str)
def enX (x:ByteArray × Int):List Int:=str x.1 ++ putU x.2
theorem PF.ex:PF (fun x=>x.1.size < 18446744073709551616∧NatU x.2) enX:=PF.pair PF.str PF.num
end Go.Proofs.Ytdommiicjpjfpaa.X
namespace Go.Proofs.Ytdommiicjpjfpaa.X
open Go.RowKit Go.Proofs.Ytdommiicjpjfpaa.Pl Go.Proofs.YtdommiicjpjfpaaW.PrintWords Go.Proofs.YtdommiicjpjfpaaW.PrintLast Go.Proofs.YtdommiicjpjfpaaW.PrintMore Go.Proofs.YtdommiicjpjfpaaW
theorem qBz {c:Int} {l:List Int} (h0:0≤c) (h1:c≤255) (h:Bytes l):Bytes (c :: l):=fun z hz=>by
 rcases List.mem_cons.1 hz with rfl | hz
 ·exact ⟨h0,h1⟩
 ·exact h z hz
end Go.Proofs.Ytdommiicjpjfpaa.X
namespace Go.Proofs.Ytdommiicjpjfpaa.X
open Go.RowKit Go.Proofs.Ytdommiicjpjfpaa.Pl Go.Proofs.YtdommiicjpjfpaaW.PrintWords Go.Proofs.YtdommiicjpjfpaaW.PrintLast Go.Proofs.YtdommiicjpjfpaaW.PrintMore Go.Proofs.YtdommiicjpjfpaaW
def VSame (x:S34):Prop:=∀ y,Val y→∃ b,Ev (fun k=>qAI.f k x.f0 x.f1 x.f2 x.f3 x.f4 y.f0 y.f1 y.f2 y.f3 y.f4) b∧(b=true ↔ x=y)
section
variable (f0 f1:Int) (f2:ByteArray) (f3:List S34) (f4:List ByteArray) (g0 g1:Int) (g2:ByteArray) (g3:List S34) (g4:List ByteArray)
theorem vsame_l1 (hl:f3.length≤9223372036854775000) (h3:g3.length=f3.length) (hg:∀ y ∈ f3,VSame y) (hv:∀ y ∈ g3,Val y):∀ (rem i:Nat),i+rem=f3.length →
  ∃ b,Ev (fun k=>qAI.l1 k (i:Int) f0 f1 f2 f3 f4 g0 g1 g2 g3 g4) b∧(b=true ↔ f3.drop i=g3.drop i):=by
 intro rem
 induction rem with
 | zero =>
  intro i hi
  refine ⟨true,Ev.step Ev.const (fun k=>by rw [qAI.l1,if_neg (by omega)]), ?_⟩
  rw [List.drop_eq_nil_of_le (by omega),List.drop_eq_nil_of_le (by omega)]
  simp
 | succ rem ih =>
  intro i hi
  have ei:wrap64 ((i:Int)+1)=((i+1:Nat):Int):=by rw [X.w64 _ (by omega) (by omega)];omega
  have hx:=hg _ (at_mem f3 i (by omega)) _ (hv _ (at_mem g3 i (by omega)))
  have hd:=at_drop f3 i (by omega)
  have he:=at_drop g3 i (by omega)
  rw [hd,he]
  generalize hxe:qAR f3 (i:Int)=x at *
  generalize hye:qAR g3 (i:Int)=y at *
  obtain ⟨t,ht,e⟩:=hx
  obtain ⟨b,hb,eb⟩:=ih (i+1) (by omega)
  have hstep:∀ k,qAI.l1 (k+1) (i:Int) f0 f1 f2 f3 f4 g0 g1 g2 g3 g4=(qAI.f k x.f0 x.f1 x.f2 x.f3 x.f4 y.f0 y.f1 y.f2 y.f3 y.f4).bind fun t=>if t=true then qAI.l1 k ((i+1:Nat):Int) f0 f1 f2 f3 f4 g0 g1 g2 g3 g4 else some false:=fun k=>by
   rw [qAI.l1,if_pos (by omega),if_pos (by omega),if_pos (by omega),hxe,hye,ei]
  by_cases ct:t=true
  ·refine ⟨b,Ev.step (Ev.bind (F:=fun k t=>if t=true then qAI.l1 k ((i+1:Nat):Int) f0 f1 f2 f3 f4 g0 g1 g2 g3 g4 else some false) ht (Ev.congr hb (fun k=>by rw [if_pos ct]))) hstep, ?_⟩
   have:=e.1 ct
   subst this
   rw [eb]
   simp
  ·refine ⟨false,Ev.step (Ev.bind (F:=fun k t=>if t=true then qAI.l1 k ((i+1:Nat):Int) f0 f1 f2 f3 f4 g0 g1 g2 g3 g4 else some false) ht (Ev.congr Ev.const (fun k=>by rw [if_neg ct]))) hstep, ?_⟩
   constructor
   ·intro h;cases h
   ·intro h
    exact absurd (e.2 (List.cons.inj h).1) ct
theorem vsame_l0 (hl:f3.length≤9223372036854775000) (hl4:f4.length≤9223372036854775000) (h3:g3.length=f3.length) (h4:g4.length=f4.length) (hg:∀ y ∈ f3,VSame y) (hv:∀ y ∈ g3,Val y):∀ (rem i:Nat),i+rem=f4.length →
  ∃ b,Ev (fun k=>qAI.l0 k (i:Int) f0 f1 f2 f3 f4 g0 g1 g2 g3 g4) b∧(b=true ↔ f4.drop i=g4.drop i∧f3=g3):=by
 intro rem
 induction rem with
 | zero =>
  intro i hi
  obtain ⟨b,hb,eb⟩:=vsame_l1 f0 f1 f2 f3 f4 g0 g1 g2 g3 g4 hl h3 hg hv f3.length 0 (by omega)
  refine ⟨b,Ev.step hb (fun k=>by rw [qAI.l0,if_neg (by omega)];rfl), ?_⟩
  rw [eb,List.drop_zero,List.drop_zero,List.drop_eq_nil_of_le (by omega),List.drop_eq_nil_of_le (by omega)]
  simp
 | succ rem ih =>
  intro i hi
  have ei:wrap64 ((i:Int)+1)=((i+1:Nat):Int):=by rw [X.w64 _ (by omega) (by omega)];omega
  obtain ⟨b,hb,eb⟩:=ih (i+1) (by omega)
  rw [at_dropB f4 i (by omega),at_dropB g4 i (by omega)]
  generalize hxe:rdOf ByteArray.empty f4 (i:Int)=s at *
  generalize hye:rdOf ByteArray.empty g4 (i:Int)=t at *
  by_cases c:s.toList=t.toList
  ·have:=toList_inj c
   subst this
   refine ⟨b,Ev.step hb (fun k=>by rw [qAI.l0,if_pos (by omega),if_pos (by omega),if_pos (by omega),hxe,hye,if_pos rfl,ei]), ?_⟩
   rw [eb]
   simp
  ·refine ⟨false,Ev.step Ev.const (fun k=>by rw [qAI.l0,if_pos (by omega),if_pos (by omega),if_pos (by omega),hxe,hye,if_neg c]), ?_⟩
   constructor
   ·intro h;cases h
   ·intro h
    exact absurd (congrArg ByteArray.toList (List.cons.inj h.1).1) c
end
theorem vsame_ev (x:S34) (hv:Val x) (hs:Siz x):VSame x:=by
 induction hv with
 | mk x a0 b0 a1 b1 h2 h3 h4 k4 _ ih =>
 obtain ⟨_,s2,s3,s4,sk,sy⟩:=hs
 intro y hy
 have hg:∀ z ∈ x.f3,VSame z:=fun z hz=>ih z hz (sy z hz)
 obtain ⟨_,c0,d0,c1,d1,g2,g3,g4,l4,l3⟩:=hy
 have hno:Ev (fun k=>qAI.j0 k true x.f0 x.f1 x.f2 x.f3 x.f4 y.f0 y.f1 y.f2 y.f3 y.f4) false:=Ev.step Ev.const (fun k=>by rw [qAI.j0,if_pos rfl])
 by_cases e0:x.f0=y.f0
 case neg=>exact ⟨false,Ev.step hno (fun k=>by rw [qAI.f,if_neg e0]),⟨fun h=>by (cases h),fun h=>absurd (by rw [h]) e0⟩⟩
 by_cases e1:x.f1=y.f1
 case neg=>exact ⟨false,Ev.step hno (fun k=>by rw [qAI.f,if_pos e0,if_neg e1]),⟨fun h=>by (cases h),fun h=>absurd (by rw [h]) e1⟩⟩
 by_cases e2:x.f2.toList=y.f2.toList
 case neg=>exact ⟨false,Ev.step hno (fun k=>by rw [qAI.f,if_pos e0,if_pos e1,if_neg e2]),⟨fun h=>by (cases h),fun h=>absurd (by rw [h]) e2⟩⟩
 by_cases e3:(x.f3.length:Int)=(y.f3.length:Int)
 case neg=>exact ⟨false,Ev.step hno (fun k=>by rw [qAI.f,if_pos e0,if_pos e1,if_pos e2,if_neg e3]),⟨fun h=>by (cases h),fun h=>absurd (by rw [h]) e3⟩⟩
 have hf:∀ k,qAI.f (k+1) x.f0 x.f1 x.f2 x.f3 x.f4 y.f0 y.f1 y.f2 y.f3 y.f4=qAI.j0 k ((x.f4.length:Int) != (y.f4.length:Int)) x.f0 x.f1 x.f2 x.f3 x.f4 y.f0 y.f1 y.f2 y.f3 y.f4:=fun k=>by
  rw [qAI.f,if_pos e0,if_pos e1,if_pos e2,if_pos e3]
 by_cases e4:(x.f4.length:Int)=(y.f4.length:Int)
 ·obtain ⟨b,hb,eb⟩:=vsame_l0 x.f0 x.f1 x.f2 x.f3 x.f4 y.f0 y.f1 y.f2 y.f3 y.f4 (by omega) (by omega) (by omega) (by omega) hg l3 x.f4.length 0 (by omega)
  have hne:((x.f4.length:Int) != (y.f4.length:Int))=false:=by simpa using e4
  refine ⟨b,Ev.step (Ev.step hb (fun k => ?_)) hf, ?_⟩
  ·rw [hne,qAI.j0,if_neg (by simp)];rfl
  ·rw [eb,List.drop_zero,List.drop_zero]
   exact ⟨fun h=>ext25 e0 e1 (toList_inj e2) h.2 h.1,fun h=>by rw [h];exact ⟨rfl,rfl⟩⟩
 ·have hne:((x.f4.length:Int) != (y.f4.length:Int))=true:=by simpa using e4
  refine ⟨false,Ev.step (Ev.congr hno (fun k=>by rw [hne])) hf,⟨fun h=>by (cases h),fun h=>absurd (by rw [h]) e4⟩⟩
end Go.Proofs.Ytdommiicjpjfpaa.X
namespace Go.Proofs.Ytdommiicjpjfpaa.X
open Go.RowKit Go.Proofs.Ytdommiicjpjfpaa.Pl Go.Proofs.YtdommiicjpjfpaaW.PrintWords Go.Proofs.YtdommiicjpjfpaaW.PrintLast Go.Proofs.YtdommiicjpjfpaaW.PrintMore Go.Proofs.YtdommiicjpjfpaaW
theorem at_drop51 (l:List S51) (i:Nat) (h:i < l.length):l.drop i=qAJ l (i:Int) :: l.drop (i+1):=by
 unfold qAJ
 rw [Int.toNat_natCast,List.getD_eq_getElem?_getD,List.getElem?_eq_getElem h]
 exact List.drop_eq_getElem_cons h
theorem mem51 (l:List S51) (i:Nat) (h:i < l.length):qAJ l (i:Int) ∈ l:=by
 have:=at_drop51 l i h
 exact List.mem_of_mem_drop (this▸List.mem_cons_self)
theorem ent_ev (a b:List S51) (hl:a.length≤9223372036854775000) (hg:∀ y ∈ a,Val y.f1∧Siz y.f1) (hv:∀ y ∈ b,Val y.f1):∃ t,Ev (fun k=>qAM.f k a b) t∧(t=true ↔ a=b):=by
 by_cases hlen:(a.length:Int)=(b.length:Int)
 case neg=>exact ⟨false,Ev.congr Ev.const (fun k=>by rw [qAM.f,if_neg hlen]),⟨fun h=>by (cases h),fun h=>absurd (by rw [h]) hlen⟩⟩
 have main:∀ (rem i:Nat),i+rem=a.length→∃ t,Ev (fun k=>qAM.l0 k a b (i:Int)) t∧(t=true ↔ a.drop i=b.drop i):=by
  intro rem
  induction rem with
  | zero =>
   intro i hi
   refine ⟨true,Ev.step Ev.const (fun k=>by rw [qAM.l0,if_neg (by omega)]), ?_⟩
   rw [List.drop_eq_nil_of_le (by omega),List.drop_eq_nil_of_le (by omega)]
   simp
  | succ rem ih =>
   intro i hi
   have ei:wrap64 ((i:Int)+1)=((i+1:Nat):Int):=by rw [X.w64 _ (by omega) (by omega)];omega
   have ha:=at_drop51 a i (by omega)
   have hb:=at_drop51 b i (by omega)
   have hx:=mem51 a i (by omega)
   have hy:=mem51 b i (by omega)
   obtain ⟨t0,h0,ht0⟩:=vsame_ev _ (hg _ hx).1 (hg _ hx).2 (qAJ b (i:Int)).f1 (hv _ hy)
   obtain ⟨t1,h1,ht1⟩:=ih (i+1) (by omega)
   have hst:∀ (F:Nat→Bool→Option Bool) (t:Bool),(∀ k q,F k q=if q=true then (if ((qAJ a (i:Int)).f0).toList=((qAJ b (i:Int)).f0).toList then (qAM.l0 k a b (wrap64 ((i:Int)+1))) else (some false)) else (some false))→Ev (fun k=>F k t0) t→Ev (fun k=>qAM.l0 k a b (i:Int)) t:=fun F t hF h2 =>
    Ev.step (Ev.bind (F:=F) h0 h2) (fun k=>by
     rw [qAM.l0,if_pos (by omega),if_pos (by omega),if_pos (by omega)]
     congr 1
     funext q
     rw [hF])
   rw [ha,hb]
   have hcons:(qAJ a (i:Int) :: a.drop (i+1)=qAJ b (i:Int) :: b.drop (i+1)) ↔ (qAJ a (i:Int)).f0=(qAJ b (i:Int)).f0∧(qAJ a (i:Int)).f1=(qAJ b (i:Int)).f1∧a.drop (i+1)=b.drop (i+1):=by
    rw [List.cons.injEq]
    generalize qAJ a (i:Int)=x
    generalize qAJ b (i:Int)=y
    cases x;cases y
    simp only [S51.mk.injEq,and_assoc]
   rw [hcons]
   cases t0 with
   | false=>exact ⟨false,hst _ false (fun k q=>rfl) (Ev.congr Ev.const (fun k=>by rw [if_neg (by decide)])),⟨fun h=>by (cases h),fun h=>by cases ht0.2 h.2.1⟩⟩
   | true =>
    have e1:=ht0.1 rfl
    by_cases hk:(qAJ a (i:Int)).f0.toList=(qAJ b (i:Int)).f0.toList
    ·refine ⟨t1,hst _ t1 (fun k q=>rfl) (Ev.congr h1 (fun k=>by rw [if_pos rfl,if_pos hk,ei])), ?_⟩
     rw [ht1]
     exact ⟨fun h=>⟨toList_inj hk,e1,h⟩,fun h=>h.2.2⟩
    ·exact ⟨false,hst _ false (fun k q=>rfl) (Ev.congr Ev.const (fun k=>by rw [if_pos rfl,if_neg hk])),⟨fun h=>by (cases h),fun h=>absurd (by rw [h.1]) hk⟩⟩
 obtain ⟨t,h,ht⟩:=main a.length 0 (by omega)
 exact ⟨t,Ev.congr h (fun k=>by rw [qAM.f,if_pos hlen];rfl),by simpa using ht⟩
end Go.Proofs.Ytdommiicjpjfpaa.X
namespace Go.Proofs.Ytdommiicjpjfpaa.Pl
open Go.RowKit Go.Proofs.Ytdommiicjpjfpaa.X Go.Proofs.YtdommiicjpjfpaaW.PrintWords Go.Proofs.YtdommiicjpjfpaaW.PrintLast Go.Proofs.YtdommiicjpjfpaaW.PrintMore
theorem ruint_l0 (l:List Int) (hb:Bytes l) (a:Int) (ha0:0≤a) (ha1:a≤l.length) (hl:l.length≤9223372036854775000) (d:Nat):∀ (k i:Nat) (n p:Int),i+d=10→2 * d < k→0≤n→n < 128 ^ i→(i < 10→p=128 ^ i)→a+i≤l.length →
  qAN.l0 k l a n p i=some (fin a (rdU d i (l.drop (a.toNat+i)) n)):=by
 induction d with
 | zero =>
  intro k i n p hi hk h0 h1 hp hai
  obtain ⟨k,rfl⟩:∃ m,k=m+1:=⟨k - 1,by omega⟩
  simp only [qAN.l0]
  rw [if_neg (by omega)]
  rfl
 | succ d ih =>
  intro k i n p hi hk h0 h1 hp hai
  obtain ⟨k,rfl⟩:∃ m,k=m+2:=⟨k - 2,by omega⟩
  have hi9:i≤9:=by omega
  obtain rfl:=hp (by omega)
  have ew:wrap64 ((l.length:Int) - a)=l.length - a:=w64 _ (by omega) (by omega)
  by_cases he:a+i=l.length
  ·simp only [qAN.l0]
   rw [if_pos (by omega),ew,if_pos (by omega),List.drop_eq_nil_of_le (by omega)]
   rfl
  ·have hlt:a.toNat+i < l.length:=by omega
   have hc:=hb l[a.toNat+i] (List.getElem_mem _)
   rw [List.drop_eq_getElem_cons hlt]
   generalize hcc:l[a.toNat+i]=c at hc ⊢
   have ea:wrap64 (a+(i:Int))=((a.toNat+i:Nat):Int):=by rw [w64 _ (by omega) (by omega)];omega
   have hr:rd l ((a.toNat+i:Nat):Int)=c:=by rw [rd_get l _ hlt,hcc]
   have J:∀ b:Bool,b=decide ((d=0∧c > 1) ∨ (0 < i∧c=0))→qAN.j2 (k+1) l a n (128 ^ i) i c b=some (fin a (rdU (d+1) i (c :: l.drop (a.toNat+i+1)) n)):=by
    intro b hbt
    simp only [qAN.j2,rdU]
    by_cases hbad:(d=0∧c > 1) ∨ (0 < i∧c=0)
    ·rw [if_pos (by rw [hbt];simpa using hbad),if_pos hbad];rfl
    ·rw [if_neg (by rw [hbt];simpa using hbad),if_neg hbad]
     have hlt2:n+c % 128 * 128 ^ i < 18446744073709551616∧n+c % 128 * 128 ^ i < 128 ^ (i+1):=by
      have hm:c % 128 * 128 ^ i≤127 * 128 ^ i:=Int.mul_le_mul_of_nonneg_right (by omega) (Int.le_of_lt (pow_pos' i))
      refine ⟨?_,by rw [pow_s];omega⟩
      by_cases e:i=9
      ·subst e
       have:¬ (d=0∧c > 1):=fun z=>hbad (.inl z)
       rw [pow9] at *
       omega
      ·have hle:(128:Int) ^ i≤128 ^ 8:=by exact_mod_cast Nat.pow_le_pow_right (by decide) (show i≤8 by omega)
       have e8:(128:Int) ^ 8=72057594037927936:=by decide
       omega
     have hn:0≤c % 128 * 128 ^ i:=Int.mul_nonneg (by omega) (Int.le_of_lt (pow_pos' i))
     rw [Int.tmod_eq_emod_of_nonneg hc.1,u64w (c % 128 * 128 ^ i) hn (by omega),u64w _ (by omega) hlt2.1]
     by_cases h128:c < 128
     ·rw [if_pos h128,if_pos h128,show c % 128=c by omega,ea,w64 _ (by omega) (by omega)]
      simp only [fin,if_true]
      rw [show (((a.toNat+i:Nat):Int)+1)=a+(↑i+1) by omega]
     ·rw [if_neg h128,if_neg h128]
      rw [show c % 128=c - 128 by omega] at hlt2 hn ⊢
      rw [w64 ((i:Int)+1) (by omega) (by omega)]
      exact ih k (i+1) (n+(c - 128) * 128 ^ i) _ (by omega) (by omega) (by omega) hlt2.2 (fun hi2=>by
       have hle:(128:Int) ^ i≤128 ^ 8:=by exact_mod_cast Nat.pow_le_pow_right (by decide) (show i≤8 by omega)
       have e8:(128:Int) ^ 8=72057594037927936:=by decide
       have:=pow_pos' i
       rw [u64w _ (by omega) (by omega),pow_s,Int.mul_comm]) (by omega)
   have eq0:(c == 0)=decide (c=0):=by by_cases z:c=0 <;> simp [z]
   simp only [qAN.l0]
   rw [if_pos (by omega),ew,if_neg (by omega),ea,if_pos (by omega),if_pos (by omega),hr,u64w c hc.1 (by omega)]
   by_cases h9:(i:Int)=9
   ·have hd:d=0:=by omega
    rw [if_pos h9]
    by_cases h1':c > 1
    ·rw [if_pos h1'];exact J _ (by simp [hd,h1'])
    ·rw [if_neg h1',if_pos (by omega)]
     refine J _ ?_
     rw [eq0]
     have:0 < i:=by omega
     simp [h1',this]
   ·have hd:d ≠ 0:=by omega
    rw [if_neg h9]
    by_cases hp:(i:Int) > 0
    ·rw [if_pos hp]
     refine J _ ?_
     rw [eq0]
     have:0 < i:=by omega
     simp [hd,this]
    ·rw [if_neg hp]
     refine J _ ?_
     have:¬ 0 < i:=by omega
     simp [hd,this]
theorem rUint_eq (k:Nat) (hk:24≤k) (l:List Int) (hb:Bytes l) (hl:l.length≤9223372036854775000) (a:Int):qAN.f k l a=some (qAd l a):=by
 obtain ⟨k,rfl⟩:∃ m,k=m+1:=⟨k - 1,by omega⟩
 unfold qAN.f qAd
 by_cases h0:a < 0
 ·rw [if_pos h0,if_pos (.inl h0)]
  simp [qAN.j0]
 ·rw [if_neg h0]
  simp only [qAN.j0]
  by_cases h1:a > l.length
  ·rw [if_pos (by simpa using h1),if_pos (.inr h1)]
  ·rw [if_neg (by simpa using h1),if_neg (by omega)]
   have:=ruint_l0 l hb a (by omega) (by omega) hl 10 k 0 0 1 rfl (by omega) (by omega) (by simp) (by simp) (by omega)
   simpa using this
theorem rInt_eq (k:Nat) (hk:24≤k) (l:List Int) (hb:Bytes l) (hl:l.length≤9223372036854775000) (a:Int):qBS.f k l a=some (qCJ l a):=by
 have hr:=qA9 l hb a
 have he:=uintAt_err l a
 unfold qBS.f qCJ
 rw [rUint_eq k hk l hb hl a]
 simp only [Option.bind_some]
 by_cases h:(qAd l a).2.2=0
 ·rw [if_pos h,h,Int.tmod_eq_emod_of_nonneg hr.1,Int.tdiv_eq_ediv_of_nonneg hr.1,u64w ((qAd l a).1 / 2) (by omega) (by omega),w64 ((qAd l a).1 / 2) (by omega) (by omega)]
  unfold unzz
  split
  ·rw [w64 (-((qAd l a).1 / 2)) (by omega) (by omega),w64 _ (by omega) (by omega)]
  ·rfl
 ·rw [if_neg h,(he h).1,(he h).2]
  rfl
end Go.Proofs.Ytdommiicjpjfpaa.Pl
namespace Go.Proofs.Ytdommiicjpjfpaa.Pl
open Go.RowKit Go.Proofs.Ytdommiicjpjfpaa.X Go.Proofs.YtdommiicjpjfpaaW.PrintWords Go.Proofs.YtdommiicjpjfpaaW.PrintLast Go.Proofs.YtdommiicjpjfpaaW.PrintMore
theorem rText_eq (k:Nat) (hk:24≤k) (l:List Int) (hb:Bytes l) (hl:l.length≤9223372036854775000) (a most:Int) (hm0 : -9223372036854775808≤most) (hm1:most≤9223372036854775807):qAr.f k l a most=some (qBX l a most):=by
 have hr:=qA9 l hb a
 unfold qAr.f qBX
 rw [rUint_eq k hk l hb hl a]
 simp only [Option.bind_some]
 obtain ⟨k,rfl⟩:∃ m,k=m+1:=⟨k - 1,by omega⟩
 by_cases h:(qAd l a).2.2=0
 ·obtain ⟨h0,h1,h2,h3,_⟩:=qBb l hb a h
  rw [if_pos h,if_pos h]
  generalize qAd l a=u at *
  have J:∀ b:Bool,b=decide (most < 0 ∨ u.1 > most)→qAr.j0 (k+1) l u.1 u.2.1 b=some (if most < 0 ∨ u.1 > most then (⟨#[]⟩,0,13) else if u.1 > l.length - u.2.1 then (⟨#[]⟩,0,11) else (strOfNums ((l.take (u.2.1+u.1).toNat).drop u.2.1.toNat),u.2.1+u.1,0)):=by
   intro b hbt
   simp only [qAr.j0]
   by_cases hbad:most < 0 ∨ u.1 > most
   ·rw [if_pos (by rw [hbt];simpa using hbad),if_pos hbad]
   ·rw [if_neg (by rw [hbt];simpa using hbad),if_neg hbad,w64 ((l.length:Int) - u.2.1) (by omega) (by omega),u64w ((l.length:Int) - u.2.1) (by omega) (by omega)]
    by_cases h4:u.1 > l.length - u.2.1
    ·rw [if_pos h4,if_pos h4]
    ·rw [if_neg h4,if_neg h4,w64 u.1 (by omega) (by omega),w64 (u.2.1+u.1) (by omega) (by omega),if_pos (by omega),if_pos (by omega),if_pos (by omega)]
  by_cases h5:most < 0
  ·rw [if_pos h5];exact J _ (by simp [h5])
  ·rw [if_neg h5,u64w most (by omega) (by omega)]
   exact J _ (by simp [h5])
 ·rw [if_neg h,if_neg h]
end Go.Proofs.Ytdommiicjpjfpaa.Pl
