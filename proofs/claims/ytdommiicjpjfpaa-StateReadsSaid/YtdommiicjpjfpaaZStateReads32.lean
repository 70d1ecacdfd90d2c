import Derived.Test.YtdommiicjpjfpaaZStateReads3
import Derived.Test.YtdommiicjpjfpaaZStateReads2
import Derived.WalkLawsBesides
import Derived.Laws.Pointers
import Derived.Shelf.Abstract
import Derived.Deep.DeepMust
import Derived.Deep.QuietTactic
import Derived.BigQuiet
import Derived.Defers
import Derived.Recover
import Derived.Test.YtdommiicjpjfpaaZStateReads5
import Derived.Test.YtdommiicjpjfpaaZStateReads7
import Derived.Test.YtdommiicjpjfpaaZStateReads4
set_option linter.unusedVariables false
set_option linter.unusedSimpArgs false
namespace Go.Proofs.Ytdommiicjpjfpaa.X
open Go.RowKit Go.Proofs.YtdommiicjpjfpaaW.PrintWords Go.Proofs.YtdommiicjpjfpaaW.PrintLast Go.Proofs.YtdommiicjpjfpaaW.PrintMore Go.Proofs.YtdommiicjpjfpaaW
theorem zA {p : Prop} (h : p) : qAA p := ⟨h⟩
theorem zF {p : Prop} [Decidable p] (h : ¬p) : decide p = false := decide_eq_false h
theorem zT {p : Prop} [Decidable p] (h : p) : decide p = true := decide_eq_true h
section
set_option maxHeartbeats 4000000
set_option maxRecDepth 100000
inductive sa.R3 (α:Type):Type
 | ok (x:α) (at_ left:Int):sa.R3 α
 | bad (e p:Int):sa.R3 α
def sa.flt (e p:Int):Ending:=.panicked [{ v:=.iface 102 (.agg #[.int .i64 e,.int .i64 p]),recovered:=false }]
def sa.Fr (g:Nat) (w w':World):Prop:=w.heap.size≤w'.heap.size∧∀ k,k < w.heap.size→k ≠ g→w'.heap[k]?=w.heap[k]?
theorem sa.Fr.refl (g:Nat) (w:World):sa.Fr g w w:=⟨Nat.le_refl _,fun _ _ _=>rfl⟩
theorem sa.Fr.trans {g:Nat} {w w1 w2:World} (h:sa.Fr g w w1) (k:sa.Fr g w1 w2):sa.Fr g w w2:=⟨Nat.le_trans h.1 k.1,fun i hi hne=>(k.2 i (Nat.lt_of_lt_of_le hi h.1) hne).trans (h.2 i hi hne)⟩
theorem sa.Fr.of_below {g:Nat} {w w1:World} (h:Below w.heap.size w w1):sa.Fr g w w1:=⟨h.size,fun i hi _=>h.block i hi⟩
theorem sa.Fr.set (w:World) (g o:Nat) (v:Value):sa.Fr g w (w.setCell ⟨g,o,none⟩ v):=⟨by simp [World.setCell],fun i _ hne=>Below.heap_setCell w ⟨g,o,none⟩ v i hne⟩
def sa.Blk (w:World) (g:Nat) (A:Option Addr) (n c:Nat) (at_ left:Int):Prop:=w.heap[g]?=some (.cells #[.slice A n c,.int .i64 at_,.int .i64 left] 106 (0,0))
theorem sa.Blk.c0 {w:World} {g:Nat} {A:Option Addr} {n c:Nat} {a l:Int} (h:sa.Blk w g A n c a l):w.cell? ⟨g,0,none⟩=some (.slice A n c):=(qAB h 0).trans rfl
theorem sa.Blk.c1 {w:World} {g:Nat} {A:Option Addr} {n c:Nat} {a l:Int} (h:sa.Blk w g A n c a l):w.cell? ⟨g,1,none⟩=some (.int .i64 a):=(qAB h 1).trans rfl
theorem sa.Blk.c2 {w:World} {g:Nat} {A:Option Addr} {n c:Nat} {a l:Int} (h:sa.Blk w g A n c a l):w.cell? ⟨g,2,none⟩=some (.int .i64 l):=(qAB h 2).trans rfl
theorem sa.Blk.fz {w:World} {g:Nat} {A:Option Addr} {n c:Nat} {a l:Int} (h:sa.Blk w g A n c a l) (o:Nat):w.frozen? ⟨g,o,none⟩=false:=qAC h o
theorem sa.Blk.set1 {w:World} {g:Nat} {A:Option Addr} {n c:Nat} {a l:Int} (h:sa.Blk w g A n c a l) (x:Int):sa.Blk (w.setCell ⟨g,1,none⟩ (.int .i64 x)) g A n c x l:=qAy h 1 (.int .i64 x) rfl
theorem sa.Blk.set2 {w:World} {g:Nat} {A:Option Addr} {n c:Nat} {a l:Int} (h:sa.Blk w g A n c a l) (x:Int):sa.Blk (w.setCell ⟨g,2,none⟩ (.int .i64 x)) g A n c a x:=qAy h 2 (.int .i64 x) rfl
theorem sa.Blk.below {w w1:World} {g:Nat} {A:Option Addr} {n c:Nat} {a l:Int} (h:sa.Blk w g A n c a l) (hb:Below w.heap.size w w1):sa.Blk w1 g A n c a l:=qAX h hb
theorem sa.qBK {w w1:World} {g:Nat} {A:Option Addr} {n c:Nat} {a l:Int} {xs:List Int} {A':Option Addr} {n':Nat} (h:(Kd.int .u8).C w A' n' xs) (hB:sa.Blk w g A n c a l) (hF:sa.Fr g w w1):(Kd.int .u8).C w1 A' n' xs:=by
 refine ⟨h.1,h.2.1,fun hp => ?_⟩
 obtain ⟨ad,e,hc⟩:=h.2.2 hp
 refine ⟨ad,e,fun j p hj => ?_⟩
 obtain ⟨cs,h1,h2,h3⟩:=hc j p hj
 refine ⟨cs,h1,h2,fun i u hu => ?_⟩
 have h4:=h3 i u hu
 have hlt:=qs4 w _ h4
 have hne:(ad.add (j * (Kd.int .u8).sz+i)).block ≠ g:=by
  intro e1
  have h5:cs=[.int .u8 p]:=h2
  subst h5
  cases i with
  | succ i=>simp at hu
  | zero =>
   simp at hu
   subst hu
   unfold World.cell? at h4
   rw [e1] at h4
   have hB':w.heap[g]?=some (.cells #[.slice A n c,.int .i64 a,.int .i64 l] 106 (0,0)):=hB
   rw [hB'] at h4
   simp only at h4
   split at h4
   ·cases h4
   ·generalize (ad.add (j * (Kd.int .u8).sz+0)).off=o at h4
    match o,h4 with
    | 0,h4=>simp at h4
    | 1,h4=>simp at h4
    | 2,h4=>simp at h4
    | o+3,h4=>simp at h4
 have h6:=hF.2 _ hlt hne
 rw [← h4]
 simp [World.cell?,h6]
theorem sa.fails1 (e p:Int) (w:World):Calls Try.prog 87 #[.int .i64 e,.int .i64 p] w fun en w'=>en=sa.flt e p∧w'=w:=by
 go_enter Try.func87,Try.ntmps87
 go_wp2
 exact ⟨rfl,rfl,rfl⟩
theorem sa.qBo {w:World} {g:Nat} {A:Option Addr} {m c:Nat} {a l:Int} (hB:sa.Blk w g A m c a l) (n p:Int) (h:n≤l) (hl:l≤2048) (h0:0≤n):Calls Try.prog 88 #[.pointer (some ⟨g,0,none⟩),.int .i64 n,.int .i64 p] w fun e w'=>e=.returned (.tuple #[])∧w'=w.setCell ⟨g,2,none⟩ (.int .i64 (l - n)):=by
 have h2:=hB.c2
 have f2:=hB.fz 2
 have d1:decide (n > l)=false:=zF (by omega)
 have d2:decide (l < n)=false:=zF (by omega)
 have HN:=zA (show wrap64 (l - n)=l - n by unfold wrap64;omega)
 clear h hl h0
 go_enter Try.func88,Try.ntmps88
 go_wp2
 go_end0
 exact ⟨rfl,by rw [HN.out]⟩
theorem sa.weighsN {w:World} {g:Nat} {A:Option Addr} {m c:Nat} {a l:Int} (hB:sa.Blk w g A m c a l) (n p:Int) (h:l < n):Calls Try.prog 88 #[.pointer (some ⟨g,0,none⟩),.int .i64 n,.int .i64 p] w fun e w'=>e=sa.flt 42 p∧w'=w:=by
 have h2:=hB.c2
 have d1:decide (n > l)=true:=zT h
 have d2:decide (l < n)=true:=zT h
 go_enter Try.func88,Try.ntmps88
 go_wp2_with (go_at_call 87;refine (sa.fails1 42 p _).mono ?_;rintro e_ w_ ⟨rfl,rfl⟩;unfold sa.flt)
 exact ⟨rfl,rfl,rfl⟩
structure sa.Uin (bs:List Int) (u i:Int→Int × Int × Int):Prop where
 U:∃ K,∀ a,qAq.f K bs a=some (u a)
 I:∃ K,∀ a,num_Int.f K bs a=some (i a)
 R:∀ a,0≤(u a).1∧(u a).1 < 18446744073709551616
 N:∀ a,(u a).2.2=0→0≤a∧a < (u a).2.1∧(u a).2.1≤bs.length
 M:∀ a,(i a).2.2=0→0≤a∧a < (i a).2.1∧(i a).2.1≤bs.length
 V:∀ a, -9223372036854775808≤(i a).1∧(i a).1≤9223372036854775807
 L:bs.length≤140737488351232
 B:∀ x ∈ bs,0≤x∧x≤255
structure sa.Nx (w0 w w':World) (g:Nat) (A:Option Addr) (m c:Nat) (a l:Int):Prop where
 blk:sa.Blk w' g A m c a l
 fr:sa.Fr g w w'
 bel:Below w0.heap.size w0 w'
structure sa.Nb (w0 w w':World) (g:Nat):Prop where
 fr:sa.Fr g w w'
 bel:Below w0.heap.size w0 w'
theorem sa.uint1 {bs:List Int} {m:Nat} {K:Nat} {r1 r2 r3 a:Int} {w:World} {A:Option Addr} {c:Nat} (hK:qAq.f K bs a=some (r1,r2,r3)) (hC:(Kd.int .u8).C w A m bs) (hc:m≤c):Calls Try.prog 40 #[.slice A m c,.int .i64 a] w fun e w'=>e=.returned (.tuple #[.int .u64 r1,.int .i64 r2,.int .i64 r3])∧qAf w w':=by
 obtain rfl:=hC.1
 exact qAq.calls K A c bs a r1 r2 r3 w hC hc hK
theorem sa.int1 {bs:List Int} {m:Nat} {K:Nat} {r1 r2 r3 a:Int} {w:World} {A:Option Addr} {c:Nat} (hK:num_Int.f K bs a=some (r1,r2,r3)) (hC:(Kd.int .u8).C w A m bs) (hc:m≤c):Calls Try.prog 89 #[.slice A m c,.int .i64 a] w fun e w'=>e=.returned (.tuple #[.int .i64 r1,.int .i64 r2,.int .i64 r3])∧qAf w w':=by
 obtain rfl:=hC.1
 exact num_Int.calls K A c bs a r1 r2 r3 w hC hc hK
theorem sa.numberY {bs:List Int} {u i:Int→Int × Int × Int} (hU:sa.Uin bs u i) {w0 w:World} {g:Nat} {A:Option Addr} {c:Nat} {a l:Int} (hb:Below w0.heap.size w0 w) (hg:w0.heap.size≤g) (hB:sa.Blk w g A bs.length c a l) (hC:(Kd.int .u8).C w A bs.length bs) (hc:bs.length≤c) (he:(u a).2.2=0) :
  Calls Try.prog 99 #[.pointer (some ⟨g,0,none⟩)] w fun e w'=>e=.returned (.tuple #[.int .u64 (u a).1,.int .i64 a])∧sa.Nx w0 w w' g A bs.length c (u a).2.1 l:=by
 obtain ⟨K,hK⟩:=hU.U
 have HK:=zA (hK a)
 have HB:=zA hB
 have HC:=zA hC
 have HCC:=zA hc
 have HBB:=zA hb
 have h0:=hB.c0
 have h1:=hB.c1
 have f1:=hB.fz 1
 have d1:((u a).2.2 != 0)=false:=by rw [he];rfl
 have d2:((u a).2.2 == 0)=true:=by rw [he];rfl
 obtain ⟨r1,r2,r3,hr⟩:∃ r1 r2 r3,u a=(r1,r2,r3):=⟨_,_,_,rfl⟩
 rw [hr] at he d1 d2 HK ⊢
 dsimp only at he d1 d2 ⊢
 clear hK hr hB hC hc hb hU
 generalize bs.length=m at *
 subst he
 clear d1 d2
 go_enter Try.func99,Try.ntmps99
 go_wp2_with (go_at_call 40;refine (sa.uint1 HK.out HC.out HCC.out).mono ?_;rintro e_ w1 ⟨rfl,hd⟩;have HD:=zA hd;clear hd h0 h1 f1;have h0:=(HB.out.below HD.out.below).c0;have h1:=(HB.out.below HD.out.below).c1;have f1:=(HB.out.below HD.out.below).fz 1)
 go_ret2
 exact ⟨rfl,(HB.out.below HD.out.below).set1 _,(sa.Fr.of_below HD.out.below).trans (sa.Fr.set _ _ _ _),(qAY HBB.out HBB.out.size HD.out.below).setCell hg _⟩
theorem sa.numberN {bs:List Int} {u i:Int→Int × Int × Int} (hU:sa.Uin bs u i) {w0 w:World} {g:Nat} {A:Option Addr} {c:Nat} {a l:Int} (hb:Below w0.heap.size w0 w) (hg:w0.heap.size≤g) (hB:sa.Blk w g A bs.length c a l) (hC:(Kd.int .u8).C w A bs.length bs) (hc:bs.length≤c) (he:(u a).2.2 ≠ 0) :
  Calls Try.prog 99 #[.pointer (some ⟨g,0,none⟩)] w fun e w'=>e=sa.flt 41 a∧sa.Nb w0 w w' g:=by
 obtain ⟨K,hK⟩:=hU.U
 have HK:=zA (hK a)
 have HB:=zA hB
 have HC:=zA hC
 have HCC:=zA hc
 have HBB:=zA hb
 have h0:=hB.c0
 have h1:=hB.c1
 have f1:=hB.fz 1
 obtain ⟨r1,r2,r3,hr⟩:∃ r1 r2 r3,u a=(r1,r2,r3):=⟨_,_,_,rfl⟩
 rw [hr] at he HK
 dsimp only at he
 have d1:(r3 != 0)=true:=bne_iff_ne.2 he
 have d2:(r3 == 0)=false:=beq_eq_false_iff_ne.2 he
 have d3:decide (r3=0)=false:=zF he
 clear hK hr hB hC hc hb hU he
 generalize bs.length=m at *
 go_enter Try.func99,Try.ntmps99
 go_wp2_with (first | (go_at_call 40;refine (sa.uint1 HK.out HC.out HCC.out).mono ?_;rintro e_ w1 ⟨rfl,hd⟩;have HD:=zA hd;clear hd h0 h1 f1;have h0:=(HB.out.below HD.out.below).c0;have h1:=(HB.out.below HD.out.below).c1;have f1:=(HB.out.below HD.out.below).fz 1) | (go_at_call 87;refine (sa.fails1 41 a _).mono ?_;rintro e_ w_ ⟨rfl,rfl⟩;unfold sa.flt))
 exact ⟨rfl,rfl,sa.Fr.of_below HD.out.below,qAY HBB.out HBB.out.size HD.out.below⟩
theorem sa.countY {bs:List Int} {u i:Int→Int × Int × Int} (hU:sa.Uin bs u i) {w0 w:World} {g:Nat} {A:Option Addr} {c:Nat} {a l:Int} (hb:Below w0.heap.size w0 w) (hg:w0.heap.size≤g) (hB:sa.Blk w g A bs.length c a l) (hC:(Kd.int .u8).C w A bs.length bs) (hc:bs.length≤c) (tag each:Int) (he:(u a).2.2=0) (h1e:1≤each) (h2e:each≤2) (hl0:0≤l) (hl1:l≤2048) (hn:(u a).1≤l / each) :
  Calls Try.prog 90 #[.pointer (some ⟨g,0,none⟩),.int .i64 tag,.int .u64 each] w fun e w'=>e=.returned (.int .i64 (u a).1)∧sa.Nx w0 w w' g A bs.length c (u a).2.1 l:=by
 have HN:=zA (sa.numberY hU hb hg hB hC hc he)
 have hr0:=(hU.R a).1
 clear hU hb hg hB hC hc he
 generalize bs.length=m at *
 obtain ⟨r1,r2,r3,hr⟩:∃ r1 r2 r3,u a=(r1,r2,r3):=⟨_,_,_,rfl⟩
 rw [hr] at HN hr0 hn ⊢
 dsimp only at HN hr0 hn ⊢
 clear hr
 have h2k:r1≤2048:=by
  have:l / each≤2048:=Int.le_trans (Int.ediv_le_self _ hl0) hl1
  omega
 have d1:decide (r1 > l / each)=false:=zF (by omega)
 have d2:decide (l / each < r1)=false:=zF (by omega)
 have d3:(each=0)=False:=eq_false (by omega)
 have d4:(each == 0)=false:=beq_eq_false_iff_ne.2 (by omega)
 clear hn
 go_enter Try.func90,Try.ntmps90
 go_wp2_with (go_at_call 99;refine HN.out.mono ?_;rintro e_ w1 ⟨rfl,hx⟩;have HX:=zA hx;have h2:=hx.blk.c2;clear hx)
 go_ret
 exact ⟨rfl,HX.out⟩
theorem sa.countE {bs:List Int} {u i:Int→Int × Int × Int} (hU:sa.Uin bs u i) {w0 w:World} {g:Nat} {A:Option Addr} {c:Nat} {a l:Int} (hb:Below w0.heap.size w0 w) (hg:w0.heap.size≤g) (hB:sa.Blk w g A bs.length c a l) (hC:(Kd.int .u8).C w A bs.length bs) (hc:bs.length≤c) (tag each:Int) (he:(u a).2.2 ≠ 0) :
  Calls Try.prog 90 #[.pointer (some ⟨g,0,none⟩),.int .i64 tag,.int .u64 each] w fun e w'=>e=sa.flt 41 a∧sa.Nb w0 w w' g:=by
 have HN:=zA (sa.numberN hU hb hg hB hC hc he)
 clear hU hb hg hB hC hc he
 go_enter Try.func90,Try.ntmps90
 go_wp2_with (go_at_call 99;refine HN.out.mono ?_;rintro e_ w1 ⟨rfl,hx⟩;have HX:=zA hx;clear hx;unfold sa.flt)
 exact ⟨rfl,rfl,HX.out⟩
theorem sa.countN {bs:List Int} {u i:Int→Int × Int × Int} (hU:sa.Uin bs u i) {w0 w:World} {g:Nat} {A:Option Addr} {c:Nat} {a l:Int} (hb:Below w0.heap.size w0 w) (hg:w0.heap.size≤g) (hB:sa.Blk w g A bs.length c a l) (hC:(Kd.int .u8).C w A bs.length bs) (hc:bs.length≤c) (tag each:Int) (he:(u a).2.2=0) (h1e:1≤each) (h2e:each≤2) (hl0:0≤l) (hl1:l≤2048) (hn:l / each < (u a).1) :
  Calls Try.prog 90 #[.pointer (some ⟨g,0,none⟩),.int .i64 tag,.int .u64 each] w fun e w'=>e=sa.flt 42 tag∧sa.Nb w0 w w' g:=by
 have HN:=zA (sa.numberY hU hb hg hB hC hc he)
 clear hU hb hg hB hC hc he
 generalize bs.length=m at *
 obtain ⟨r1,r2,r3,hr⟩:∃ r1 r2 r3,u a=(r1,r2,r3):=⟨_,_,_,rfl⟩
 rw [hr] at HN hn
 dsimp only at HN hn
 clear hr
 have d1:decide (r1 > l / each)=true:=zT (by omega)
 have d2:decide (l / each < r1)=true:=zT (by omega)
 have d3:(each=0)=False:=eq_false (by omega)
 have d4:(each == 0)=false:=beq_eq_false_iff_ne.2 (by omega)
 clear hn
 go_enter Try.func90,Try.ntmps90
 go_wp2_with (first | (go_at_call 99;refine HN.out.mono ?_;rintro e_ w1 ⟨rfl,hx⟩;have HX:=zA hx;have h2:=hx.blk.c2;clear hx) | (go_at_call 87;refine (sa.fails1 42 tag _).mono ?_;rintro e_ w_ ⟨rfl,rfl⟩;unfold sa.flt))
 exact ⟨rfl,rfl,HX.out.fr,HX.out.bel⟩
theorem sa.cutN {bs:List Int} {u i:Int→Int × Int × Int} (hU:sa.Uin bs u i) {w0 w:World} {g:Nat} {A:Option Addr} {c:Nat} {a l:Int} (hb:Below w0.heap.size w0 w) (hg:w0.heap.size≤g) (hB:sa.Blk w g A bs.length c a l) (hC:(Kd.int .u8).C w A bs.length bs) (hc:bs.length≤c) (n p:Int) (ha0:0≤a) (ha1:a≤bs.length) (hL:bs.length≤140737488351232) (hn:(bs.length:Int) - a < n) :
  Calls Try.prog 91 #[.pointer (some ⟨g,0,none⟩),.int .i64 n,.int .i64 p] w fun e w'=>e=sa.flt 41 p∧sa.Nb w0 w w' g:=by
 have HBB:=zA hb
 have h0:=hB.c0
 have h1:=hB.c1
 clear hU hb hg hB hC hc
 generalize bs.length=m at *
 have d1:decide (n > (m:Int) - a)=true:=zT (by omega)
 have d2:decide ((m:Int) - a < n)=true:=zT (by omega)
 have hm0:(m:Int)≤140737488351232:=by omega
 clear hn hL
 go_enter Try.func91,Try.ntmps91
 go_wp2
 go_quiet (fail)
 go_wp2_with (go_at_call 87;refine (sa.fails1 41 p _).mono ?_;rintro e_ w_ ⟨rfl,rfl⟩;unfold sa.flt)
 exact ⟨rfl,rfl,sa.Fr.of_below (qAD (Below.refl _ _) _),qAD HBB.out _⟩
theorem sa.cutY {bs:List Int} {u i:Int→Int × Int × Int} (hU:sa.Uin bs u i) {w0 w:World} {g:Nat} {A:Option Addr} {c:Nat} {a l:Int} (hb:Below w0.heap.size w0 w) (hg:w0.heap.size≤g) (hB:sa.Blk w g A bs.length c a l) (hC:(Kd.int .u8).C w A bs.length bs) (hc:bs.length≤c) (n p:Int) (ha0:0≤a) (ha1:a≤bs.length) (hL:bs.length≤140737488351232) (hn0:0≤n) (hn:n≤(bs.length:Int) - a) :
  Calls Try.prog 91 #[.pointer (some ⟨g,0,none⟩),.int .i64 n,.int .i64 p] w fun e w'=>e=.returned (.string (strOfNums ((bs.drop a.toNat).take n.toNat)))∧sa.Nx w0 w w' g A bs.length c (a+n) l:=by
 obtain ⟨a,rfl⟩:=Int.eq_ofNat_of_zero_le ha0
 obtain ⟨n,rfl⟩:=Int.eq_ofNat_of_zero_le hn0
 rw [Int.toNat_natCast,Int.toNat_natCast]
 have HBB:=zA hb
 have HB:=zA hB
 have h0:=hB.c0
 have h1:=hB.c1
 have f1:=hB.fz 1
 have h0':(w.setCell ⟨g,1,none⟩ (.int .i64 ((a:Int)+(n:Int)))).cell? ⟨g,0,none⟩=some (.slice A bs.length c):=(hB.set1 ((a:Int)+(n:Int))).c0
 have h1':(w.setCell ⟨g,1,none⟩ (.int .i64 ((a:Int)+(n:Int)))).cell? ⟨g,1,none⟩=some (.int .i64 ((a:Int)+(n:Int))):=(hB.set1 ((a:Int)+(n:Int))).c1
 have hC2:=sa.qBK hC hB (sa.Fr.set w g 1 (.int .i64 ((a:Int)+(n:Int))))
 obtain ⟨i0,hi0,_,hsz0,_⟩:=info_parts info5
 have hcm:=cut_mid (P:=Try.prog) 44 5 .i64 .i64 Try.underlying44 hi0 1 hsz0 A bs.length c (a:Int) ((a:Int)+(n:Int)) (by omega) (by omega) (by omega) hc
 rw [Int.toNat_natCast,show ((a:Int)+(n:Int)).toNat - a=n by omega] at hcm
 have hlen:((bs.drop a).take n).length=n:=by rw [List.length_take,List.length_drop];omega
 have hC3:=Kd.C_take (m:=n) (Kd.C_drop (m:=a) hC2 (by omega) hc) (by rw [List.length_drop];omega)
 rw [hlen] at hC3
 have hC3':(Kd.int .u8).C (w.setCell ⟨g,1,none⟩ (.int .i64 ((a:Int)+(n:Int)))) (if c=a then A else A.map (·.add (a * 1))) n ((bs.drop a).take n):=hC3
 generalize (if c=a then A else A.map (·.add (a * 1)))=A2 at hcm hC3'
 have hcv:=fun (n1 n_:Nat)=>Kd.qB8 (P:=Try.prog) (A:=A2) (c:=c - a) Try.underlying44 Try.underlying5 Try.underlying9 (Kd.qAk (w:=(w.drewN n1).setCell ⟨g,1,none⟩ (.int .i64 ((a:Int)+(n:Int)))) (by rw [hlen];exact Kd.qAk hC3' n1:(Kd.int .u8).C _ A2 ((bs.drop a).take n).length ((bs.drop a).take n)) n_)
 rw [hlen] at hcv
 generalize strOfNums ((bs.drop a).take n)=st at hcv ⊢
 have hm0:(bs.length:Int)≤140737488351232:=by omega
 have d1:decide ((n:Int) > (bs.length:Int) - (a:Int))=false:=zF (by omega)
 have d2:decide ((bs.length:Int) - (a:Int) < (n:Int))=false:=zF (by omega)
 have ha2:(a:Int)≤(bs.length:Int):=ha1
 have hn2:(n:Int)≤(bs.length:Int) - (a:Int):=hn
 clear hU hb hB hC hC2 hC3 hC3' hlen hi0 hsz0
 generalize bs.length=m at *
 have hw1:IntKind.i64.wrap (a:Int)=(a:Int):=by rw [IntKind.wrap_i64];omega
 have hw2:IntKind.i64.wrap ((a:Int)+(n:Int) - (n:Int))=(a:Int):=by rw [IntKind.wrap_i64];omega
 go_enter Try.func91,Try.ntmps91
 go_wp2
 go_quiet (fail)
 go_wp2
 go_quiet (fail)
 go_wp2
 go_ret
 exact ⟨rfl,((HB.out.below (qAD (Below.refl _ _) _)).set1 _).below (qAD (Below.refl _ _) _),((sa.Fr.of_below (qAD (Below.refl _ _) _)).trans (sa.Fr.set _ _ _ _)).trans (sa.Fr.of_below (qAD (Below.refl _ _) _)),qAD ((qAD HBB.out _).setCell hg _) _⟩
theorem sa.texts_fr {w w1:World} {g:Nat} {A:Option Addr} {n c:Nat} {a l:Int} {xs:List ByteArray} {A':Option Addr} {n':Nat} (h:Kd.string.C w A' n' xs) (hB:sa.Blk w g A n c a l) (hF:sa.Fr g w w1):Kd.string.C w1 A' n' xs:=by
 refine ⟨h.1,h.2.1,fun hp => ?_⟩
 obtain ⟨ad,e,hc⟩:=h.2.2 hp
 refine ⟨ad,e,fun j p hj => ?_⟩
 obtain ⟨cs,h1,h2,h3⟩:=hc j p hj
 refine ⟨cs,h1,h2,fun i u hu => ?_⟩
 have h4:=h3 i u hu
 have hlt:=qs4 w _ h4
 have hne:(ad.add (j * Kd.string.sz+i)).block ≠ g:=by
  intro e1
  have h5:cs=[.string p]:=h2
  subst h5
  cases i with
  | succ i=>simp at hu
  | zero =>
   simp at hu
   subst hu
   unfold World.cell? at h4
   rw [e1] at h4
   have hB':w.heap[g]?=some (.cells #[.slice A n c,.int .i64 a,.int .i64 l] 106 (0,0)):=hB
   rw [hB'] at h4
   simp only at h4
   split at h4
   ·cases h4
   ·generalize (ad.add (j * Kd.string.sz+0)).off=o at h4
    match o,h4 with
    | 0,h4=>simp at h4
    | 1,h4=>simp at h4
    | 2,h4=>simp at h4
    | o+3,h4=>simp at h4
 have h6:=hF.2 _ hlt hne
 rw [← h4]
 simp [World.cell?,h6]
def sa.keyS (bs:List Int) (u:Int→Int × Int × Int) (ks:List ByteArray) (a l:Int):sa.R3 ByteArray :=
 if (u a).2.2 ≠ 0 then .bad 41 a else
 if (u a).1 > 32 then .bad 41 a else
 if (u a).1 > (bs.length:Int) - (u a).2.1 then .bad 41 a else
 let k:=strOfNums ((bs.drop (u a).2.1.toNat).take (u a).1.toNat)
 if 0 < ks.length∧¬ Op.bytesLess (rdOf ByteArray.empty ks ((ks.length:Int) - 1)).toList k.toList=true then .bad 41 a else
 if 1+(k.size:Int) > l then .bad 42 a else .ok k ((u a).2.1+(u a).1) (l - (1+(k.size:Int)))
def sa.Got {α:Type} (r:sa.R3 α) (enc:α→Value) (w0 w:World) (g:Nat) (A:Option Addr) (m c:Nat) (e:Ending) (w':World):Prop :=
 match r with
 | .ok x a' l'=>e=.returned (enc x)∧sa.Nx w0 w w' g A m c a' l'
 | .bad f p=>e=sa.flt f p∧sa.Nb w0 w w' g
theorem sa.qB7 (bs:List Int):(strOfNums bs).size=bs.length:=by simp [strOfNums,ByteArray.size]
theorem sa.key1 {bs:List Int} {u i:Int→Int × Int × Int} (hU:sa.Uin bs u i) {w0 w:World} {g:Nat} {A:Option Addr} {c:Nat} {a l:Int} (hb:Below w0.heap.size w0 w) (hg:w0.heap.size≤g) (hB:sa.Blk w g A bs.length c a l) (hC:(Kd.int .u8).C w A bs.length bs) (hc:bs.length≤c) (KA:Option Addr) (kc:Nat) (ks:List ByteArray) (hK:Kd.string.C w KA ks.length ks) (hl0:0≤l) (hl1:l≤2048) (hkc:ks.length≤kc) (hkl:ks.length≤4096) :
  Calls Try.prog 92 #[.pointer (some ⟨g,0,none⟩),.slice KA ks.length kc] w (sa.Got (sa.keyS bs u ks a l) (fun k=>.string k) w0 w g A bs.length c):=by
 unfold sa.keyS
 by_cases he:(u a).2.2 ≠ 0
 ·rw [if_pos he]
  have HN:=zA (sa.numberN hU hb hg hB hC hc he)
  clear hU hb hg hB hC hc he hK
  go_enter Try.func92,Try.ntmps92
  go_wp2_with (go_at_call 99;refine HN.out.mono ?_;rintro e_ w1 ⟨rfl,hx⟩;have HX:=zA hx;clear hx;unfold sa.flt)
  exact ⟨rfl,rfl,HX.out⟩
 rw [if_neg he]
 have he0:(u a).2.2=0:=Classical.byContradiction he
 have HN:=zA (sa.numberY hU hb hg hB hC hc he0)
 have hr0:=hU.R a
 have hrN:=hU.N a he0
 have HUL:=zA hU.L
 have HUU:=zA hU
 clear hU he he0
 obtain ⟨r1,r2,r3,hr⟩:∃ r1 r2 r3,u a=(r1,r2,r3):=⟨_,_,_,rfl⟩
 rw [hr] at HN hr0 hrN ⊢
 dsimp only at HN hr0 hrN ⊢
 clear hr
 by_cases h1:r1 > 32
 ·rw [if_pos h1]
  have d1:decide (r1 > 32)=true:=zT h1
  have d2:decide (32 < r1)=true:=zT h1
  clear hb hg hB hC hc hK h1
  go_enter Try.func92,Try.ntmps92
  go_wp2_with (first | (go_at_call 99;refine HN.out.mono ?_;rintro e_ w1 ⟨rfl,hx⟩;have HX:=zA hx;clear hx) | (go_at_call 87;refine (sa.fails1 41 a _).mono ?_;rintro e_ w_ ⟨rfl,rfl⟩;unfold sa.flt))
  exact ⟨rfl,rfl,HX.out.fr,HX.out.bel⟩
 rw [if_neg h1]
 have d1:decide (r1 > 32)=false:=zF h1
 have d2:decide (32 < r1)=false:=zF (by omega)
 have hcv:IntKind.i64.wrap r1=r1:=by rw [IntKind.wrap_i64];omega
 have HB:=zA hB
 have HC:=zA hC
 have HCC:=zA hc
 have HGG:=zA hg
 have HBB:=zA hb
 have HK:=zA hK
 have HKL:=zA hkl
 have HL1:=zA hl1
 have HR0:=zA hr0.1
 have HR2:=zA (show 0≤r2∧r2≤bs.length by omega)
 clear hb hg hB hC hc hK hrN hl1
 by_cases h2:r1 > (bs.length:Int) - r2
 ·rw [if_pos h2]
  have HCUT:=zA (show (bs.length:Int) - r2 < r1 from h2)
  clear h2 hr0
  go_enter Try.func92,Try.ntmps92
  go_wp2_with (first | (go_at_call 99;refine HN.out.mono ?_;rintro e_ w1 ⟨rfl,hx⟩;have HX:=zA hx;clear hx) | (go_at_call 91;refine (sa.cutN HUU.out HX.out.bel HGG.out HX.out.blk (sa.qBK HC.out HB.out HX.out.fr) HCC.out r1 a HR2.out.1 HR2.out.2 HUL.out HCUT.out).mono ?_;rintro e_ w2 ⟨rfl,hx⟩;have HX2:=zA hx;clear hx;unfold sa.flt))
  exact ⟨rfl,rfl,HX.out.fr.trans HX2.out.fr,HX2.out.bel⟩
 rw [if_neg h2]
 have HCUT:=zA (show r1≤(bs.length:Int) - r2 by omega)
 obtain ⟨k,hk⟩:∃ k,strOfNums ((bs.drop r2.toNat).take r1.toNat)=k:=⟨_,rfl⟩
 have hks:k.size≤32:=by rw [← hk,sa.qB7,List.length_take];omega
 have HST:=zA hk
 rw [hk]
 clear h2 hk hr0
 have hs0:wrap64 (1+(k.size:Int))=1+(k.size:Int):=by unfold wrap64;omega
 by_cases hn:0 < ks.length
 ·obtain ⟨q,hq⟩:∃ q,ks.length=q+1:=⟨ks.length - 1,by omega⟩
  have HQ:=zA hq
  have n0:(ks.length:Int) - 1=(q:Int):=by omega
  rw [n0]
  obtain ⟨last,hlast⟩:∃ s,rdOf ByteArray.empty ks (q:Int)=s:=⟨_,rfl⟩
  rw [hlast]
  have HLAST:=zA hlast
  have hq2:q≤4096:=by omega
  clear hlast n0
  by_cases hlt:Op.bytesLess last.toList k.toList=true
  ·rw [if_neg (fun h=>h.2 hlt)]
   rw [hq]
   clear hq hn hkc hkl
   by_cases hw:1+(k.size:Int) > l
   ·rw [if_pos hw]
    have HW:=zA (show l < 1+(k.size:Int) from hw)
    clear hw
    go_enter Try.func92,Try.ntmps92
    go_wp2_with (first | (go_at_call 99;refine HN.out.mono ?_;rintro e_ w1 ⟨rfl,hx⟩;have HX:=zA hx;clear hx) | (go_at_call 91;refine (sa.cutY HUU.out HX.out.bel HGG.out HX.out.blk (sa.qBK HC.out HB.out HX.out.fr) HCC.out r1 a HR2.out.1 HR2.out.2 HUL.out HR0.out HCUT.out).mono ?_;rw [HST.out];rintro e_ w2 ⟨rfl,hx⟩;have HX2:=zA hx;clear hx;obtain ⟨adK,eK,hx_⟩:=Kd.qBH (sa.texts_fr (sa.texts_fr HK.out HB.out HX.out.fr) HX.out.blk HX2.out.fr) (q:Int) (by omega) (by have:=HQ.out;omega);cases eK;rw [Int.toNat_natCast,HLAST.out] at hx_;have hx:=hx_;clear hx_) | (go_at_call 88;refine (sa.weighsN HX2.out.blk (1+(k.size:Int)) a HW.out).mono ?_;rintro e_ w3 ⟨rfl,hx⟩;have HX3:=zA hx;clear hx;unfold sa.flt))
    exact ⟨rfl,rfl,HX3.out▸HX.out.fr.trans HX2.out.fr,HX3.out▸HX2.out.bel⟩
   ·rw [if_neg hw]
    have HW:=zA (show 1+(k.size:Int)≤l by omega)
    clear hw
    go_enter Try.func92,Try.ntmps92
    go_wp2_with (first | (go_at_call 99;refine HN.out.mono ?_;rintro e_ w1 ⟨rfl,hx⟩;have HX:=zA hx;clear hx) | (go_at_call 91;refine (sa.cutY HUU.out HX.out.bel HGG.out HX.out.blk (sa.qBK HC.out HB.out HX.out.fr) HCC.out r1 a HR2.out.1 HR2.out.2 HUL.out HR0.out HCUT.out).mono ?_;rw [HST.out];rintro e_ w2 ⟨rfl,hx⟩;have HX2:=zA hx;clear hx;obtain ⟨adK,eK,hx_⟩:=Kd.qBH (sa.texts_fr (sa.texts_fr HK.out HB.out HX.out.fr) HX.out.blk HX2.out.fr) (q:Int) (by omega) (by have:=HQ.out;omega);cases eK;rw [Int.toNat_natCast,HLAST.out] at hx_;have hx:=hx_;clear hx_) | (go_at_call 88;refine (sa.qBo HX2.out.blk (1+(k.size:Int)) a HW.out HL1.out (by omega)).mono ?_;rintro e_ w3 ⟨rfl,hx⟩;have HX3:=zA hx;clear hx))
    go_ret
    exact ⟨rfl,HX3.out▸HX2.out.blk.set2 _,HX3.out▸(HX.out.fr.trans (HX2.out.fr.trans (sa.Fr.set _ _ _ _))),HX3.out▸HX2.out.bel.setCell HGG.out _⟩
  ·rw [if_pos ⟨hn,hlt⟩]
   have hlf:Op.bytesLess last.toList k.toList=false:=by simpa using hlt
   rw [hq]
   clear hlt hn hq hkc hkl
   go_enter Try.func92,Try.ntmps92
   go_wp2_with (first | (go_at_call 99;refine HN.out.mono ?_;rintro e_ w1 ⟨rfl,hx⟩;have HX:=zA hx;clear hx) | (go_at_call 91;refine (sa.cutY HUU.out HX.out.bel HGG.out HX.out.blk (sa.qBK HC.out HB.out HX.out.fr) HCC.out r1 a HR2.out.1 HR2.out.2 HUL.out HR0.out HCUT.out).mono ?_;rw [HST.out];rintro e_ w2 ⟨rfl,hx⟩;have HX2:=zA hx;clear hx;obtain ⟨adK,eK,hx_⟩:=Kd.qBH (sa.texts_fr (sa.texts_fr HK.out HB.out HX.out.fr) HX.out.blk HX2.out.fr) (q:Int) (by omega) (by have:=HQ.out;omega);cases eK;rw [Int.toNat_natCast,HLAST.out] at hx_;have hx:=hx_;clear hx_) | (go_at_call 87;refine (sa.fails1 41 a _).mono ?_;rintro e_ w_ ⟨rfl,rfl⟩;unfold sa.flt))
   exact ⟨rfl,rfl,HX.out.fr.trans HX2.out.fr,HX2.out.bel⟩
 ·rw [if_neg (fun h=>hn h.1)]
  have h0:ks.length=0:=by omega
  rw [h0]
  clear hn h0 hkc hkl
  by_cases hw:1+(k.size:Int) > l
  ·rw [if_pos hw]
   have HW:=zA (show l < 1+(k.size:Int) from hw)
   clear hw
   go_enter Try.func92,Try.ntmps92
   go_wp2_with (first | (go_at_call 99;refine HN.out.mono ?_;rintro e_ w1 ⟨rfl,hx⟩;have HX:=zA hx;clear hx) | (go_at_call 91;refine (sa.cutY HUU.out HX.out.bel HGG.out HX.out.blk (sa.qBK HC.out HB.out HX.out.fr) HCC.out r1 a HR2.out.1 HR2.out.2 HUL.out HR0.out HCUT.out).mono ?_;rw [HST.out];rintro e_ w2 ⟨rfl,hx⟩;have HX2:=zA hx;clear hx;skip) | (go_at_call 88;refine (sa.weighsN HX2.out.blk (1+(k.size:Int)) a HW.out).mono ?_;rintro e_ w3 ⟨rfl,hx⟩;have HX3:=zA hx;clear hx;unfold sa.flt))
   exact ⟨rfl,rfl,HX3.out▸HX.out.fr.trans HX2.out.fr,HX3.out▸HX2.out.bel⟩
  ·rw [if_neg hw]
   have HW:=zA (show 1+(k.size:Int)≤l by omega)
   clear hw
   go_enter Try.func92,Try.ntmps92
   go_wp2_with (first | (go_at_call 99;refine HN.out.mono ?_;rintro e_ w1 ⟨rfl,hx⟩;have HX:=zA hx;clear hx) | (go_at_call 91;refine (sa.cutY HUU.out HX.out.bel HGG.out HX.out.blk (sa.qBK HC.out HB.out HX.out.fr) HCC.out r1 a HR2.out.1 HR2.out.2 HUL.out HR0.out HCUT.out).mono ?_;rw [HST.out];rintro e_ w2 ⟨rfl,hx⟩;have HX2:=zA hx;clear hx;skip) | (go_at_call 88;refine (sa.qBo HX2.out.blk (1+(k.size:Int)) a HW.out HL1.out (by omega)).mono ?_;rintro e_ w3 ⟨rfl,hx⟩;have HX3:=zA hx;clear hx))
   go_ret
   exact ⟨rfl,HX3.out▸HX2.out.blk.set2 _,HX3.out▸(HX.out.fr.trans (HX2.out.fr.trans (sa.Fr.set _ _ _ _))),HX3.out▸HX2.out.bel.setCell HGG.out _⟩
def sa.qBe (u:Int→Int × Int × Int) (tag each a l:Int):sa.R3 Int :=
 if (u a).2.2 ≠ 0 then .bad 41 a else if l / each < (u a).1 then .bad 42 tag else .ok (u a).1 (u a).2.1 l
def sa.arrL (f:Int→Int→sa.R3 S34):Nat→List S34→Int→Int→sa.R3 (List S34)
 | 0,acc,a,l=>.ok acc a l
 | n+1,acc,a,l=>match f a l with
  | .bad e p=>.bad e p
  | .ok x a1 l1=>sa.arrL f n (acc ++ [x]) a1 l1
def sa.recL (bs:List Int) (u:Int→Int × Int × Int) (f:Int→Int→sa.R3 S34):Nat→List ByteArray→List S34→Int→Int→sa.R3 (List ByteArray × List S34)
 | 0,ks,acc,a,l=>.ok (ks,acc) a l
 | n+1,ks,acc,a,l=>match sa.keyS bs u ks a l with
  | .bad e p=>.bad e p
  | .ok k a1 l1=>match f a1 l1 with
   | .bad e p=>.bad e p
   | .ok x a2 l2=>sa.recL bs u f n (ks ++ [k]) (acc ++ [x]) a2 l2
def sa.valS (bs:List Int) (u i:Int→Int × Int × Int):Nat→Int→Int→sa.R3 S34
 | d,a,l =>
  if a=(bs.length:Int) ∨ rd bs a > 6 then .bad 41 a
  else match d with
   | 0=>.bad 42 a
   | d+1=>if 1 > l then .bad 42 a
    else if rd bs a=1 then .ok ⟨1,0,⟨#[]⟩,[],[]⟩ (a+1) (l - 1)
    else if rd bs a=2 then .ok ⟨1,1,⟨#[]⟩,[],[]⟩ (a+1) (l - 1)
    else if rd bs a=3 then (if (i (a+1)).2.2 ≠ 0 then .bad 41 (a+1) else .ok ⟨2,(i (a+1)).1,⟨#[]⟩,[],[]⟩ (i (a+1)).2.1 (l - 1))
    else if rd bs a=4 then (match sa.qBe u a 1 (a+1) (l - 1) with
     | .bad e p=>.bad e p
     | .ok n a1 l1=>if (bs.length:Int) - a1 < n then .bad 41 (a+1) else .ok ⟨3,0,strOfNums ((bs.drop a1.toNat).take n.toNat),[],[]⟩ (a1+n) (l1 - n))
    else if rd bs a=5 then (match sa.qBe u a 1 (a+1) (l - 1) with
     | .bad e p=>.bad e p
     | .ok n a1 l1=>match sa.arrL (sa.valS bs u i d) n.toNat [] a1 l1 with
      | .bad e p=>.bad e p
      | .ok vs a2 l2=>.ok ⟨4,0,⟨#[]⟩,vs,[]⟩ a2 l2)
    else if rd bs a=6 then (match sa.qBe u a 2 (a+1) (l - 1) with
     | .bad e p=>.bad e p
     | .ok n a1 l1=>match sa.recL bs u (sa.valS bs u i d) n.toNat [] [] a1 l1 with
      | .bad e p=>.bad e p
      | .ok (ks,vs) a2 l2=>.ok ⟨5,0,⟨#[]⟩,vs,ks⟩ a2 l2)
    else .ok ⟨0,0,⟨#[]⟩,[],[]⟩ (a+1) (l - 1)
def sa.GotV (r:sa.R3 S34) (w0 w:World) (g:Nat) (A:Option Addr) (m c:Nat) (e:Ending) (w':World):Prop :=
 match r with
 | .ok x a' l'=>(∃ v3 v4:Value,e=.returned (.agg #[.int .i64 x.f0,.int .i64 x.f1,.string x.f2,v3,v4])∧k34.R 34 w' w0.heap.size (fun k=>w.heap.size≤k) v3 x.f3∧Kd.string.R 9 w' w0.heap.size (fun k=>w.heap.size≤k) v4 x.f4)∧sa.Nx w0 w w' g A m c a' l'
 | .bad f p=>e=sa.flt f p∧sa.Nb w0 w w' g
section
variable {ops:Array Oper} {rest:List Oper} {o:Oper} {a:Act} {Q:Exit→Act→World→Prop}
theorem sa.qAo {W:World} (hgd:o.guard=none) (hN:o.dst=none) (p:Tmp) (x:Operand) (ho:o.op=.store 34 (.tmp p) x) (rb:Nat) (haddr:a.eval (.tmp p)=.pointer (some ⟨rb,0,none⟩)) (v0 v1 v2 v3 v4:Value) (hx:a.eval x=.agg #[v0,v1,v2,v3,v4]) (h1:∀ q ∈ [v0,v1,v2,v3,v4],q.oneCell'=true) (cur:Array Value) (hsz:cur.size=5) (hh:W.heap[rb]?=some (.cells cur 34 (0,0)))
  (h:∀ W1,W1.heap[rb]?=some (.cells #[v0,v1,v2,v3,v4] 34 (0,0))→W.grownBy W1 (some rb)→wpList Try.prog ops Q rest a W1):wpList Try.prog ops Q (o :: rest) a W:=by
 have hu:(Value.agg #[v0,v1,v2,v3,v4]).cells.toList=[v0,v1,v2,v3,v4]:=by simp [Value.cells]
 have hrun:(Instr.storeAt 34 (.pointer (some ⟨rb,0,none⟩)) (.agg #[v0,v1,v2,v3,v4])).run Try.prog W=.ok () (W.setCells rb 0 [v0,v1,v2,v3,v4]) :=
  qCU 34 _ [v0,v1,v2,v3,v4] hh hu (by kernel_rfl) (by rw [hsz];simp) h1
 obtain ⟨cur',c1,c2,c3⟩:=qBw [v0,v1,v2,v3,v4] 0 W cur hh (by rw [hsz];simp)
 have hc:cur'=#[v0,v1,v2,v3,v4]:=by
  apply Array.toList_inj.1
  rw [c3]
  have:cur.toList.drop 5=[]:=List.drop_eq_nil_of_le (by rw [Array.length_toList];omega)
  simp [this]
 subst hc
 obtain ⟨s1,s2,s3,s4⟩:=qBq rb [v0,v1,v2,v3,v4] 0 W
 refine wpList_plain hgd fun K hK => ?_
 unfold Oper.wp execOp
 simp only [ho,haddr,hx,Sem.run_bind,Sem.run_pure,Result.andThen_ok,hrun]
 show K (a.put o.dst undef) _
 rw [hN]
 exact hK a _ (h _ c1 ⟨s1,s2,s3,by omega,fun k hk hne=>qBx _ _ k (fun e=>hne (by rw [e]))⟩)
end
structure sa.Ly (W:World) (g:Nat) (A:Option Addr) (m c:Nat) (a l:Int) (p:Addr) (b:Int) (rb:Nat) (cs:Array Value):Prop where
 blk:sa.Blk W g A m c a l
 byt:W.cell? p=some (.int .u8 b)
 res:W.heap[rb]?=some (.cells cs 34 (0,0))
theorem sa.Ly.below {W W1:World} {g:Nat} {A:Option Addr} {m c:Nat} {a l:Int} {p:Addr} {b:Int} {rb:Nat} {cs:Array Value} (h:sa.Ly W g A m c a l p b rb cs) (hb:Below W.heap.size W W1):sa.Ly W1 g A m c a l p b rb cs :=
 ⟨h.blk.below hb,(hb.cell (qs4 W _ h.byt)).trans h.byt,qAX h.res hb⟩
theorem sa.Ly.ne {W:World} {g:Nat} {A:Option Addr} {m c:Nat} {a l:Int} {p:Addr} {b:Int} {rb:Nat} {cs:Array Value} (h:sa.Ly W g A m c a l p b rb cs):p.block ≠ g∧rb ≠ g:=by
 constructor
 ·intro e1
  have h4:=h.byt
  unfold World.cell? at h4
  rw [e1] at h4
  have hB':W.heap[g]?=some (.cells #[.slice A m c,.int .i64 a,.int .i64 l] 106 (0,0)):=h.blk
  rw [hB'] at h4
  simp only at h4
  split at h4
  ·cases h4
  ·generalize p.off=o at h4
   match o,h4 with
   | 0,h4=>simp at h4
   | 1,h4=>simp at h4
   | 2,h4=>simp at h4
   | o+3,h4=>simp at h4
 ·rintro rfl
  have hB':W.heap[rb]?=some (.cells #[.slice A m c,.int .i64 a,.int .i64 l] 106 (0,0)):=h.blk
  have:=h.res
  rw [hB'] at this
  injection this with this
  injection this with _ this
  exact absurd this (by decide)
theorem sa.Ly.fr {W W1:World} {g:Nat} {A:Option Addr} {m c:Nat} {a l a' l':Int} {p:Addr} {b:Int} {rb:Nat} {cs:Array Value} (h:sa.Ly W g A m c a l p b rb cs) (hF:sa.Fr g W W1) (hB:sa.Blk W1 g A m c a' l'):sa.Ly W1 g A m c a' l' p b rb cs:=by
 have hlt:=qs4 W _ h.byt
 have h6:=hF.2 _ hlt h.ne.1
 exact ⟨hB,by rw [← h.byt];simp [World.cell?,h6],(hF.2 _ (qAe h.res) h.ne.2).trans h.res⟩
theorem sa.fin_nx {w0 w W W5:World} {g:Nat} {A:Option Addr} {m c:Nat} {a l:Int} {rb:Nat} (hF:sa.Fr g w W) (hB:sa.Blk W g A m c a l) (hne:rb ≠ g) (hG:W.grownBy W5 (some rb)) (hrb:w.heap.size≤rb) (hsz:w0.heap.size≤w.heap.size) (hb:Below w0.heap.size w0 W):sa.Nx w0 w W5 g A m c a l :=
 ⟨(hG.block g (qAe hB) (fun e=>hne (Option.some.inj e).symm)).trans hB,
  ⟨Nat.le_trans hF.1 hG.size,fun k hk hne2=>(hG.block k (Nat.lt_of_lt_of_le hk hF.1) (fun e=>absurd (Option.some.inj e) (by omega))).trans (hF.2 k hk hne2)⟩,
  ⟨hG.os.trans hb.os,hG.tape.trans hb.tape,hG.output.trans hb.output,Nat.le_trans hb.size hG.size,fun k hk=>(hG.block k (by have:=hb.size;omega) (fun e=>absurd (Option.some.inj e) (by omega))).trans (hb.block k hk)⟩⟩
def sa.arrV:sa.R3 (List S34)→sa.R3 S34
 | .bad e p=>.bad e p
 | .ok vs a l=>.ok ⟨4,0,⟨#[]⟩,vs,[]⟩ a l
def sa.recV:sa.R3 (List ByteArray × List S34)→sa.R3 S34
 | .bad e p=>.bad e p
 | .ok (ks,vs) a l=>.ok ⟨5,0,⟨#[]⟩,vs,ks⟩ a l
section
variable {P:Program} {ops:Array Oper} {Q:Exit→Act→World→Prop}
theorem sa.goesT {oi:Oper} {N:Option Tmp} {a:Act} {w:World} {K:Act→World→Prop} {f:FuncId} {fn:Func} {ao:Array Operand} {ts:Array TypeId} (hf:P.funcs[f]?=some fn) (hname:(fn.name == "runtime.NumGoroutine")=false) (hb:fn.body.isSome=true) (args:Array Value)
  (hw:Region.wanted oi (yielded ops a.tmps)=true) (hN:oi.dst=N) (hop:oi.op=.call { callee:=.value (.func f),args:=ao,argTypes:=ts }) (hargs:ao.map a.eval=args)
  (h:Calls P f args w fun e w'=>(∃ v,e=.returned v∧K (a.put N v) w') ∨ (∃ ps,e=.panicked ps∧Q (.panic ps) a w')):if Region.wanted oi (yielded ops a.tmps)=true then Oper.wp P oi a w K Q else K (a.put N undef) w:=by
 have hrun:(execOp a.eval oi).run P w=.ok (.enter f args) w:=by
  have he:=enters_ hf hname hb args w
  unfold execOp
  simp [hop,resolve,Deferred.ofValue,invoke,Act.eval,hargs,he]
 rw [if_pos hw]
 subst hN
 unfold Oper.wp
 rw [hrun,Oper.upon_enter]
 refine h.mono fun e w'' hh => ?_
 rcases hh with ⟨v,rfl,hk⟩ | ⟨ps,rfl,hk⟩
 ·exact hk
 ·exact hk
end
end
section
set_option maxHeartbeats 4000000
set_option maxRecDepth 100000
theorem sa.val_t1 {bs:List Int} {u i:Int→Int × Int × Int} (hU:sa.Uin bs u i) {w0 w:World} {g:Nat} {A:Option Addr} {c:Nat} {a l:Int} (hb:Below w0.heap.size w0 w) (hg:w0.heap.size≤g) (hB:sa.Blk w g A bs.length c a l) (hC:(Kd.int .u8).C w A bs.length bs) (hc:bs.length≤c) (within:Int) (hw:(within == 8)=false) (ha0:0≤a) (ha1:a < (bs.length:Int)) (hl0:1≤l) (hl1:l≤2048) (ht:rd bs a=1) :
  Calls Try.prog 73 #[.pointer (some ⟨g,0,none⟩),.int .i64 within] w (sa.GotV (.ok ⟨1,0,⟨#[]⟩,[],[]⟩ (a+1) (l - 1)) w0 w g A bs.length c):=by
 have HB:=zA hB
 have HC:=zA hC
 have HCC:=zA hc
 have HBB:=zA hb
 have HGG:=zA hg
 have HLL:=zA hU.L
 have HUU:=zA hU
 have hgl:g < w.heap.size:=qAe hB
 have hu25:=Try.underlying34
 obtain ⟨a,rfl⟩:=Int.eq_ofNat_of_zero_le ha0
 have t0:((a:Int) == (bs.length:Int))=false:=beq_eq_false_iff_ne.2 (by omega)
 have t1:(a=bs.length)=False:=eq_false (by omega)
 have t2:decide (a=bs.length)=false:=zF (by omega)
 have t3:(a:Int) < (bs.length:Int):=ha1
 have t4:a < bs.length:=by omega
 have t5:decide (a < bs.length)=true:=zT t4
 have hwr:=zA (show wrap64 ((a:Int)+1)=(a:Int)+1 by have:=hU.L;unfold wrap64;omega)
 have HL0:=zA hl0
 have HL1:=zA hl1
 obtain ⟨ad,hA,hx0⟩:=Kd.qBQ hC (a:Int) (by omega) ha1
 subst hA
 rw [Int.toNat_natCast,ht] at hx0
 have HBW:=zA ((Below.refl w.heap.size w).alloc (Nat.le_refl _) (.cells #[.int .i64 0,.int .i64 0,.string ⟨#[]⟩,.slice none 0 0,.slice none 0 0] 34))
 have L1:=zA (show sa.Ly (w.alloc (.cells #[.int .i64 0,.int .i64 0,.string ⟨#[]⟩,.slice none 0 0,.slice none 0 0] 34)) g (some ad) bs.length c (a:Int) l (ad.add a) 1 w.heap.size #[.int .i64 0,.int .i64 0,.string ⟨#[]⟩,.slice none 0 0,.slice none 0 0] from ⟨HB.out.below HBW.out,(HBW.out.cell (qs4 w _ hx0)).trans hx0,by simpa using heap_alloc_new w _⟩)
 clear hx0
 have h0:=L1.out.blk.c0;have h1:=L1.out.blk.c1;have h2:=L1.out.blk.c2;have f1:=L1.out.blk.fz 1;have f2:=L1.out.blk.fz 2;have hx0:=L1.out.byt;have fr_:=qAC L1.out.res 0
 have HF4:∀ W4,W4=((w.alloc (.cells #[.int .i64 0,.int .i64 0,.string ⟨#[]⟩,.slice none 0 0,.slice none 0 0] 34)).setCell ⟨g,2,none⟩ (.int .i64 (l - 1))).setCell ⟨g,1,none⟩ (.int .i64 ((a:Int)+1))→sa.Fr g w W4∧Below w0.heap.size w0 W4:=by
  rintro _ rfl
  exact ⟨((sa.Fr.of_below HBW.out).trans (sa.Fr.set _ _ _ _)).trans (sa.Fr.set _ _ _ _),((HBB.out.alloc HBB.out.size _).setCell hg _).setCell hg _⟩
 have HF4:=zA HF4
 clear hU hb hg hB hC hc ha1 hl0 hl1 ha0 hgl
 generalize bs.length=m at *
 go_enter Try.func73,Try.ntmps73
 go_wp2_with (first | (go_at_call 88;refine (sa.qBo L1.out.blk 1 (a:Int) HL0.out HL1.out (by omega)).mono ?_;rintro e_ w3 ⟨rfl,hx⟩;have L3:=zA (L1.out.fr (hx▸sa.Fr.set _ _ _ _) (hx▸L1.out.blk.set2 _));have HX3:=zA hx;clear hx;clear h0 h1 h2 f1 f2 hx0 fr_;have h0:=L3.out.blk.c0;have h1:=L3.out.blk.c1;have h2:=L3.out.blk.c2;have f1:=L3.out.blk.fz 1;have f2:=L3.out.blk.fz 2;have hx0:=L3.out.byt;have fr_:=qAC L3.out.res 0) | ((with_reducible refine qAW (p:=48) rfl ?_);go_must (refine qAn ?hg (t:=3) (p:=48) (v:=.tmp 46) (w1:=w3.setCell ⟨g,1,none⟩ (.int .i64 (wrap64 ((a:Int)+1)))) ?ho ?hN ?hr ?_);(case ho=>rfl);(case hN=>rfl);(case hg=>rfl);(case hr=>first | (go_simp;done) | (go_simp;rfl));intro w4 e4;rw [hwr.out] at e4;have L4:=zA (L3.out.fr (e4▸sa.Fr.set _ _ _ _) (e4▸L3.out.blk.set1 _));have HX4:=zA e4;clear e4;have HFW:=zA (HF4.out _ (HX4.out.trans (by rw [HX3.out])));clear h0 h1 h2 f1 f2 hx0 fr_;have h0:=L4.out.blk.c0;have h1:=L4.out.blk.c1;have h2:=L4.out.blk.c2;have f1:=L4.out.blk.fz 1;have f2:=L4.out.blk.fz 2;have hx0:=L4.out.byt;have fr_:=qAC L4.out.res 0) | ((with_reducible refine qAW (p:=4) rfl ?_);refine sa.qAo rfl rfl 4 _ rfl w.heap.size rfl (.int .i64 1) (.int .i64 0) (.string ⟨#[]⟩) (.slice none 0 0) (.slice none 0 0) rfl (fun q hq=>by simp at hq;rcases hq with rfl | rfl | rfl | rfl | rfl <;> rfl) _ rfl L4.out.res ?_;intro w5 hres hgr;have HRES:=zA hres;have HGR:=zA hgr;clear hgr hres))
 go_wp2
 refine bodyPost_ret (results_cell_row rfl _ _ w.heap.size 34 _ (0,0) _ rfl HRES.out Try.underlying34 rfl (by kernel_rfl)) rfl ?_
 exact ⟨⟨_,_,rfl,Kd.qA7 _ _ _ _ _,Kd.qA7 _ _ _ _ _⟩,sa.fin_nx HFW.out.1 L4.out.blk L4.out.ne.2 HGR.out (Nat.le_refl _) HBB.out.size HFW.out.2⟩
theorem sa.val_t2 {bs:List Int} {u i:Int→Int × Int × Int} (hU:sa.Uin bs u i) {w0 w:World} {g:Nat} {A:Option Addr} {c:Nat} {a l:Int} (hb:Below w0.heap.size w0 w) (hg:w0.heap.size≤g) (hB:sa.Blk w g A bs.length c a l) (hC:(Kd.int .u8).C w A bs.length bs) (hc:bs.length≤c) (within:Int) (hw:(within == 8)=false) (ha0:0≤a) (ha1:a < (bs.length:Int)) (hl0:1≤l) (hl1:l≤2048) (ht:rd bs a=2) :
  Calls Try.prog 73 #[.pointer (some ⟨g,0,none⟩),.int .i64 within] w (sa.GotV (.ok ⟨1,1,⟨#[]⟩,[],[]⟩ (a+1) (l - 1)) w0 w g A bs.length c):=by
 have HB:=zA hB
 have HC:=zA hC
 have HCC:=zA hc
 have HBB:=zA hb
 have HGG:=zA hg
 have HLL:=zA hU.L
 have HUU:=zA hU
 have hgl:g < w.heap.size:=qAe hB
 have hu25:=Try.underlying34
 obtain ⟨a,rfl⟩:=Int.eq_ofNat_of_zero_le ha0
 have t0:((a:Int) == (bs.length:Int))=false:=beq_eq_false_iff_ne.2 (by omega)
 have t1:(a=bs.length)=False:=eq_false (by omega)
 have t2:decide (a=bs.length)=false:=zF (by omega)
 have t3:(a:Int) < (bs.length:Int):=ha1
 have t4:a < bs.length:=by omega
 have t5:decide (a < bs.length)=true:=zT t4
 have hwr:=zA (show wrap64 ((a:Int)+1)=(a:Int)+1 by have:=hU.L;unfold wrap64;omega)
 have HL0:=zA hl0
 have HL1:=zA hl1
 obtain ⟨ad,hA,hx0⟩:=Kd.qBQ hC (a:Int) (by omega) ha1
 subst hA
 rw [Int.toNat_natCast,ht] at hx0
 have HBW:=zA ((Below.refl w.heap.size w).alloc (Nat.le_refl _) (.cells #[.int .i64 0,.int .i64 0,.string ⟨#[]⟩,.slice none 0 0,.slice none 0 0] 34))
 have L1:=zA (show sa.Ly (w.alloc (.cells #[.int .i64 0,.int .i64 0,.string ⟨#[]⟩,.slice none 0 0,.slice none 0 0] 34)) g (some ad) bs.length c (a:Int) l (ad.add a) 2 w.heap.size #[.int .i64 0,.int .i64 0,.string ⟨#[]⟩,.slice none 0 0,.slice none 0 0] from ⟨HB.out.below HBW.out,(HBW.out.cell (qs4 w _ hx0)).trans hx0,by simpa using heap_alloc_new w _⟩)
 clear hx0
 have h0:=L1.out.blk.c0;have h1:=L1.out.blk.c1;have h2:=L1.out.blk.c2;have f1:=L1.out.blk.fz 1;have f2:=L1.out.blk.fz 2;have hx0:=L1.out.byt;have fr_:=qAC L1.out.res 0
 have HF4:∀ W4,W4=((w.alloc (.cells #[.int .i64 0,.int .i64 0,.string ⟨#[]⟩,.slice none 0 0,.slice none 0 0] 34)).setCell ⟨g,2,none⟩ (.int .i64 (l - 1))).setCell ⟨g,1,none⟩ (.int .i64 ((a:Int)+1))→sa.Fr g w W4∧Below w0.heap.size w0 W4:=by
  rintro _ rfl
  exact ⟨((sa.Fr.of_below HBW.out).trans (sa.Fr.set _ _ _ _)).trans (sa.Fr.set _ _ _ _),((HBB.out.alloc HBB.out.size _).setCell hg _).setCell hg _⟩
 have HF4:=zA HF4
 clear hU hb hg hB hC hc ha1 hl0 hl1 ha0 hgl
 generalize bs.length=m at *
 go_enter Try.func73,Try.ntmps73
 go_wp2_with (first | (go_at_call 88;refine (sa.qBo L1.out.blk 1 (a:Int) HL0.out HL1.out (by omega)).mono ?_;rintro e_ w3 ⟨rfl,hx⟩;have L3:=zA (L1.out.fr (hx▸sa.Fr.set _ _ _ _) (hx▸L1.out.blk.set2 _));have HX3:=zA hx;clear hx;clear h0 h1 h2 f1 f2 hx0 fr_;have h0:=L3.out.blk.c0;have h1:=L3.out.blk.c1;have h2:=L3.out.blk.c2;have f1:=L3.out.blk.fz 1;have f2:=L3.out.blk.fz 2;have hx0:=L3.out.byt;have fr_:=qAC L3.out.res 0) | ((with_reducible refine qAW (p:=48) rfl ?_);go_must (refine qAn ?hg (t:=3) (p:=48) (v:=.tmp 46) (w1:=w3.setCell ⟨g,1,none⟩ (.int .i64 (wrap64 ((a:Int)+1)))) ?ho ?hN ?hr ?_);(case ho=>rfl);(case hN=>rfl);(case hg=>rfl);(case hr=>first | (go_simp;done) | (go_simp;rfl));intro w4 e4;rw [hwr.out] at e4;have L4:=zA (L3.out.fr (e4▸sa.Fr.set _ _ _ _) (e4▸L3.out.blk.set1 _));have HX4:=zA e4;clear e4;have HFW:=zA (HF4.out _ (HX4.out.trans (by rw [HX3.out])));clear h0 h1 h2 f1 f2 hx0 fr_;have h0:=L4.out.blk.c0;have h1:=L4.out.blk.c1;have h2:=L4.out.blk.c2;have f1:=L4.out.blk.fz 1;have f2:=L4.out.blk.fz 2;have hx0:=L4.out.byt;have fr_:=qAC L4.out.res 0) | ((with_reducible refine qAW (p:=4) rfl ?_);refine sa.qAo rfl rfl 4 _ rfl w.heap.size rfl (.int .i64 1) (.int .i64 1) (.string ⟨#[]⟩) (.slice none 0 0) (.slice none 0 0) rfl (fun q hq=>by simp at hq;rcases hq with rfl | rfl | rfl | rfl | rfl <;> rfl) _ rfl L4.out.res ?_;intro w5 hres hgr;have HRES:=zA hres;have HGR:=zA hgr;clear hgr hres))
 go_wp2
 refine bodyPost_ret (results_cell_row rfl _ _ w.heap.size 34 _ (0,0) _ rfl HRES.out Try.underlying34 rfl (by kernel_rfl)) rfl ?_
 exact ⟨⟨_,_,rfl,Kd.qA7 _ _ _ _ _,Kd.qA7 _ _ _ _ _⟩,sa.fin_nx HFW.out.1 L4.out.blk L4.out.ne.2 HGR.out (Nat.le_refl _) HBB.out.size HFW.out.2⟩
theorem sa.val_t0 {bs:List Int} {u i:Int→Int × Int × Int} (hU:sa.Uin bs u i) {w0 w:World} {g:Nat} {A:Option Addr} {c:Nat} {a l:Int} (hb:Below w0.heap.size w0 w) (hg:w0.heap.size≤g) (hB:sa.Blk w g A bs.length c a l) (hC:(Kd.int .u8).C w A bs.length bs) (hc:bs.length≤c) (within:Int) (hw:(within == 8)=false) (ha0:0≤a) (ha1:a < (bs.length:Int)) (hl0:1≤l) (hl1:l≤2048) (ht:rd bs a=0) :
  Calls Try.prog 73 #[.pointer (some ⟨g,0,none⟩),.int .i64 within] w (sa.GotV (.ok ⟨0,0,⟨#[]⟩,[],[]⟩ (a+1) (l - 1)) w0 w g A bs.length c):=by
 have HB:=zA hB
 have HC:=zA hC
 have HCC:=zA hc
 have HBB:=zA hb
 have HGG:=zA hg
 have HLL:=zA hU.L
 have HUU:=zA hU
 have hgl:g < w.heap.size:=qAe hB
 have hu25:=Try.underlying34
 obtain ⟨a,rfl⟩:=Int.eq_ofNat_of_zero_le ha0
 have t0:((a:Int) == (bs.length:Int))=false:=beq_eq_false_iff_ne.2 (by omega)
 have t1:(a=bs.length)=False:=eq_false (by omega)
 have t2:decide (a=bs.length)=false:=zF (by omega)
 have t3:(a:Int) < (bs.length:Int):=ha1
 have t4:a < bs.length:=by omega
 have t5:decide (a < bs.length)=true:=zT t4
 have hwr:=zA (show wrap64 ((a:Int)+1)=(a:Int)+1 by have:=hU.L;unfold wrap64;omega)
 have HL0:=zA hl0
 have HL1:=zA hl1
 obtain ⟨ad,hA,hx0⟩:=Kd.qBQ hC (a:Int) (by omega) ha1
 subst hA
 rw [Int.toNat_natCast,ht] at hx0
 have HBW:=zA ((Below.refl w.heap.size w).alloc (Nat.le_refl _) (.cells #[.int .i64 0,.int .i64 0,.string ⟨#[]⟩,.slice none 0 0,.slice none 0 0] 34))
 have L1:=zA (show sa.Ly (w.alloc (.cells #[.int .i64 0,.int .i64 0,.string ⟨#[]⟩,.slice none 0 0,.slice none 0 0] 34)) g (some ad) bs.length c (a:Int) l (ad.add a) 0 w.heap.size #[.int .i64 0,.int .i64 0,.string ⟨#[]⟩,.slice none 0 0,.slice none 0 0] from ⟨HB.out.below HBW.out,(HBW.out.cell (qs4 w _ hx0)).trans hx0,by simpa using heap_alloc_new w _⟩)
 clear hx0
 have h0:=L1.out.blk.c0;have h1:=L1.out.blk.c1;have h2:=L1.out.blk.c2;have f1:=L1.out.blk.fz 1;have f2:=L1.out.blk.fz 2;have hx0:=L1.out.byt;have fr_:=qAC L1.out.res 0
 have HF4:∀ W4,W4=((w.alloc (.cells #[.int .i64 0,.int .i64 0,.string ⟨#[]⟩,.slice none 0 0,.slice none 0 0] 34)).setCell ⟨g,2,none⟩ (.int .i64 (l - 1))).setCell ⟨g,1,none⟩ (.int .i64 ((a:Int)+1))→sa.Fr g w W4∧Below w0.heap.size w0 W4:=by
  rintro _ rfl
  exact ⟨((sa.Fr.of_below HBW.out).trans (sa.Fr.set _ _ _ _)).trans (sa.Fr.set _ _ _ _),((HBB.out.alloc HBB.out.size _).setCell hg _).setCell hg _⟩
 have HF4:=zA HF4
 clear hU hb hg hB hC hc ha1 hl0 hl1 ha0 hgl
 generalize bs.length=m at *
 go_enter Try.func73,Try.ntmps73
 go_wp2_with (first | (go_at_call 88;refine (sa.qBo L1.out.blk 1 (a:Int) HL0.out HL1.out (by omega)).mono ?_;rintro e_ w3 ⟨rfl,hx⟩;have L3:=zA (L1.out.fr (hx▸sa.Fr.set _ _ _ _) (hx▸L1.out.blk.set2 _));have HX3:=zA hx;clear hx;clear h0 h1 h2 f1 f2 hx0 fr_;have h0:=L3.out.blk.c0;have h1:=L3.out.blk.c1;have h2:=L3.out.blk.c2;have f1:=L3.out.blk.fz 1;have f2:=L3.out.blk.fz 2;have hx0:=L3.out.byt;have fr_:=qAC L3.out.res 0) | ((with_reducible refine qAW (p:=48) rfl ?_);go_must (refine qAn ?hg (t:=3) (p:=48) (v:=.tmp 46) (w1:=w3.setCell ⟨g,1,none⟩ (.int .i64 (wrap64 ((a:Int)+1)))) ?ho ?hN ?hr ?_);(case ho=>rfl);(case hN=>rfl);(case hg=>rfl);(case hr=>first | (go_simp;done) | (go_simp;rfl));intro w4 e4;rw [hwr.out] at e4;have L4:=zA (L3.out.fr (e4▸sa.Fr.set _ _ _ _) (e4▸L3.out.blk.set1 _));have HX4:=zA e4;clear e4;have HFW:=zA (HF4.out _ (HX4.out.trans (by rw [HX3.out])));clear h0 h1 h2 f1 f2 hx0 fr_;have h0:=L4.out.blk.c0;have h1:=L4.out.blk.c1;have h2:=L4.out.blk.c2;have f1:=L4.out.blk.fz 1;have f2:=L4.out.blk.fz 2;have hx0:=L4.out.byt;have fr_:=qAC L4.out.res 0) | ((with_reducible refine qAW (p:=4) rfl ?_);refine sa.qAo rfl rfl 4 _ rfl w.heap.size rfl (.int .i64 0) (.int .i64 0) (.string ⟨#[]⟩) (.slice none 0 0) (.slice none 0 0) rfl (fun q hq=>by simp at hq;rcases hq with rfl | rfl | rfl | rfl | rfl <;> rfl) _ rfl L4.out.res ?_;intro w5 hres hgr;have HRES:=zA hres;have HGR:=zA hgr;clear hgr hres))
 go_wp2
 refine bodyPost_ret (results_cell_row rfl _ _ w.heap.size 34 _ (0,0) _ rfl HRES.out Try.underlying34 rfl (by kernel_rfl)) rfl ?_
 exact ⟨⟨_,_,rfl,Kd.qA7 _ _ _ _ _,Kd.qA7 _ _ _ _ _⟩,sa.fin_nx HFW.out.1 L4.out.blk L4.out.ne.2 HGR.out (Nat.le_refl _) HBB.out.size HFW.out.2⟩
theorem sa.val_t3 {bs:List Int} {u i:Int→Int × Int × Int} (hU:sa.Uin bs u i) {w0 w:World} {g:Nat} {A:Option Addr} {c:Nat} {a l:Int} (hb:Below w0.heap.size w0 w) (hg:w0.heap.size≤g) (hB:sa.Blk w g A bs.length c a l) (hC:(Kd.int .u8).C w A bs.length bs) (hc:bs.length≤c) (within:Int) (hw:(within == 8)=false) (ha0:0≤a) (ha1:a < (bs.length:Int)) (hl0:1≤l) (hl1:l≤2048) (ht:rd bs a=3) (he:(i (a+1)).2.2=0) :
  Calls Try.prog 73 #[.pointer (some ⟨g,0,none⟩),.int .i64 within] w (sa.GotV (.ok ⟨2,(i (a+1)).1,⟨#[]⟩,[],[]⟩ (i (a+1)).2.1 (l - 1)) w0 w g A bs.length c):=by
 have HB:=zA hB
 have HC:=zA hC
 have HCC:=zA hc
 have HBB:=zA hb
 have HGG:=zA hg
 have HLL:=zA hU.L
 have HUU:=zA hU
 have hgl:g < w.heap.size:=qAe hB
 have hu25:=Try.underlying34
 obtain ⟨a,rfl⟩:=Int.eq_ofNat_of_zero_le ha0
 have t0:((a:Int) == (bs.length:Int))=false:=beq_eq_false_iff_ne.2 (by omega)
 have t1:(a=bs.length)=False:=eq_false (by omega)
 have t2:decide (a=bs.length)=false:=zF (by omega)
 have t3:(a:Int) < (bs.length:Int):=ha1
 have t4:a < bs.length:=by omega
 have t5:decide (a < bs.length)=true:=zT t4
 have hwr:=zA (show wrap64 ((a:Int)+1)=(a:Int)+1 by have:=hU.L;unfold wrap64;omega)
 have HL0:=zA hl0
 have HL1:=zA hl1
 obtain ⟨ad,hA,hx0⟩:=Kd.qBQ hC (a:Int) (by omega) ha1
 subst hA
 rw [Int.toNat_natCast,ht] at hx0
 have HBW:=zA ((Below.refl w.heap.size w).alloc (Nat.le_refl _) (.cells #[.int .i64 0,.int .i64 0,.string ⟨#[]⟩,.slice none 0 0,.slice none 0 0] 34))
 have L1:=zA (show sa.Ly (w.alloc (.cells #[.int .i64 0,.int .i64 0,.string ⟨#[]⟩,.slice none 0 0,.slice none 0 0] 34)) g (some ad) bs.length c (a:Int) l (ad.add a) 3 w.heap.size #[.int .i64 0,.int .i64 0,.string ⟨#[]⟩,.slice none 0 0,.slice none 0 0] from ⟨HB.out.below HBW.out,(HBW.out.cell (qs4 w _ hx0)).trans hx0,by simpa using heap_alloc_new w _⟩)
 clear hx0
 have h0:=L1.out.blk.c0;have h1:=L1.out.blk.c1;have h2:=L1.out.blk.c2;have f1:=L1.out.blk.fz 1;have f2:=L1.out.blk.fz 2;have hx0:=L1.out.byt;have fr_:=qAC L1.out.res 0
 have HF4:∀ W4,W4=((w.alloc (.cells #[.int .i64 0,.int .i64 0,.string ⟨#[]⟩,.slice none 0 0,.slice none 0 0] 34)).setCell ⟨g,2,none⟩ (.int .i64 (l - 1))).setCell ⟨g,1,none⟩ (.int .i64 ((a:Int)+1))→sa.Fr g w W4∧Below w0.heap.size w0 W4:=by
  rintro _ rfl
  exact ⟨((sa.Fr.of_below HBW.out).trans (sa.Fr.set _ _ _ _)).trans (sa.Fr.set _ _ _ _),((HBB.out.alloc HBB.out.size _).setCell hg _).setCell hg _⟩
 have HF4:=zA HF4
 obtain ⟨K,hK⟩:=hU.I
 have HK:=zA (hK ((a:Int)+1))
 obtain ⟨r1,r2,r3,hr⟩:∃ r1 r2 r3,i ((a:Int)+1)=(r1,r2,r3):=⟨_,_,_,rfl⟩
 rw [hr] at he HK ⊢
 dsimp only at he ⊢
 subst he
 clear hK hr
 clear hU hb hg hB hC hc ha1 hl0 hl1 ha0 hgl
 generalize bs.length=m at *
 go_enter Try.func73,Try.ntmps73
 go_wp2_with (first | (go_at_call 88;refine (sa.qBo L1.out.blk 1 (a:Int) HL0.out HL1.out (by omega)).mono ?_;rintro e_ w3 ⟨rfl,hx⟩;have L3:=zA (L1.out.fr (hx▸sa.Fr.set _ _ _ _) (hx▸L1.out.blk.set2 _));have HX3:=zA hx;clear hx;clear h0 h1 h2 f1 f2 hx0 fr_;have h0:=L3.out.blk.c0;have h1:=L3.out.blk.c1;have h2:=L3.out.blk.c2;have f1:=L3.out.blk.fz 1;have f2:=L3.out.blk.fz 2;have hx0:=L3.out.byt;have fr_:=qAC L3.out.res 0) | ((with_reducible refine qAW (p:=48) rfl ?_);go_must (refine qAn ?hg (t:=3) (p:=48) (v:=.tmp 46) (w1:=w3.setCell ⟨g,1,none⟩ (.int .i64 (wrap64 ((a:Int)+1)))) ?ho ?hN ?hr ?_);(case ho=>rfl);(case hN=>rfl);(case hg=>rfl);(case hr=>first | (go_simp;done) | (go_simp;rfl));intro w4 e4;rw [hwr.out] at e4;have L4:=zA (L3.out.fr (e4▸sa.Fr.set _ _ _ _) (e4▸L3.out.blk.set1 _));have HX4:=zA e4;clear e4;have HFW:=zA (HF4.out _ (HX4.out.trans (by rw [HX3.out])));clear h0 h1 h2 f1 f2 hx0 fr_;have h0:=L4.out.blk.c0;have h1:=L4.out.blk.c1;have h2:=L4.out.blk.c2;have f1:=L4.out.blk.fz 1;have f2:=L4.out.blk.fz 2;have hx0:=L4.out.byt;have fr_:=qAC L4.out.res 0))
 clear h0 h1 h2 f1 f2 hx0 fr_
 refine qAz (n:=16) (S:=fun w'=>w'.cell? ⟨g,0,none⟩=some (.slice (some ad) m c)∧w'.cell? ⟨g,1,none⟩=some (.int .i64 ((a:Int)+1))) (ds:=[]) #[qF,qF,qF,qF,qF,qF,qF,qF,qF,qF,qF,qF,qF,qF,qF,qF] (by kernel_rfl) rfl rfl ⟨(L4.out.below (qAK (Below.refl _ _))).blk.c0,(L4.out.below (qAK (Below.refl _ _))).blk.c1⟩ (fun hHeld => ?_)
 generalize hwd:w4.drew=wd at hHeld ⊢
 have Ld:=zA (hwd▸L4.out.below (qAK (Below.refl _ _)))
 have HFd:=zA (hwd▸(⟨HFW.out.1.trans (sa.Fr.of_below (qAK (Below.refl _ _))),qAK HFW.out.2⟩:sa.Fr g w w4.drew∧Below w0.heap.size w0 w4.drew))
 clear hwd
 refine pU 0 65 ?_
 refine pU 1 66 ?_
 refine pU 2 67 ?_
 refine pU 4 69 ?_
 refine pU 5 70 ?_
 refine pU 6 71 ?_
 refine tK 3 68 hHeld ?_
 refine tK 7 72 hHeld ?_
 refine one_ (i:=8) (N:=some 73) #[qT,qT,qT,qT,qT,qT,qT,qT,qT,qF,qF,qF,qF,qF,qF,qF] rfl rfl (by kernel_rfl) (by decide) (fun K hK => ?_)
 refine qBZ Try.func89 (by kernel_rfl) rfl #[.slice (some ad) m c,.int .i64 ((a:Int)+1)] (by rfl) rfl rfl (by (try simp only [List.map_toArray,List.map_cons,List.map_nil]);first | done | rfl) ?_
 refine (sa.int1 HK.out (sa.qBK HC.out HB.out HFd.out.1) HCC.out).mono ?_
 rintro e w5 ⟨rfl,hd⟩
 refine ⟨_,rfl, ?_⟩
 have HD:=zA hd
 have L5:=zA (Ld.out.below hd.below)
 clear hd
 refine hK.out _ _ ⟨L5.out.blk.c0,L5.out.blk.c1⟩ (fun hHeld => ?_)
 clear hK K
 refine qA3 (a' := ?_) ?_ ?_
 rotate_left
 ·show Act.put _ (some 73) _=_
  simp only [Act.put,qs1,qs2,qs3,qAZ,qAb]
  rfl
 refine pU 9 64 ?_
 refine pU 10 74 ?_
 refine pU 11 75 ?_
 refine pU 12 76 ?_
 refine pU 13 6 ?_
 refine pU 14 7 ?_
 refine pU 15 8 ?_
 refine qBL (by kernel_rfl) ?_
 have h0:=L5.out.blk.c0;have h1:=L5.out.blk.c1;have h2:=L5.out.blk.c2;have f1:=L5.out.blk.fz 1;have f2:=L5.out.blk.fz 2;have hx0:=L5.out.byt;have fr_:=qAC L5.out.res 0
 go_wp2_with (first | ((with_reducible refine qAW (p:=87) rfl ?_);go_must (refine qAn ?hg (t:=3) (p:=87) (v:=.tmp 85) (w1:=w5.setCell ⟨g,1,none⟩ (.int .i64 r2)) ?ho ?hN ?hr ?_);(case ho=>rfl);(case hN=>rfl);(case hg=>rfl);(case hr=>first | (go_simp;done) | (go_simp;rfl));intro w6 ex;have L6:=zA (L5.out.fr (ex▸sa.Fr.set _ _ _ _) (ex▸L5.out.blk.set1 _));have HX6:=zA ex;clear ex;clear h0 h1 h2 f1 f2 hx0 fr_;have h0:=L6.out.blk.c0;have h1:=L6.out.blk.c1;have h2:=L6.out.blk.c2;have f1:=L6.out.blk.fz 1;have f2:=L6.out.blk.fz 2;have hx0:=L6.out.byt;have fr_:=qAC L6.out.res 0) | ((with_reducible refine qAW (p:=4) rfl ?_);refine sa.qAo rfl rfl 4 _ rfl w.heap.size rfl (.int .i64 2) (.int .i64 r1) (.string ⟨#[]⟩) (.slice none 0 0) (.slice none 0 0) rfl (fun q hq=>by simp at hq;rcases hq with rfl | rfl | rfl | rfl | rfl <;> rfl) _ rfl L6.out.res ?_;intro w5 hres hgr;have HRES:=zA hres;have HGR:=zA hgr;clear hgr hres))
 go_wp2
 refine bodyPost_ret (results_cell_row rfl _ _ w.heap.size 34 _ (0,0) _ rfl HRES.out Try.underlying34 rfl (by kernel_rfl)) rfl ?_
 exact ⟨⟨_,_,rfl,Kd.qA7 _ _ _ _ _,Kd.qA7 _ _ _ _ _⟩,sa.fin_nx (HX6.out▸(HFd.out.1.trans (sa.Fr.of_below HD.out.below)).trans (sa.Fr.set _ _ _ _)) L6.out.blk L6.out.ne.2 HGR.out (Nat.le_refl _) HBB.out.size (HX6.out▸(qAY HFd.out.2 HFd.out.2.size HD.out.below).setCell HGG.out _)⟩
theorem sa.val_t3N {bs:List Int} {u i:Int→Int × Int × Int} (hU:sa.Uin bs u i) {w0 w:World} {g:Nat} {A:Option Addr} {c:Nat} {a l:Int} (hb:Below w0.heap.size w0 w) (hg:w0.heap.size≤g) (hB:sa.Blk w g A bs.length c a l) (hC:(Kd.int .u8).C w A bs.length bs) (hc:bs.length≤c) (within:Int) (hw:(within == 8)=false) (ha0:0≤a) (ha1:a < (bs.length:Int)) (hl0:1≤l) (hl1:l≤2048) (ht:rd bs a=3) (he:(i (a+1)).2.2 ≠ 0) :
  Calls Try.prog 73 #[.pointer (some ⟨g,0,none⟩),.int .i64 within] w (sa.GotV (.bad 41 (a+1)) w0 w g A bs.length c):=by
 have HB:=zA hB
 have HC:=zA hC
 have HCC:=zA hc
 have HBB:=zA hb
 have HGG:=zA hg
 have HLL:=zA hU.L
 have HUU:=zA hU
 have hgl:g < w.heap.size:=qAe hB
 have hu25:=Try.underlying34
 obtain ⟨a,rfl⟩:=Int.eq_ofNat_of_zero_le ha0
 have t0:((a:Int) == (bs.length:Int))=false:=beq_eq_false_iff_ne.2 (by omega)
 have t1:(a=bs.length)=False:=eq_false (by omega)
 have t2:decide (a=bs.length)=false:=zF (by omega)
 have t3:(a:Int) < (bs.length:Int):=ha1
 have t4:a < bs.length:=by omega
 have t5:decide (a < bs.length)=true:=zT t4
 have hwr:=zA (show wrap64 ((a:Int)+1)=(a:Int)+1 by have:=hU.L;unfold wrap64;omega)
 have HL0:=zA hl0
 have HL1:=zA hl1
 obtain ⟨ad,hA,hx0⟩:=Kd.qBQ hC (a:Int) (by omega) ha1
 subst hA
 rw [Int.toNat_natCast,ht] at hx0
 have HBW:=zA ((Below.refl w.heap.size w).alloc (Nat.le_refl _) (.cells #[.int .i64 0,.int .i64 0,.string ⟨#[]⟩,.slice none 0 0,.slice none 0 0] 34))
 have L1:=zA (show sa.Ly (w.alloc (.cells #[.int .i64 0,.int .i64 0,.string ⟨#[]⟩,.slice none 0 0,.slice none 0 0] 34)) g (some ad) bs.length c (a:Int) l (ad.add a) 3 w.heap.size #[.int .i64 0,.int .i64 0,.string ⟨#[]⟩,.slice none 0 0,.slice none 0 0] from ⟨HB.out.below HBW.out,(HBW.out.cell (qs4 w _ hx0)).trans hx0,by simpa using heap_alloc_new w _⟩)
 clear hx0
 have h0:=L1.out.blk.c0;have h1:=L1.out.blk.c1;have h2:=L1.out.blk.c2;have f1:=L1.out.blk.fz 1;have f2:=L1.out.blk.fz 2;have hx0:=L1.out.byt;have fr_:=qAC L1.out.res 0
 have HF4:∀ W4,W4=((w.alloc (.cells #[.int .i64 0,.int .i64 0,.string ⟨#[]⟩,.slice none 0 0,.slice none 0 0] 34)).setCell ⟨g,2,none⟩ (.int .i64 (l - 1))).setCell ⟨g,1,none⟩ (.int .i64 ((a:Int)+1))→sa.Fr g w W4∧Below w0.heap.size w0 W4:=by
  rintro _ rfl
  exact ⟨((sa.Fr.of_below HBW.out).trans (sa.Fr.set _ _ _ _)).trans (sa.Fr.set _ _ _ _),((HBB.out.alloc HBB.out.size _).setCell hg _).setCell hg _⟩
 have HF4:=zA HF4
 obtain ⟨K,hK⟩:=hU.I
 have HK:=zA (hK ((a:Int)+1))
 obtain ⟨r1,r2,r3,hr⟩:∃ r1 r2 r3,i ((a:Int)+1)=(r1,r2,r3):=⟨_,_,_,rfl⟩
 rw [hr] at he HK
 dsimp only at he
 have d1:(r3 != 0)=true:=bne_iff_ne.2 he
 have d2:(r3 == 0)=false:=beq_eq_false_iff_ne.2 he
 have d3:decide (r3=0)=false:=zF he
 clear hK hr he
 clear hU hb hg hB hC hc ha1 hl0 hl1 ha0 hgl
 generalize bs.length=m at *
 go_enter Try.func73,Try.ntmps73
 go_wp2_with (first | (go_at_call 88;refine (sa.qBo L1.out.blk 1 (a:Int) HL0.out HL1.out (by omega)).mono ?_;rintro e_ w3 ⟨rfl,hx⟩;have L3:=zA (L1.out.fr (hx▸sa.Fr.set _ _ _ _) (hx▸L1.out.blk.set2 _));have HX3:=zA hx;clear hx;clear h0 h1 h2 f1 f2 hx0 fr_;have h0:=L3.out.blk.c0;have h1:=L3.out.blk.c1;have h2:=L3.out.blk.c2;have f1:=L3.out.blk.fz 1;have f2:=L3.out.blk.fz 2;have hx0:=L3.out.byt;have fr_:=qAC L3.out.res 0) | ((with_reducible refine qAW (p:=48) rfl ?_);go_must (refine qAn ?hg (t:=3) (p:=48) (v:=.tmp 46) (w1:=w3.setCell ⟨g,1,none⟩ (.int .i64 (wrap64 ((a:Int)+1)))) ?ho ?hN ?hr ?_);(case ho=>rfl);(case hN=>rfl);(case hg=>rfl);(case hr=>first | (go_simp;done) | (go_simp;rfl));intro w4 e4;rw [hwr.out] at e4;have L4:=zA (L3.out.fr (e4▸sa.Fr.set _ _ _ _) (e4▸L3.out.blk.set1 _));have HX4:=zA e4;clear e4;have HFW:=zA (HF4.out _ (HX4.out.trans (by rw [HX3.out])));clear h0 h1 h2 f1 f2 hx0 fr_;have h0:=L4.out.blk.c0;have h1:=L4.out.blk.c1;have h2:=L4.out.blk.c2;have f1:=L4.out.blk.fz 1;have f2:=L4.out.blk.fz 2;have hx0:=L4.out.byt;have fr_:=qAC L4.out.res 0))
 clear h0 h1 h2 f1 f2 hx0 fr_
 refine qAz (n:=16) (S:=fun w'=>w'.cell? ⟨g,0,none⟩=some (.slice (some ad) m c)∧w'.cell? ⟨g,1,none⟩=some (.int .i64 ((a:Int)+1))) (ds:=[]) #[qF,qF,qF,qF,qF,qF,qF,qF,qF,qF,qF,qF,qF,qF,qF,qF] (by kernel_rfl) rfl rfl ⟨(L4.out.below (qAK (Below.refl _ _))).blk.c0,(L4.out.below (qAK (Below.refl _ _))).blk.c1⟩ (fun hHeld => ?_)
 generalize hwd:w4.drew=wd at hHeld ⊢
 have Ld:=zA (hwd▸L4.out.below (qAK (Below.refl _ _)))
 have HFd:=zA (hwd▸(⟨HFW.out.1.trans (sa.Fr.of_below (qAK (Below.refl _ _))),qAK HFW.out.2⟩:sa.Fr g w w4.drew∧Below w0.heap.size w0 w4.drew))
 clear hwd
 refine pU 0 65 ?_
 refine pU 1 66 ?_
 refine pU 2 67 ?_
 refine pU 4 69 ?_
 refine pU 5 70 ?_
 refine pU 6 71 ?_
 refine tK 3 68 hHeld ?_
 refine tK 7 72 hHeld ?_
 refine one_ (i:=8) (N:=some 73) #[qT,qT,qT,qT,qT,qT,qT,qT,qT,qF,qF,qF,qF,qF,qF,qF] rfl rfl (by kernel_rfl) (by decide) (fun K hK => ?_)
 refine qBZ Try.func89 (by kernel_rfl) rfl #[.slice (some ad) m c,.int .i64 ((a:Int)+1)] (by rfl) rfl rfl (by (try simp only [List.map_toArray,List.map_cons,List.map_nil]);first | done | rfl) ?_
 refine (sa.int1 HK.out (sa.qBK HC.out HB.out HFd.out.1) HCC.out).mono ?_
 rintro e w5 ⟨rfl,hd⟩
 refine ⟨_,rfl, ?_⟩
 have HD:=zA hd
 have L5:=zA (Ld.out.below hd.below)
 clear hd
 refine hK.out _ _ ⟨L5.out.blk.c0,L5.out.blk.c1⟩ (fun hHeld => ?_)
 clear hK K
 refine qA3 (a' := ?_) ?_ ?_
 rotate_left
 ·show Act.put _ (some 73) _=_
  simp only [Act.put,qs1,qs2,qs3,qAZ,qAb]
  rfl
 refine pU 9 64 ?_
 refine pU 10 74 ?_
 refine pU 11 75 ?_
 refine pU 12 76 ?_
 refine pU 13 6 ?_
 refine pU 14 7 ?_
 refine pU 15 8 ?_
 refine qBL (by kernel_rfl) ?_
 have h0:=L5.out.blk.c0;have h1:=L5.out.blk.c1;have h2:=L5.out.blk.c2;have f1:=L5.out.blk.fz 1;have f2:=L5.out.blk.fz 2;have hx0:=L5.out.byt;have fr_:=qAC L5.out.res 0
 go_wp2_with (first | (go_at_call 87;refine (sa.fails1 41 ((a:Int)+1) _).mono ?_;rintro e_ w_ ⟨rfl,rfl⟩;unfold sa.flt))
 exact ⟨rfl,rfl,HFd.out.1.trans (sa.Fr.of_below HD.out.below),qAY HFd.out.2 HFd.out.2.size HD.out.below⟩
theorem sa.val_t4 {bs:List Int} {u i:Int→Int × Int × Int} (hU:sa.Uin bs u i) {w0 w:World} {g:Nat} {A:Option Addr} {c:Nat} {a l:Int} (hb:Below w0.heap.size w0 w) (hg:w0.heap.size≤g) (hB:sa.Blk w g A bs.length c a l) (hC:(Kd.int .u8).C w A bs.length bs) (hc:bs.length≤c) (within:Int) (hw:(within == 8)=false) (ha0:0≤a) (ha1:a < (bs.length:Int)) (hl0:1≤l) (hl1:l≤2048) (ht:rd bs a=4) (he:(u (a+1)).2.2=0) (hn:(u (a+1)).1≤(l - 1) / 1) (hq:(u (a+1)).1≤(bs.length:Int) - (u (a+1)).2.1) :
  Calls Try.prog 73 #[.pointer (some ⟨g,0,none⟩),.int .i64 within] w (sa.GotV (.ok ⟨3,0,strOfNums ((bs.drop (u (a+1)).2.1.toNat).take (u (a+1)).1.toNat),[],[]⟩ ((u (a+1)).2.1+(u (a+1)).1) (l - 1 - (u (a+1)).1)) w0 w g A bs.length c):=by
 have HB:=zA hB
 have HC:=zA hC
 have HCC:=zA hc
 have HBB:=zA hb
 have HGG:=zA hg
 have HLL:=zA hU.L
 have HUU:=zA hU
 have hgl:g < w.heap.size:=qAe hB
 have hu25:=Try.underlying34
 obtain ⟨a,rfl⟩:=Int.eq_ofNat_of_zero_le ha0
 have t0:((a:Int) == (bs.length:Int))=false:=beq_eq_false_iff_ne.2 (by omega)
 have t1:(a=bs.length)=False:=eq_false (by omega)
 have t2:decide (a=bs.length)=false:=zF (by omega)
 have t3:(a:Int) < (bs.length:Int):=ha1
 have t4:a < bs.length:=by omega
 have t5:decide (a < bs.length)=true:=zT t4
 have hwr:=zA (show wrap64 ((a:Int)+1)=(a:Int)+1 by have:=hU.L;unfold wrap64;omega)
 have HL0:=zA hl0
 have HL1:=zA hl1
 obtain ⟨ad,hA,hx0⟩:=Kd.qBQ hC (a:Int) (by omega) ha1
 subst hA
 rw [Int.toNat_natCast,ht] at hx0
 have HBW:=zA ((Below.refl w.heap.size w).alloc (Nat.le_refl _) (.cells #[.int .i64 0,.int .i64 0,.string ⟨#[]⟩,.slice none 0 0,.slice none 0 0] 34))
 have L1:=zA (show sa.Ly (w.alloc (.cells #[.int .i64 0,.int .i64 0,.string ⟨#[]⟩,.slice none 0 0,.slice none 0 0] 34)) g (some ad) bs.length c (a:Int) l (ad.add a) 4 w.heap.size #[.int .i64 0,.int .i64 0,.string ⟨#[]⟩,.slice none 0 0,.slice none 0 0] from ⟨HB.out.below HBW.out,(HBW.out.cell (qs4 w _ hx0)).trans hx0,by simpa using heap_alloc_new w _⟩)
 clear hx0
 have h0:=L1.out.blk.c0;have h1:=L1.out.blk.c1;have h2:=L1.out.blk.c2;have f1:=L1.out.blk.fz 1;have f2:=L1.out.blk.fz 2;have hx0:=L1.out.byt;have fr_:=qAC L1.out.res 0
 have HF4:∀ W4,W4=((w.alloc (.cells #[.int .i64 0,.int .i64 0,.string ⟨#[]⟩,.slice none 0 0,.slice none 0 0] 34)).setCell ⟨g,2,none⟩ (.int .i64 (l - 1))).setCell ⟨g,1,none⟩ (.int .i64 ((a:Int)+1))→sa.Fr g w W4∧Below w0.heap.size w0 W4:=by
  rintro _ rfl
  exact ⟨((sa.Fr.of_below HBW.out).trans (sa.Fr.set _ _ _ _)).trans (sa.Fr.set _ _ _ _),((HBB.out.alloc HBB.out.size _).setCell hg _).setCell hg _⟩
 have HF4:=zA HF4
 have hs0:wrap64 ((a:Int)+1)=(a:Int)+1:=hwr.out
 have HCN:=zA (fun (W:World) (x1:Below w0.heap.size w0 W) (x2:sa.Blk W g (some ad) bs.length c ((a:Int)+1) (l - 1)) (x3:(Kd.int .u8).C W (some ad) bs.length bs)=>sa.countY hU x1 hg x2 x3 hc (a:Int) 1 he (by omega) (by omega) (by omega) (by omega) hn)
 have hrR:=hU.R ((a:Int)+1)
 have hrN:=hU.N ((a:Int)+1) he
 obtain ⟨r1,r2,r3,hr⟩:∃ r1 r2 r3,u ((a:Int)+1)=(r1,r2,r3):=⟨_,_,_,rfl⟩
 rw [hr] at HCN hn hq hrR hrN ⊢
 dsimp only at HCN hn hq hrR hrN ⊢
 have HR2:=zA (show 0≤r2∧r2≤bs.length by omega)
 have HR1:=zA (show 0≤r1 by omega)
 have HQ:=zA hq
 have hs1:wrap64 (l - 1 - r1)=l - 1 - r1:=by
  rw [Int.ediv_one] at hn
  unfold wrap64;omega
 clear hn hq hrR hrN he hr
 clear hU hb hg hB hC hc ha1 hl0 hl1 ha0 hgl
 go_enter Try.func73,Try.ntmps73
 go_wp2_with (first | (go_at_call 88;refine (sa.qBo L1.out.blk 1 (a:Int) HL0.out HL1.out (by omega)).mono ?_;rintro e_ w3 ⟨rfl,hx⟩;have L3:=zA (L1.out.fr (hx▸sa.Fr.set _ _ _ _) (hx▸L1.out.blk.set2 _));have HX3:=zA hx;clear hx;clear h0 h1 h2 f1 f2 hx0 fr_;have h0:=L3.out.blk.c0;have h1:=L3.out.blk.c1;have h2:=L3.out.blk.c2;have f1:=L3.out.blk.fz 1;have f2:=L3.out.blk.fz 2;have hx0:=L3.out.byt;have fr_:=qAC L3.out.res 0) | ((with_reducible refine qAW (p:=48) rfl ?_);go_must (refine qAn ?hg (t:=3) (p:=48) (v:=.tmp 46) (w1:=w3.setCell ⟨g,1,none⟩ (.int .i64 (wrap64 ((a:Int)+1)))) ?ho ?hN ?hr ?_);(case ho=>rfl);(case hN=>rfl);(case hg=>rfl);(case hr=>first | (go_simp;done) | (go_simp;rfl));intro w4 e4;rw [hwr.out] at e4;have L4:=zA (L3.out.fr (e4▸sa.Fr.set _ _ _ _) (e4▸L3.out.blk.set1 _));have HX4:=zA e4;clear e4;have HFW:=zA (HF4.out _ (HX4.out.trans (by rw [HX3.out])));clear h0 h1 h2 f1 f2 hx0 fr_;have h0:=L4.out.blk.c0;have h1:=L4.out.blk.c1;have h2:=L4.out.blk.c2;have f1:=L4.out.blk.fz 1;have f2:=L4.out.blk.fz 2;have hx0:=L4.out.byt;have fr_:=qAC L4.out.res 0) | (go_at_call 90;refine (HCN.out _ HFW.out.2 L4.out.blk (sa.qBK HC.out HB.out HFW.out.1)).mono ?_;rintro e_ w5 ⟨rfl,hx⟩;have HX5:=zA hx;clear hx;have L5:=zA (L4.out.fr HX5.out.fr HX5.out.blk);clear h0 h1 h2 f1 f2 hx0 fr_;have h0:=L5.out.blk.c0;have h1:=L5.out.blk.c1;have h2:=L5.out.blk.c2;have f1:=L5.out.blk.fz 1;have f2:=L5.out.blk.fz 2;have hx0:=L5.out.byt;have fr_:=qAC L5.out.res 0) | ((with_reducible refine qAW (p:=102) rfl ?_);go_must (refine qAn ?hg (t:=3) (p:=102) (v:=.tmp 100) (w1:=w5.setCell ⟨g,2,none⟩ (.int .i64 (l - 1 - r1))) ?ho ?hN ?hr ?_);(case ho=>rfl);(case hN=>rfl);(case hg=>rfl);(case hr=>first | (go_simp;done) | (go_simp;rfl));intro w6 ex;have L6:=zA (L5.out.fr (ex▸sa.Fr.set _ _ _ _) (ex▸L5.out.blk.set2 _));have HX6:=zA ex;clear ex;clear h0 h1 h2 f1 f2 hx0 fr_;have h0:=L6.out.blk.c0;have h1:=L6.out.blk.c1;have h2:=L6.out.blk.c2;have f1:=L6.out.blk.fz 1;have f2:=L6.out.blk.fz 2;have hx0:=L6.out.byt;have fr_:=qAC L6.out.res 0) | (go_at_call 91;refine (sa.cutY HUU.out (HX6.out▸HX5.out.bel.setCell HGG.out _) HGG.out L6.out.blk (sa.qBK HC.out HB.out (HX6.out▸(HFW.out.1.trans HX5.out.fr).trans (sa.Fr.set _ _ _ _):sa.Fr g w w6)) HCC.out r1 ((a:Int)+1) HR2.out.1 HR2.out.2 HLL.out HR1.out HQ.out).mono ?_;rintro e_ w7 ⟨rfl,hx⟩;have HX7:=zA hx;clear hx;have L7:=zA (L6.out.fr HX7.out.fr HX7.out.blk);clear h0 h1 h2 f1 f2 hx0 fr_;have h0:=L7.out.blk.c0;have h1:=L7.out.blk.c1;have h2:=L7.out.blk.c2;have f1:=L7.out.blk.fz 1;have f2:=L7.out.blk.fz 2;have hx0:=L7.out.byt;have fr_:=qAC L7.out.res 0) | ((with_reducible refine qAW (p:=4) rfl ?_);refine sa.qAo rfl rfl 4 _ rfl w.heap.size rfl (.int .i64 3) (.int .i64 0) (.string (strOfNums ((bs.drop r2.toNat).take r1.toNat))) (.slice none 0 0) (.slice none 0 0) rfl (fun q hq=>by simp at hq;rcases hq with rfl | rfl | rfl | rfl | rfl <;> rfl) _ rfl L7.out.res ?_;intro w5 hres hgr;have HRES:=zA hres;have HGR:=zA hgr;clear hgr hres))
 go_wp2
 refine bodyPost_ret (results_cell_row rfl _ _ w.heap.size 34 _ (0,0) _ rfl HRES.out Try.underlying34 rfl (by kernel_rfl)) rfl ?_
 exact ⟨⟨_,_,rfl,Kd.qA7 _ _ _ _ _,Kd.qA7 _ _ _ _ _⟩,sa.fin_nx ((HX6.out▸(HFW.out.1.trans HX5.out.fr).trans (sa.Fr.set _ _ _ _):sa.Fr g w w6).trans HX7.out.fr) L7.out.blk L7.out.ne.2 HGR.out (Nat.le_refl _) HBB.out.size HX7.out.bel⟩
theorem sa.val_t4C {bs:List Int} {u i:Int→Int × Int × Int} (hU:sa.Uin bs u i) {w0 w:World} {g:Nat} {A:Option Addr} {c:Nat} {a l:Int} (hb:Below w0.heap.size w0 w) (hg:w0.heap.size≤g) (hB:sa.Blk w g A bs.length c a l) (hC:(Kd.int .u8).C w A bs.length bs) (hc:bs.length≤c) (within:Int) (hw:(within == 8)=false) (ha0:0≤a) (ha1:a < (bs.length:Int)) (hl0:1≤l) (hl1:l≤2048) (ht:rd bs a=4) (he:(u (a+1)).2.2=0) (hn:(u (a+1)).1≤(l - 1) / 1) (hq:(bs.length:Int) - (u (a+1)).2.1 < (u (a+1)).1) :
  Calls Try.prog 73 #[.pointer (some ⟨g,0,none⟩),.int .i64 within] w (sa.GotV (.bad 41 (a+1)) w0 w g A bs.length c):=by
 have HB:=zA hB
 have HC:=zA hC
 have HCC:=zA hc
 have HBB:=zA hb
 have HGG:=zA hg
 have HLL:=zA hU.L
 have HUU:=zA hU
 have hgl:g < w.heap.size:=qAe hB
 have hu25:=Try.underlying34
 obtain ⟨a,rfl⟩:=Int.eq_ofNat_of_zero_le ha0
 have t0:((a:Int) == (bs.length:Int))=false:=beq_eq_false_iff_ne.2 (by omega)
 have t1:(a=bs.length)=False:=eq_false (by omega)
 have t2:decide (a=bs.length)=false:=zF (by omega)
 have t3:(a:Int) < (bs.length:Int):=ha1
 have t4:a < bs.length:=by omega
 have t5:decide (a < bs.length)=true:=zT t4
 have hwr:=zA (show wrap64 ((a:Int)+1)=(a:Int)+1 by have:=hU.L;unfold wrap64;omega)
 have HL0:=zA hl0
 have HL1:=zA hl1
 obtain ⟨ad,hA,hx0⟩:=Kd.qBQ hC (a:Int) (by omega) ha1
 subst hA
 rw [Int.toNat_natCast,ht] at hx0
 have HBW:=zA ((Below.refl w.heap.size w).alloc (Nat.le_refl _) (.cells #[.int .i64 0,.int .i64 0,.string ⟨#[]⟩,.slice none 0 0,.slice none 0 0] 34))
 have L1:=zA (show sa.Ly (w.alloc (.cells #[.int .i64 0,.int .i64 0,.string ⟨#[]⟩,.slice none 0 0,.slice none 0 0] 34)) g (some ad) bs.length c (a:Int) l (ad.add a) 4 w.heap.size #[.int .i64 0,.int .i64 0,.string ⟨#[]⟩,.slice none 0 0,.slice none 0 0] from ⟨HB.out.below HBW.out,(HBW.out.cell (qs4 w _ hx0)).trans hx0,by simpa using heap_alloc_new w _⟩)
 clear hx0
 have h0:=L1.out.blk.c0;have h1:=L1.out.blk.c1;have h2:=L1.out.blk.c2;have f1:=L1.out.blk.fz 1;have f2:=L1.out.blk.fz 2;have hx0:=L1.out.byt;have fr_:=qAC L1.out.res 0
 have HF4:∀ W4,W4=((w.alloc (.cells #[.int .i64 0,.int .i64 0,.string ⟨#[]⟩,.slice none 0 0,.slice none 0 0] 34)).setCell ⟨g,2,none⟩ (.int .i64 (l - 1))).setCell ⟨g,1,none⟩ (.int .i64 ((a:Int)+1))→sa.Fr g w W4∧Below w0.heap.size w0 W4:=by
  rintro _ rfl
  exact ⟨((sa.Fr.of_below HBW.out).trans (sa.Fr.set _ _ _ _)).trans (sa.Fr.set _ _ _ _),((HBB.out.alloc HBB.out.size _).setCell hg _).setCell hg _⟩
 have HF4:=zA HF4
 have hs0:wrap64 ((a:Int)+1)=(a:Int)+1:=hwr.out
 have HCN:=zA (fun (W:World) (x1:Below w0.heap.size w0 W) (x2:sa.Blk W g (some ad) bs.length c ((a:Int)+1) (l - 1)) (x3:(Kd.int .u8).C W (some ad) bs.length bs)=>sa.countY hU x1 hg x2 x3 hc (a:Int) 1 he (by omega) (by omega) (by omega) (by omega) hn)
 have hrR:=hU.R ((a:Int)+1)
 have hrN:=hU.N ((a:Int)+1) he
 obtain ⟨r1,r2,r3,hr⟩:∃ r1 r2 r3,u ((a:Int)+1)=(r1,r2,r3):=⟨_,_,_,rfl⟩
 rw [hr] at HCN hn hq hrR hrN
 dsimp only at HCN hn hq hrR hrN
 have HR2:=zA (show 0≤r2∧r2≤bs.length by omega)
 have HR1:=zA (show 0≤r1 by omega)
 have HQ:=zA hq
 have hs1:wrap64 (l - 1 - r1)=l - 1 - r1:=by
  rw [Int.ediv_one] at hn
  unfold wrap64;omega
 clear hn hq hrR hrN he hr
 clear hU hb hg hB hC hc ha1 hl0 hl1 ha0 hgl
 go_enter Try.func73,Try.ntmps73
 go_wp2_with (first | (go_at_call 88;refine (sa.qBo L1.out.blk 1 (a:Int) HL0.out HL1.out (by omega)).mono ?_;rintro e_ w3 ⟨rfl,hx⟩;have L3:=zA (L1.out.fr (hx▸sa.Fr.set _ _ _ _) (hx▸L1.out.blk.set2 _));have HX3:=zA hx;clear hx;clear h0 h1 h2 f1 f2 hx0 fr_;have h0:=L3.out.blk.c0;have h1:=L3.out.blk.c1;have h2:=L3.out.blk.c2;have f1:=L3.out.blk.fz 1;have f2:=L3.out.blk.fz 2;have hx0:=L3.out.byt;have fr_:=qAC L3.out.res 0) | ((with_reducible refine qAW (p:=48) rfl ?_);go_must (refine qAn ?hg (t:=3) (p:=48) (v:=.tmp 46) (w1:=w3.setCell ⟨g,1,none⟩ (.int .i64 (wrap64 ((a:Int)+1)))) ?ho ?hN ?hr ?_);(case ho=>rfl);(case hN=>rfl);(case hg=>rfl);(case hr=>first | (go_simp;done) | (go_simp;rfl));intro w4 e4;rw [hwr.out] at e4;have L4:=zA (L3.out.fr (e4▸sa.Fr.set _ _ _ _) (e4▸L3.out.blk.set1 _));have HX4:=zA e4;clear e4;have HFW:=zA (HF4.out _ (HX4.out.trans (by rw [HX3.out])));clear h0 h1 h2 f1 f2 hx0 fr_;have h0:=L4.out.blk.c0;have h1:=L4.out.blk.c1;have h2:=L4.out.blk.c2;have f1:=L4.out.blk.fz 1;have f2:=L4.out.blk.fz 2;have hx0:=L4.out.byt;have fr_:=qAC L4.out.res 0) | (go_at_call 90;refine (HCN.out _ HFW.out.2 L4.out.blk (sa.qBK HC.out HB.out HFW.out.1)).mono ?_;rintro e_ w5 ⟨rfl,hx⟩;have HX5:=zA hx;clear hx;have L5:=zA (L4.out.fr HX5.out.fr HX5.out.blk);clear h0 h1 h2 f1 f2 hx0 fr_;have h0:=L5.out.blk.c0;have h1:=L5.out.blk.c1;have h2:=L5.out.blk.c2;have f1:=L5.out.blk.fz 1;have f2:=L5.out.blk.fz 2;have hx0:=L5.out.byt;have fr_:=qAC L5.out.res 0) | ((with_reducible refine qAW (p:=102) rfl ?_);go_must (refine qAn ?hg (t:=3) (p:=102) (v:=.tmp 100) (w1:=w5.setCell ⟨g,2,none⟩ (.int .i64 (l - 1 - r1))) ?ho ?hN ?hr ?_);(case ho=>rfl);(case hN=>rfl);(case hg=>rfl);(case hr=>first | (go_simp;done) | (go_simp;rfl));intro w6 ex;have L6:=zA (L5.out.fr (ex▸sa.Fr.set _ _ _ _) (ex▸L5.out.blk.set2 _));have HX6:=zA ex;clear ex;clear h0 h1 h2 f1 f2 hx0 fr_;have h0:=L6.out.blk.c0;have h1:=L6.out.blk.c1;have h2:=L6.out.blk.c2;have f1:=L6.out.blk.fz 1;have f2:=L6.out.blk.fz 2;have hx0:=L6.out.byt;have fr_:=qAC L6.out.res 0) | (go_at_call 91;refine (sa.cutN HUU.out (HX6.out▸HX5.out.bel.setCell HGG.out _) HGG.out L6.out.blk (sa.qBK HC.out HB.out (HX6.out▸(HFW.out.1.trans HX5.out.fr).trans (sa.Fr.set _ _ _ _):sa.Fr g w w6)) HCC.out r1 ((a:Int)+1) HR2.out.1 HR2.out.2 HLL.out HQ.out).mono ?_;rintro e_ w7 ⟨rfl,hx⟩;have HX7:=zA hx;clear hx;unfold sa.flt))
 exact ⟨rfl,rfl,(HX6.out▸(HFW.out.1.trans HX5.out.fr).trans (sa.Fr.set _ _ _ _):sa.Fr g w w6).trans HX7.out.fr,HX7.out.bel⟩
theorem sa.val_t4E {bs:List Int} {u i:Int→Int × Int × Int} (hU:sa.Uin bs u i) {w0 w:World} {g:Nat} {A:Option Addr} {c:Nat} {a l:Int} (hb:Below w0.heap.size w0 w) (hg:w0.heap.size≤g) (hB:sa.Blk w g A bs.length c a l) (hC:(Kd.int .u8).C w A bs.length bs) (hc:bs.length≤c) (within:Int) (hw:(within == 8)=false) (ha0:0≤a) (ha1:a < (bs.length:Int)) (hl0:1≤l) (hl1:l≤2048) (ht:rd bs a=4) (he:(u (a+1)).2.2 ≠ 0) :
  Calls Try.prog 73 #[.pointer (some ⟨g,0,none⟩),.int .i64 within] w (sa.GotV (.bad 41 (a+1)) w0 w g A bs.length c):=by
 have HB:=zA hB
 have HC:=zA hC
 have HCC:=zA hc
 have HBB:=zA hb
 have HGG:=zA hg
 have HLL:=zA hU.L
 have HUU:=zA hU
 have hgl:g < w.heap.size:=qAe hB
 have hu25:=Try.underlying34
 obtain ⟨a,rfl⟩:=Int.eq_ofNat_of_zero_le ha0
 have t0:((a:Int) == (bs.length:Int))=false:=beq_eq_false_iff_ne.2 (by omega)
 have t1:(a=bs.length)=False:=eq_false (by omega)
 have t2:decide (a=bs.length)=false:=zF (by omega)
 have t3:(a:Int) < (bs.length:Int):=ha1
 have t4:a < bs.length:=by omega
 have t5:decide (a < bs.length)=true:=zT t4
 have hwr:=zA (show wrap64 ((a:Int)+1)=(a:Int)+1 by have:=hU.L;unfold wrap64;omega)
 have HL0:=zA hl0
 have HL1:=zA hl1
 obtain ⟨ad,hA,hx0⟩:=Kd.qBQ hC (a:Int) (by omega) ha1
 subst hA
 rw [Int.toNat_natCast,ht] at hx0
 have HBW:=zA ((Below.refl w.heap.size w).alloc (Nat.le_refl _) (.cells #[.int .i64 0,.int .i64 0,.string ⟨#[]⟩,.slice none 0 0,.slice none 0 0] 34))
 have L1:=zA (show sa.Ly (w.alloc (.cells #[.int .i64 0,.int .i64 0,.string ⟨#[]⟩,.slice none 0 0,.slice none 0 0] 34)) g (some ad) bs.length c (a:Int) l (ad.add a) 4 w.heap.size #[.int .i64 0,.int .i64 0,.string ⟨#[]⟩,.slice none 0 0,.slice none 0 0] from ⟨HB.out.below HBW.out,(HBW.out.cell (qs4 w _ hx0)).trans hx0,by simpa using heap_alloc_new w _⟩)
 clear hx0
 have h0:=L1.out.blk.c0;have h1:=L1.out.blk.c1;have h2:=L1.out.blk.c2;have f1:=L1.out.blk.fz 1;have f2:=L1.out.blk.fz 2;have hx0:=L1.out.byt;have fr_:=qAC L1.out.res 0
 have HF4:∀ W4,W4=((w.alloc (.cells #[.int .i64 0,.int .i64 0,.string ⟨#[]⟩,.slice none 0 0,.slice none 0 0] 34)).setCell ⟨g,2,none⟩ (.int .i64 (l - 1))).setCell ⟨g,1,none⟩ (.int .i64 ((a:Int)+1))→sa.Fr g w W4∧Below w0.heap.size w0 W4:=by
  rintro _ rfl
  exact ⟨((sa.Fr.of_below HBW.out).trans (sa.Fr.set _ _ _ _)).trans (sa.Fr.set _ _ _ _),((HBB.out.alloc HBB.out.size _).setCell hg _).setCell hg _⟩
 have HF4:=zA HF4
 have hs0:wrap64 ((a:Int)+1)=(a:Int)+1:=hwr.out
 have HCN:=zA (fun (W:World) (x1:Below w0.heap.size w0 W) (x2:sa.Blk W g (some ad) bs.length c ((a:Int)+1) (l - 1)) (x3:(Kd.int .u8).C W (some ad) bs.length bs)=>sa.countE hU x1 hg x2 x3 hc (a:Int) 1 he)
 clear hU hb hg hB hC hc ha1 hl0 hl1 ha0 hgl
 go_enter Try.func73,Try.ntmps73
 go_wp2_with (first | (go_at_call 88;refine (sa.qBo L1.out.blk 1 (a:Int) HL0.out HL1.out (by omega)).mono ?_;rintro e_ w3 ⟨rfl,hx⟩;have L3:=zA (L1.out.fr (hx▸sa.Fr.set _ _ _ _) (hx▸L1.out.blk.set2 _));have HX3:=zA hx;clear hx;clear h0 h1 h2 f1 f2 hx0 fr_;have h0:=L3.out.blk.c0;have h1:=L3.out.blk.c1;have h2:=L3.out.blk.c2;have f1:=L3.out.blk.fz 1;have f2:=L3.out.blk.fz 2;have hx0:=L3.out.byt;have fr_:=qAC L3.out.res 0) | ((with_reducible refine qAW (p:=48) rfl ?_);go_must (refine qAn ?hg (t:=3) (p:=48) (v:=.tmp 46) (w1:=w3.setCell ⟨g,1,none⟩ (.int .i64 (wrap64 ((a:Int)+1)))) ?ho ?hN ?hr ?_);(case ho=>rfl);(case hN=>rfl);(case hg=>rfl);(case hr=>first | (go_simp;done) | (go_simp;rfl));intro w4 e4;rw [hwr.out] at e4;have L4:=zA (L3.out.fr (e4▸sa.Fr.set _ _ _ _) (e4▸L3.out.blk.set1 _));have HX4:=zA e4;clear e4;have HFW:=zA (HF4.out _ (HX4.out.trans (by rw [HX3.out])));clear h0 h1 h2 f1 f2 hx0 fr_;have h0:=L4.out.blk.c0;have h1:=L4.out.blk.c1;have h2:=L4.out.blk.c2;have f1:=L4.out.blk.fz 1;have f2:=L4.out.blk.fz 2;have hx0:=L4.out.byt;have fr_:=qAC L4.out.res 0) | (go_at_call 90;refine (HCN.out _ HFW.out.2 L4.out.blk (sa.qBK HC.out HB.out HFW.out.1)).mono ?_;rintro e_ w5 ⟨rfl,hx⟩;have HX5:=zA hx;clear hx;unfold sa.flt))
 exact ⟨rfl,rfl,HFW.out.1.trans HX5.out.fr,HX5.out.bel⟩
theorem sa.val_t4S {bs:List Int} {u i:Int→Int × Int × Int} (hU:sa.Uin bs u i) {w0 w:World} {g:Nat} {A:Option Addr} {c:Nat} {a l:Int} (hb:Below w0.heap.size w0 w) (hg:w0.heap.size≤g) (hB:sa.Blk w g A bs.length c a l) (hC:(Kd.int .u8).C w A bs.length bs) (hc:bs.length≤c) (within:Int) (hw:(within == 8)=false) (ha0:0≤a) (ha1:a < (bs.length:Int)) (hl0:1≤l) (hl1:l≤2048) (ht:rd bs a=4) (he:(u (a+1)).2.2=0) (hn:(l - 1) / 1 < (u (a+1)).1) :
  Calls Try.prog 73 #[.pointer (some ⟨g,0,none⟩),.int .i64 within] w (sa.GotV (.bad 42 a) w0 w g A bs.length c):=by
 have HB:=zA hB
 have HC:=zA hC
 have HCC:=zA hc
 have HBB:=zA hb
 have HGG:=zA hg
 have HLL:=zA hU.L
 have HUU:=zA hU
 have hgl:g < w.heap.size:=qAe hB
 have hu25:=Try.underlying34
 obtain ⟨a,rfl⟩:=Int.eq_ofNat_of_zero_le ha0
 have t0:((a:Int) == (bs.length:Int))=false:=beq_eq_false_iff_ne.2 (by omega)
 have t1:(a=bs.length)=False:=eq_false (by omega)
 have t2:decide (a=bs.length)=false:=zF (by omega)
 have t3:(a:Int) < (bs.length:Int):=ha1
 have t4:a < bs.length:=by omega
 have t5:decide (a < bs.length)=true:=zT t4
 have hwr:=zA (show wrap64 ((a:Int)+1)=(a:Int)+1 by have:=hU.L;unfold wrap64;omega)
 have HL0:=zA hl0
 have HL1:=zA hl1
 obtain ⟨ad,hA,hx0⟩:=Kd.qBQ hC (a:Int) (by omega) ha1
 subst hA
 rw [Int.toNat_natCast,ht] at hx0
 have HBW:=zA ((Below.refl w.heap.size w).alloc (Nat.le_refl _) (.cells #[.int .i64 0,.int .i64 0,.string ⟨#[]⟩,.slice none 0 0,.slice none 0 0] 34))
 have L1:=zA (show sa.Ly (w.alloc (.cells #[.int .i64 0,.int .i64 0,.string ⟨#[]⟩,.slice none 0 0,.slice none 0 0] 34)) g (some ad) bs.length c (a:Int) l (ad.add a) 4 w.heap.size #[.int .i64 0,.int .i64 0,.string ⟨#[]⟩,.slice none 0 0,.slice none 0 0] from ⟨HB.out.below HBW.out,(HBW.out.cell (qs4 w _ hx0)).trans hx0,by simpa using heap_alloc_new w _⟩)
 clear hx0
 have h0:=L1.out.blk.c0;have h1:=L1.out.blk.c1;have h2:=L1.out.blk.c2;have f1:=L1.out.blk.fz 1;have f2:=L1.out.blk.fz 2;have hx0:=L1.out.byt;have fr_:=qAC L1.out.res 0
 have HF4:∀ W4,W4=((w.alloc (.cells #[.int .i64 0,.int .i64 0,.string ⟨#[]⟩,.slice none 0 0,.slice none 0 0] 34)).setCell ⟨g,2,none⟩ (.int .i64 (l - 1))).setCell ⟨g,1,none⟩ (.int .i64 ((a:Int)+1))→sa.Fr g w W4∧Below w0.heap.size w0 W4:=by
  rintro _ rfl
  exact ⟨((sa.Fr.of_below HBW.out).trans (sa.Fr.set _ _ _ _)).trans (sa.Fr.set _ _ _ _),((HBB.out.alloc HBB.out.size _).setCell hg _).setCell hg _⟩
 have HF4:=zA HF4
 have hs0:wrap64 ((a:Int)+1)=(a:Int)+1:=hwr.out
 have HCN:=zA (fun (W:World) (x1:Below w0.heap.size w0 W) (x2:sa.Blk W g (some ad) bs.length c ((a:Int)+1) (l - 1)) (x3:(Kd.int .u8).C W (some ad) bs.length bs)=>sa.countN hU x1 hg x2 x3 hc (a:Int) 1 he (by omega) (by omega) (by omega) (by omega) hn)
 clear hU hb hg hB hC hc ha1 hl0 hl1 ha0 hgl
 go_enter Try.func73,Try.ntmps73
 go_wp2_with (first | (go_at_call 88;refine (sa.qBo L1.out.blk 1 (a:Int) HL0.out HL1.out (by omega)).mono ?_;rintro e_ w3 ⟨rfl,hx⟩;have L3:=zA (L1.out.fr (hx▸sa.Fr.set _ _ _ _) (hx▸L1.out.blk.set2 _));have HX3:=zA hx;clear hx;clear h0 h1 h2 f1 f2 hx0 fr_;have h0:=L3.out.blk.c0;have h1:=L3.out.blk.c1;have h2:=L3.out.blk.c2;have f1:=L3.out.blk.fz 1;have f2:=L3.out.blk.fz 2;have hx0:=L3.out.byt;have fr_:=qAC L3.out.res 0) | ((with_reducible refine qAW (p:=48) rfl ?_);go_must (refine qAn ?hg (t:=3) (p:=48) (v:=.tmp 46) (w1:=w3.setCell ⟨g,1,none⟩ (.int .i64 (wrap64 ((a:Int)+1)))) ?ho ?hN ?hr ?_);(case ho=>rfl);(case hN=>rfl);(case hg=>rfl);(case hr=>first | (go_simp;done) | (go_simp;rfl));intro w4 e4;rw [hwr.out] at e4;have L4:=zA (L3.out.fr (e4▸sa.Fr.set _ _ _ _) (e4▸L3.out.blk.set1 _));have HX4:=zA e4;clear e4;have HFW:=zA (HF4.out _ (HX4.out.trans (by rw [HX3.out])));clear h0 h1 h2 f1 f2 hx0 fr_;have h0:=L4.out.blk.c0;have h1:=L4.out.blk.c1;have h2:=L4.out.blk.c2;have f1:=L4.out.blk.fz 1;have f2:=L4.out.blk.fz 2;have hx0:=L4.out.byt;have fr_:=qAC L4.out.res 0) | (go_at_call 90;refine (HCN.out _ HFW.out.2 L4.out.blk (sa.qBK HC.out HB.out HFW.out.1)).mono ?_;rintro e_ w5 ⟨rfl,hx⟩;have HX5:=zA hx;clear hx;unfold sa.flt))
 exact ⟨rfl,rfl,HFW.out.1.trans HX5.out.fr,HX5.out.bel⟩
theorem sa.val_b1 {bs:List Int} {u i:Int→Int × Int × Int} (hU:sa.Uin bs u i) {w0 w:World} {g:Nat} {A:Option Addr} {c:Nat} {a l:Int} (hb:Below w0.heap.size w0 w) (hg:w0.heap.size≤g) (hB:sa.Blk w g A bs.length c a l) (hC:(Kd.int .u8).C w A bs.length bs) (hc:bs.length≤c) (within:Int) (ha1:a=(bs.length:Int)) :
  Calls Try.prog 73 #[.pointer (some ⟨g,0,none⟩),.int .i64 within] w (sa.GotV (.bad 41 a) w0 w g A bs.length c):=by
 have HB:=zA hB
 have HBB:=zA hb
 have hgl:g < w.heap.size:=qAe hB
 have HBW:=zA ((Below.refl w.heap.size w).alloc (Nat.le_refl _) (.cells #[.int .i64 0,.int .i64 0,.string ⟨#[]⟩,.slice none 0 0,.slice none 0 0] 34))
 have L1:=zA (HB.out.below HBW.out)
 have h0:=L1.out.c0;have h1:=L1.out.c1;have h2:=L1.out.c2;have f1:=L1.out.fz 1;have f2:=L1.out.fz 2
 have t0:(a == (bs.length:Int))=true:=beq_iff_eq.2 ha1
 have t1:(a=(bs.length:Int))=True:=eq_true ha1
 clear ha1
 clear hU hb hg hB hC hc hgl
 generalize bs.length=m at *
 go_enter Try.func73,Try.ntmps73
 go_wp2_with (go_at_call 87;refine (sa.fails1 41 a _).mono ?_;rintro e_ w_ ⟨rfl,rfl⟩;unfold sa.flt)
 exact ⟨rfl,rfl,sa.Fr.of_below HBW.out,HBB.out.alloc HBB.out.size _⟩
theorem sa.val_b2 {bs:List Int} {u i:Int→Int × Int × Int} (hU:sa.Uin bs u i) {w0 w:World} {g:Nat} {A:Option Addr} {c:Nat} {a l:Int} (hb:Below w0.heap.size w0 w) (hg:w0.heap.size≤g) (hB:sa.Blk w g A bs.length c a l) (hC:(Kd.int .u8).C w A bs.length bs) (hc:bs.length≤c) (within:Int) (ha0:0≤a) (ha1:a < (bs.length:Int)) (hx:rd bs a > 6) :
  Calls Try.prog 73 #[.pointer (some ⟨g,0,none⟩),.int .i64 within] w (sa.GotV (.bad 41 a) w0 w g A bs.length c):=by
 have HB:=zA hB
 have HBB:=zA hb
 have hgl:g < w.heap.size:=qAe hB
 have HBW:=zA ((Below.refl w.heap.size w).alloc (Nat.le_refl _) (.cells #[.int .i64 0,.int .i64 0,.string ⟨#[]⟩,.slice none 0 0,.slice none 0 0] 34))
 have L1:=zA (HB.out.below HBW.out)
 have h0:=L1.out.c0;have h1:=L1.out.c1;have h2:=L1.out.c2;have f1:=L1.out.fz 1;have f2:=L1.out.fz 2
 obtain ⟨a,rfl⟩:=Int.eq_ofNat_of_zero_le ha0
 have t0:((a:Int) == (bs.length:Int))=false:=beq_eq_false_iff_ne.2 (by omega)
 have t1:(a=bs.length)=False:=eq_false (by omega)
 have t2:decide (a=bs.length)=false:=zF (by omega)
 have t3:(a:Int) < (bs.length:Int):=ha1
 have t4:a < bs.length:=by omega
 have t5:decide (a < bs.length)=true:=zT t4
 obtain ⟨ad,hA,hx0_⟩:=Kd.qBQ hC (a:Int) (by omega) ha1
 subst hA
 rw [Int.toNat_natCast] at hx0_
 have hx0:=(HBW.out.cell (qs4 w _ hx0_)).trans hx0_
 generalize rd bs (a:Int)=x at *
 clear hx0_
 have t6:decide (x > 6)=true:=zT (by omega)
 have t7:decide (6 < x)=true:=zT (by omega)
 clear ha1 hx ha0
 clear hU hb hg hB hC hc hgl
 generalize bs.length=m at *
 go_enter Try.func73,Try.ntmps73
 go_wp2_with (go_at_call 87;refine (sa.fails1 41 (a:Int) _).mono ?_;rintro e_ w_ ⟨rfl,rfl⟩;unfold sa.flt)
 exact ⟨rfl,rfl,sa.Fr.of_below HBW.out,HBB.out.alloc HBB.out.size _⟩
theorem sa.val_bd {bs:List Int} {u i:Int→Int × Int × Int} (hU:sa.Uin bs u i) {w0 w:World} {g:Nat} {A:Option Addr} {c:Nat} {a l:Int} (hb:Below w0.heap.size w0 w) (hg:w0.heap.size≤g) (hB:sa.Blk w g A bs.length c a l) (hC:(Kd.int .u8).C w A bs.length bs) (hc:bs.length≤c) (within:Int) (hw:(within == 8)=true) (ha0:0≤a) (ha1:a < (bs.length:Int)) (hx:rd bs a≤6) :
  Calls Try.prog 73 #[.pointer (some ⟨g,0,none⟩),.int .i64 within] w (sa.GotV (.bad 42 a) w0 w g A bs.length c):=by
 have HB:=zA hB
 have HBB:=zA hb
 have hgl:g < w.heap.size:=qAe hB
 have HBW:=zA ((Below.refl w.heap.size w).alloc (Nat.le_refl _) (.cells #[.int .i64 0,.int .i64 0,.string ⟨#[]⟩,.slice none 0 0,.slice none 0 0] 34))
 have L1:=zA (HB.out.below HBW.out)
 have h0:=L1.out.c0;have h1:=L1.out.c1;have h2:=L1.out.c2;have f1:=L1.out.fz 1;have f2:=L1.out.fz 2
 obtain ⟨a,rfl⟩:=Int.eq_ofNat_of_zero_le ha0
 have t0:((a:Int) == (bs.length:Int))=false:=beq_eq_false_iff_ne.2 (by omega)
 have t1:(a=bs.length)=False:=eq_false (by omega)
 have t2:decide (a=bs.length)=false:=zF (by omega)
 have t3:(a:Int) < (bs.length:Int):=ha1
 have t4:a < bs.length:=by omega
 have t5:decide (a < bs.length)=true:=zT t4
 obtain ⟨ad,hA,hx0_⟩:=Kd.qBQ hC (a:Int) (by omega) ha1
 subst hA
 rw [Int.toNat_natCast] at hx0_
 have hx0:=(HBW.out.cell (qs4 w _ hx0_)).trans hx0_
 generalize rd bs (a:Int)=x at *
 clear hx0_
 have t6:decide (x > 6)=false:=zF (by omega)
 have t7:decide (6 < x)=false:=zF (by omega)
 clear ha1 hx ha0
 clear hU hb hg hB hC hc hgl
 generalize bs.length=m at *
 go_enter Try.func73,Try.ntmps73
 go_wp2_with (go_at_call 87;refine (sa.fails1 42 (a:Int) _).mono ?_;rintro e_ w_ ⟨rfl,rfl⟩;unfold sa.flt)
 exact ⟨rfl,rfl,sa.Fr.of_below HBW.out,HBB.out.alloc HBB.out.size _⟩
theorem sa.val_bw {bs:List Int} {u i:Int→Int × Int × Int} (hU:sa.Uin bs u i) {w0 w:World} {g:Nat} {A:Option Addr} {c:Nat} {a l:Int} (hb:Below w0.heap.size w0 w) (hg:w0.heap.size≤g) (hB:sa.Blk w g A bs.length c a l) (hC:(Kd.int .u8).C w A bs.length bs) (hc:bs.length≤c) (within:Int) (hw:(within == 8)=false) (ha0:0≤a) (ha1:a < (bs.length:Int)) (hx:rd bs a≤6) (hl:l < 1) :
  Calls Try.prog 73 #[.pointer (some ⟨g,0,none⟩),.int .i64 within] w (sa.GotV (.bad 42 a) w0 w g A bs.length c):=by
 have HB:=zA hB
 have HBB:=zA hb
 have hgl:g < w.heap.size:=qAe hB
 have HBW:=zA ((Below.refl w.heap.size w).alloc (Nat.le_refl _) (.cells #[.int .i64 0,.int .i64 0,.string ⟨#[]⟩,.slice none 0 0,.slice none 0 0] 34))
 have L1:=zA (HB.out.below HBW.out)
 have h0:=L1.out.c0;have h1:=L1.out.c1;have h2:=L1.out.c2;have f1:=L1.out.fz 1;have f2:=L1.out.fz 2
 obtain ⟨a,rfl⟩:=Int.eq_ofNat_of_zero_le ha0
 have t0:((a:Int) == (bs.length:Int))=false:=beq_eq_false_iff_ne.2 (by omega)
 have t1:(a=bs.length)=False:=eq_false (by omega)
 have t2:decide (a=bs.length)=false:=zF (by omega)
 have t3:(a:Int) < (bs.length:Int):=ha1
 have t4:a < bs.length:=by omega
 have t5:decide (a < bs.length)=true:=zT t4
 obtain ⟨ad,hA,hx0_⟩:=Kd.qBQ hC (a:Int) (by omega) ha1
 subst hA
 rw [Int.toNat_natCast] at hx0_
 have hx0:=(HBW.out.cell (qs4 w _ hx0_)).trans hx0_
 generalize rd bs (a:Int)=x at *
 clear hx0_
 have t6:decide (x > 6)=false:=zF (by omega)
 have t7:decide (6 < x)=false:=zF (by omega)
 have HLX:=zA hl
 clear ha1 hx ha0 hl
 clear hU hb hg hB hC hc hgl
 generalize bs.length=m at *
 go_enter Try.func73,Try.ntmps73
 go_wp2_with (go_at_call 88;refine (sa.weighsN L1.out 1 (a:Int) HLX.out).mono ?_;rintro e_ w3 ⟨rfl,hx⟩;have HX3:=zA hx;clear hx;unfold sa.flt)
 exact ⟨rfl,rfl,HX3.out▸sa.Fr.of_below HBW.out,HX3.out▸HBB.out.alloc HBB.out.size _⟩
end
section
set_option maxHeartbeats 4000000
set_option maxRecDepth 100000
theorem sa.qCA {W W5:World} {O:Obj} (hG:(W.alloc O).grownBy W5 (some W.heap.size)):Below W.heap.size W W5 :=
 ⟨hG.os,hG.tape,hG.output,Nat.le_trans (by rw [Deep.nblk_alloc];omega) hG.size,fun k hk=>(hG.block k (by rw [Deep.nblk_alloc];omega) (fun e=>absurd (Option.some.inj e) (by omega))).trans (Deep.blk_alloc_lt _ _ _ hk)⟩
structure sa.LQ (w0 w W:World) (g:Nat) (A:Option Addr) (m c:Nat) (vb:Nat) (a l kd:Int) (v3 v4:Value) (acc:List S34) (ks:List ByteArray):Prop where
 blk:sa.Blk W g A m c a l
 fr:sa.Fr g w W
 bel:Below w0.heap.size w0 W
 box:W.heap[vb]?=some (.cells #[.int .i64 kd,.int .i64 0,.string ⟨#[]⟩,v3,v4] 34 (0,0))
 res:W.heap[w.heap.size]?=some (.cells #[.int .i64 0,.int .i64 0,.string ⟨#[]⟩,.slice none 0 0,.slice none 0 0] 34 (0,0))
 row:k34.R 34 W w0.heap.size (fun k=>vb < k∧some k ≠ v4.ownBlock) v3 acc
 keys:Kd.string.R 9 W w0.heap.size (fun k=>vb < k) v4 ks
 hvb:w.heap.size < vb
 hgl:g < w.heap.size
 hg:w0.heap.size≤g
section
variable {w0 w W W1:World} {g:Nat} {A:Option Addr} {m c:Nat} {vb:Nat} {a l a1 l1 kd:Int} {v3 v4:Value} {acc:List S34} {ks:List ByteArray}
theorem sa.LQ.lt (h:sa.LQ w0 w W g A m c vb a l kd v3 v4 acc ks):vb < W.heap.size:=qAe h.box
theorem sa.LQ.below (h:sa.LQ w0 w W g A m c vb a l kd v3 v4 acc ks) (hb:Below W.heap.size W W1):sa.LQ w0 w W1 g A m c vb a l kd v3 v4 acc ks :=
 ⟨h.blk.below hb,h.fr.trans (sa.Fr.of_below hb),qAY h.bel h.bel.size hb,qAX h.box hb,qAX h.res hb,Kd.qAp h.row hb,Kd.qAp h.keys hb,h.hvb,h.hgl,h.hg⟩
theorem sa.LQ.step (h:sa.LQ w0 w W g A m c vb a l kd v3 v4 acc ks) (hn:sa.Nx w0 W W1 g A m c a1 l1):sa.LQ w0 w W1 g A m c vb a1 l1 kd v3 v4 acc ks :=
 have h1:=h.hgl
 have h2:=h.hvb
 ⟨hn.blk,h.fr.trans hn.fr,hn.bel,(hn.fr.2 vb h.lt (by omega)).trans h.box,(hn.fr.2 _ (qAe h.res) (by omega)).trans h.res,Kd.R_step h.row (fun k hk hlt=>hn.fr.2 k hlt (by have:=hk.1;omega)),Kd.R_step h.keys (fun k hk hlt=>hn.fr.2 k hlt (by omega)),h2,h1,h.hg⟩
theorem sa.LQ.app3 {v5:Value} {acc2:List S34} (h:sa.LQ w0 w W g A m c vb a l kd v3 v4 acc ks) (ho:k34.R 34 W1 w0.heap.size (fun k=>vb < k∧some k ≠ v4.ownBlock) v5 acc2) (hb:Below w0.heap.size w0 W1) (hg:W.grownBy W1 v3.ownBlock):sa.LQ w0 w (W1.setCell ⟨vb,3,none⟩ v5) g A m c vb a l kd v5 v4 acc2 ks:=by
 have h1:=h.hgl
 have h2:=h.hvb
 have h3:=h.hg
 have hne:∀ b,b≤vb→some b ≠ v3.ownBlock:=fun b hb2 e=>by have:=(h.row.1 b e.symm).1;omega
 have hsz:w.heap.size≤W.heap.size:=h.fr.1
 have fr1:sa.Fr g w W1:=⟨Nat.le_trans hsz hg.size,fun k hk hkg=>(hg.block k (by omega) (hne k (by omega))).trans (h.fr.2 k hk hkg)⟩
 have box1:=qA1 h.box hg (hne vb (Nat.le_refl _))
 exact ⟨(Below.heap_setCell W1 ⟨vb,3,none⟩ v5 g (show g ≠ vb by omega)).trans (qA1 h.blk hg (hne g (by omega))),
  ⟨Nat.le_trans fr1.1 (by simp [World.setCell]),fun k hk hkg=>(Below.heap_setCell W1 ⟨vb,3,none⟩ v5 k (show k ≠ vb by omega)).trans (fr1.2 k hk hkg)⟩,
  hb.setCell (show w0.heap.size≤vb by omega) v5,
  qAy box1 3 v5 rfl,
  (Below.heap_setCell W1 ⟨vb,3,none⟩ v5 _ (show w.heap.size ≠ vb by omega)).trans (qA1 h.res hg (hne _ (by omega))),
  Kd.R_far ho (fun k hk=>by show k ≠ vb;have:=hk.1;omega) v5,
  Kd.R_far (Kd.R_over' h.keys (Kd.R_typed h.row) (by decide) hg) (fun k hk=>by show k ≠ vb;omega) v5,h2,h1,h3⟩
theorem sa.LQ.app4 {v5:Value} {ks2:List ByteArray} (h:sa.LQ w0 w W g A m c vb a l kd v3 v4 acc ks) (ho:Kd.string.R 9 W1 w0.heap.size (fun k=>vb < k) v5 ks2) (hb:Below w0.heap.size w0 W1) (hg:W.grownBy W1 v4.ownBlock) (hat:v5.ownBlock=v4.ownBlock ∨ ∃ b,v5.ownBlock=some b∧W.heap.size≤b):sa.LQ w0 w (W1.setCell ⟨vb,4,none⟩ v5) g A m c vb a l kd v3 v5 acc ks2:=by
 have h1:=h.hgl
 have h2:=h.hvb
 have h3:=h.hg
 have hne:∀ b,b≤vb→some b ≠ v4.ownBlock:=fun b hb2 e=>by have:=h.keys.1 b e.symm;omega
 have hsz:w.heap.size≤W.heap.size:=h.fr.1
 have fr1:sa.Fr g w W1:=⟨Nat.le_trans hsz hg.size,fun k hk hkg=>(hg.block k (by omega) (hne k (by omega))).trans (h.fr.2 k hk hkg)⟩
 have box1:=qA1 h.box hg (hne vb (Nat.le_refl _))
 exact ⟨(Below.heap_setCell W1 ⟨vb,4,none⟩ v5 g (show g ≠ vb by omega)).trans (qA1 h.blk hg (hne g (by omega))),
  ⟨Nat.le_trans fr1.1 (by simp [World.setCell]),fun k hk hkg=>(Below.heap_setCell W1 ⟨vb,4,none⟩ v5 k (show k ≠ vb by omega)).trans (fr1.2 k hk hkg)⟩,
  hb.setCell (show w0.heap.size≤vb by omega) v5,
  qAy box1 4 v5 rfl,
  (Below.heap_setCell W1 ⟨vb,4,none⟩ v5 _ (show w.heap.size ≠ vb by omega)).trans (qA1 h.res hg (hne _ (by omega))),
  Kd.R_far (Kd.R_after h.row hg hat) (fun k hk=>by show k ≠ vb;have:=hk.1;omega) v5,
  Kd.R_far ho (fun k hk=>by show k ≠ vb;omega) v5,h2,h1,h3⟩
end
theorem sa.meas (k n:Nat) (hlt:k < n) (hw:wrap64 ((k:Int)+1)=(k:Int)+1):n - (intOf (.int .i64 (wrap64 ((k:Int)+1)))).toNat < n - (intOf (.int .i64 (k:Int))).toNat:=by
 rw [hw]
 show n - ((k:Int)+1).toNat < n - ((k:Int)).toNat
 omega
theorem sa.keyS_b {bs:List Int} {u i:Int→Int × Int × Int} (hU:sa.Uin bs u i) {ks:List ByteArray} {a l a2 l2:Int} {k:ByteArray} (hl:0≤l∧l≤2048) (h:sa.keyS bs u ks a l=.ok k a2 l2):0≤a2∧a2≤(bs.length:Int)∧0≤l2∧l2≤2048:=by
 unfold sa.keyS at h
 by_cases h1:(u a).2.2 ≠ 0
 ·rw [if_pos h1] at h;cases h
 rw [if_neg h1] at h
 by_cases h2:(u a).1 > 32
 ·rw [if_pos h2] at h;cases h
 rw [if_neg h2] at h
 by_cases h3:(u a).1 > (bs.length:Int) - (u a).2.1
 ·rw [if_pos h3] at h;cases h
 rw [if_neg h3] at h
 dsimp only at h
 split at h
 ·cases h
 split at h
 ·cases h
 next h4 =>
  injection h with e1 e2 e3
  have hN:=hU.N a (Classical.byContradiction h1)
  have hR:=hU.R a
  subst e2
  subst e3
  exact ⟨by omega,by omega,by omega,by omega⟩
theorem sa.val_t5 {bs:List Int} {u i:Int→Int × Int × Int} (hU:sa.Uin bs u i) {w0 w:World} {g:Nat} {A:Option Addr} {c:Nat} {a l:Int} (hb:Below w0.heap.size w0 w) (hg:w0.heap.size≤g) (hB:sa.Blk w g A bs.length c a l) (hC:(Kd.int .u8).C w A bs.length bs) (hc:bs.length≤c) (within:Int) (hw:(within == 8)=false) (ha0:0≤a) (ha1:a < (bs.length:Int)) (hl0:1≤l) (hl1:l≤2048) (ht:rd bs a=5) (he:(u (a+1)).2.2=0) (hn:(u (a+1)).1≤(l - 1) / 1) (hwi:0≤within∧within≤8) (f:Int→Int→sa.R3 S34) (hfb:∀ (a l:Int) (x:S34) (a2 l2:Int),0≤a→a≤(bs.length:Int)→0≤l→l≤2048→f a l=.ok x a2 l2→0≤a2∧a2≤(bs.length:Int)∧0≤l2∧l2≤2048) (IH:∀ (W:World) (a l:Int),Below w0.heap.size w0 W→sa.Blk W g A bs.length c a l→(Kd.int .u8).C W A bs.length bs→0≤a→a≤bs.length→0≤l→l≤2048→Calls Try.prog 73 #[.pointer (some ⟨g,0,none⟩),.int .i64 (within+1)] W (sa.GotV (f a l) w0 W g A bs.length c)) :
  Calls Try.prog 73 #[.pointer (some ⟨g,0,none⟩),.int .i64 within] w (sa.GotV (sa.arrV (sa.arrL f (u (a+1)).1.toNat [] (u (a+1)).2.1 (l - 1))) w0 w g A bs.length c):=by
 have HB:=zA hB
 have HC:=zA hC
 have HCC:=zA hc
 have HBB:=zA hb
 have HGG:=zA hg
 have HLL:=zA hU.L
 have HUU:=zA hU
 have hgl:g < w.heap.size:=qAe hB
 have hu25:=Try.underlying34
 obtain ⟨a,rfl⟩:=Int.eq_ofNat_of_zero_le ha0
 have t0:((a:Int) == (bs.length:Int))=false:=beq_eq_false_iff_ne.2 (by omega)
 have t1:(a=bs.length)=False:=eq_false (by omega)
 have t2:decide (a=bs.length)=false:=zF (by omega)
 have t3:(a:Int) < (bs.length:Int):=ha1
 have t4:a < bs.length:=by omega
 have t5:decide (a < bs.length)=true:=zT t4
 have hwr:=zA (show wrap64 ((a:Int)+1)=(a:Int)+1 by have:=hU.L;unfold wrap64;omega)
 have HL0:=zA hl0
 have HL1:=zA hl1
 obtain ⟨ad,hA,hx0⟩:=Kd.qBQ hC (a:Int) (by omega) ha1
 subst hA
 rw [Int.toNat_natCast,ht] at hx0
 have HBW:=zA ((Below.refl w.heap.size w).alloc (Nat.le_refl _) (.cells #[.int .i64 0,.int .i64 0,.string ⟨#[]⟩,.slice none 0 0,.slice none 0 0] 34))
 have L1:=zA (show sa.Ly (w.alloc (.cells #[.int .i64 0,.int .i64 0,.string ⟨#[]⟩,.slice none 0 0,.slice none 0 0] 34)) g (some ad) bs.length c (a:Int) l (ad.add a) 5 w.heap.size #[.int .i64 0,.int .i64 0,.string ⟨#[]⟩,.slice none 0 0,.slice none 0 0] from ⟨HB.out.below HBW.out,(HBW.out.cell (qs4 w _ hx0)).trans hx0,by simpa using heap_alloc_new w _⟩)
 clear hx0
 have h0:=L1.out.blk.c0;have h1:=L1.out.blk.c1;have h2:=L1.out.blk.c2;have f1:=L1.out.blk.fz 1;have f2:=L1.out.blk.fz 2;have hx0:=L1.out.byt;have fr_:=qAC L1.out.res 0
 have HF4:∀ W4,W4=((w.alloc (.cells #[.int .i64 0,.int .i64 0,.string ⟨#[]⟩,.slice none 0 0,.slice none 0 0] 34)).setCell ⟨g,2,none⟩ (.int .i64 (l - 1))).setCell ⟨g,1,none⟩ (.int .i64 ((a:Int)+1))→sa.Fr g w W4∧Below w0.heap.size w0 W4:=by
  rintro _ rfl
  exact ⟨((sa.Fr.of_below HBW.out).trans (sa.Fr.set _ _ _ _)).trans (sa.Fr.set _ _ _ _),((HBB.out.alloc HBB.out.size _).setCell hg _).setCell hg _⟩
 have HF4:=zA HF4
 have hs0:wrap64 ((a:Int)+1)=(a:Int)+1:=hwr.out
 have HCN:=zA (fun (W:World) (x1:Below w0.heap.size w0 W) (x2:sa.Blk W g (some ad) bs.length c ((a:Int)+1) (l - 1)) (x3:(Kd.int .u8).C W (some ad) bs.length bs)=>sa.countY hU x1 hg x2 x3 hc (a:Int) 1 he (by omega) (by omega) (by omega) (by omega) hn)
 have hrR:=hU.R ((a:Int)+1)
 have hrN:=hU.N ((a:Int)+1) he
 obtain ⟨r1,r2,r3,hr⟩:∃ r1 r2 r3,u ((a:Int)+1)=(r1,r2,r3):=⟨_,_,_,rfl⟩
 rw [hr] at HCN hn hrR hrN ⊢
 dsimp only at HCN hn hrR hrN ⊢
 have HGL:=zA hgl
 have hr2:0≤r2∧r2≤bs.length:=⟨Int.le_of_lt (Int.lt_of_le_of_lt hrN.1 hrN.2.1),hrN.2.2⟩
 have hr1:0≤r1:=hrR.1
 obtain ⟨n,rfl⟩:=Int.eq_ofNat_of_zero_le hr1
 have hn2:n≤2048:=by rw [Int.ediv_one] at hn;omega
 have HN2:=zA hn2
 have hwi2:wrap64 (within+1)=within+1:=by unfold wrap64;omega
 rw [← hwi2] at IH
 clear hwi2
 have HIH:=zA IH
 have HFB:=zA hfb
 rw [Int.toNat_natCast]
 obtain ⟨T,hT⟩:∃ T,sa.arrL f n [] r2 (l - 1)=T:=⟨_,rfl⟩
 rw [hT]
 have HP0:=zA (show sa.arrL f (n - 0) [] r2 (l - 1)=T∧([]:List S34).length=0∧0≤n∧(0≤r2∧r2≤bs.length∧0≤l - 1∧l - 1≤2048) from ⟨hT,rfl,Nat.zero_le _,by omega⟩)
 clear hn hrR hrN he hr hr2 hr1 hT hn2 IH hfb hwi
 clear hU hb hg hB hC hc ha1 hl0 hl1 ha0 hgl
 go_enter Try.func73,Try.ntmps73
 go_wp2_with (first | (go_at_call 88;refine (sa.qBo L1.out.blk 1 (a:Int) HL0.out HL1.out (by omega)).mono ?_;rintro e_ w3 ⟨rfl,hx⟩;have L3:=zA (L1.out.fr (hx▸sa.Fr.set _ _ _ _) (hx▸L1.out.blk.set2 _));have HX3:=zA hx;clear hx;clear h0 h1 h2 f1 f2 hx0 fr_;have h0:=L3.out.blk.c0;have h1:=L3.out.blk.c1;have h2:=L3.out.blk.c2;have f1:=L3.out.blk.fz 1;have f2:=L3.out.blk.fz 2;have hx0:=L3.out.byt;have fr_:=qAC L3.out.res 0) | ((with_reducible refine qAW (p:=48) rfl ?_);go_must (refine qAn ?hg (t:=3) (p:=48) (v:=.tmp 46) (w1:=w3.setCell ⟨g,1,none⟩ (.int .i64 (wrap64 ((a:Int)+1)))) ?ho ?hN ?hr ?_);(case ho=>rfl);(case hN=>rfl);(case hg=>rfl);(case hr=>first | (go_simp;done) | (go_simp;rfl));intro w4 e4;rw [hwr.out] at e4;have L4:=zA (L3.out.fr (e4▸sa.Fr.set _ _ _ _) (e4▸L3.out.blk.set1 _));have HX4:=zA e4;clear e4;have HFW:=zA (HF4.out _ (HX4.out.trans (by rw [HX3.out])));clear h0 h1 h2 f1 f2 hx0 fr_;have h0:=L4.out.blk.c0;have h1:=L4.out.blk.c1;have h2:=L4.out.blk.c2;have f1:=L4.out.blk.fz 1;have f2:=L4.out.blk.fz 2;have hx0:=L4.out.byt;have fr_:=qAC L4.out.res 0) | ((with_reducible refine qAW (p:=10) rfl ?_);refine sa.qAo rfl rfl 10 _ rfl w4.heap.size rfl (.int .i64 4) (.int .i64 0) (.string ⟨#[]⟩) (.slice none 0 0) (.slice none 0 0) rfl (fun q hq=>by simp at hq;rcases hq with rfl | rfl | rfl | rfl | rfl <;> rfl) _ rfl (by simpa using heap_alloc_new w4 _) ?_;intro w5 hres hgr;have HB5:=zA (sa.qCA hgr);have L5:=zA (L4.out.below HB5.out);have hv:w.heap.size < w4.heap.size:=by { rw [HX4.out,HX3.out,Deep.nblk_setCell,Deep.nblk_setCell,Deep.nblk_alloc];exact Nat.lt_succ_self _ };have Q5:=zA (show sa.LQ w0 w w5 g (some ad) bs.length c w4.heap.size ((a:Int)+1) (l - 1) 4 (.slice none 0 0) (.slice none 0 0) [] [] from ⟨L5.out.blk,HFW.out.1.trans (sa.Fr.of_below HB5.out),qAY HFW.out.2 HFW.out.2.size HB5.out,hres,L5.out.res,Kd.qA7 _ _ _ _ _,Kd.qA7 _ _ _ _ _,hv,HGL.out,HGG.out⟩);clear hres hgr hv;clear h0 h1 h2 f1 f2 hx0 fr_;have h0:=L5.out.blk.c0;have h1:=L5.out.blk.c1;have h2:=L5.out.blk.c2;have f1:=L5.out.blk.fz 1;have f2:=L5.out.blk.fz 2;have hx0:=L5.out.byt;have fr_:=qAC L5.out.res 0) | (go_at_call 90;refine (HCN.out _ Q5.out.bel Q5.out.blk (sa.qBK HC.out HB.out Q5.out.fr)).mono ?_;rintro e_ w6 ⟨rfl,hx⟩;have Q6:=zA (Q5.out.step hx);clear hx;clear h0 h1 h2 f1 f2 hx0 fr_))
 generalize w4.heap.size=vb at *
 go_loopw [115] (fun v115 wr=>∃ (j:Nat) (acc:List S34) (v3:Value) (a' l':Int),v115=.int .i64 (j:Int)∧qAA (sa.arrL f (n - j) acc a' l'=T∧acc.length=j∧j≤n∧(0≤a'∧a'≤bs.length∧0≤l'∧l'≤2048))∧qAA (sa.LQ w0 w wr g (some ad) bs.length c vb a' l' 4 v3 (.slice none 0 0) acc [])) (fun v115 _=>n - (intOf v115).toNat)
 case atStart=>exact ⟨0,[],_,_,_,rfl,HP0,Q6⟩
 case round =>
  clear Q6 Q5 HP0 HB5 L5
  obtain ⟨j,acc,v3,a',l',rfl,HP,HL⟩:=hrel
  by_cases hlt:j < n
  ·have i1:decide ((j:Int) < (n:Int))=true:=zT (by omega)
   have i2:decide (j < n)=true:=zT hlt
   have i3:(j < n)=True:=eq_true hlt
   have HWR:=zA (show wrap64 ((j:Int)+1)=(j:Int)+1 by have:=HN2.out;unfold wrap64;omega)
   have HM:=zA (sa.meas j n hlt HWR.out)
   have hq:n - j=(n - (j+1))+1:=by omega
   have HQ:=zA hq
   have HJ:=zA (show j+1≤n by omega)
   clear hlt hq
   go_wp2
   refine qAz (n:=10) (S:=fun w'=>w'.cell? ⟨vb,3,none⟩=some v3) (ds:=[9]) #[qF,qF,qF,qF,qF,qF,qF,qF,qF,qF] (by kernel_rfl) rfl rfl ((qAB (HL.out.below (qAK (Below.refl _ _))).box 3).trans rfl) (fun hHeld => ?_)
   generalize hwd:wr.drew=wd at hHeld ⊢
   have QD:=zA (hwd▸HL.out.below (qAK (Below.refl _ _)))
   clear hwd
   refine pU 0 117 ?_
   refine pU 2 119 ?_
   refine pU 3 120 ?_
   refine pU 4 121 ?_
   refine tK 1 118 hHeld ?_
   refine one_ (i:=5) (N:=some 122) #[qT,qT,qT,qT,qT,qT,qF,qF,qF,qF] rfl rfl (by kernel_rfl) (by decide) (fun K hK => ?_)
   refine sa.goesT Try.func73 (by kernel_rfl) rfl #[.pointer (some ⟨g,0,none⟩),.int .i64 (wrap64 (within+1))] (by rfl) rfl rfl (by (try simp only [List.map_toArray,List.map_cons,List.map_nil]);first | done | rfl) ?_
   refine (HIH.out _ _ _ QD.out.bel QD.out.blk (sa.qBK HC.out HB.out QD.out.fr) HP.out.2.2.2.1 HP.out.2.2.2.2.1 HP.out.2.2.2.2.2.1 HP.out.2.2.2.2.2.2).mono ?_
   rintro e w7 hgot
   have hrem:=HP.out.1
   rw [HQ.out] at hrem
   unfold sa.arrL at hrem
   rcases hfa:f a' l' with ⟨x,a2,l2⟩ | ⟨ee,pp⟩
   rotate_left
   ·rw [hfa] at hgot hrem
    subst hrem
    exact Or.inr ⟨_,hgot.1,rfl,rfl,QD.out.fr.trans hgot.2.fr,hgot.2.bel⟩
   rw [hfa] at hgot hrem
   obtain ⟨⟨u3,u4,rfl,hr3,hr4⟩,hnx⟩:=hgot
   refine Or.inl ⟨_,rfl, ?_⟩
   have HREM:=zA hrem
   have HFA:=zA hfa
   have Q7:=zA (QD.out.step hnx)
   have R3_:=zA hr3
   have R4_:=zA hr4
   have HSZ:=zA (show wd.heap.size≤w7.heap.size from hnx.fr.1)
   clear hrem hfa hnx hr3 hr4
   refine hK.out _ _ ((qAB Q7.out.box 3).trans rfl) (fun hHeld => ?_)
   clear hK K
   refine qA3 (a' := ?_) ?_ ?_
   rotate_left
   ·show Act.put _ (some 122) _=_
    simp only [Act.put,qs1,qs2,qs3,qAZ,qAb]
    rfl
   refine one_ (i:=6) (N:=some 123) #[qT,qT,qT,qT,qT,qT,qT,qF,qF,qF] rfl rfl (by kernel_rfl) (by decide) (fun K hK => ?_)
   refine qCL (w1 := ?_) (v := ?_) (by rfl) rfl ?_ ?_
   rotate_left 2
   ·go_simp
    constructor
    ·rfl
    ·rfl
   refine hK.out _ _ ((qAB (qAP Q7.out.box _) 3).trans rfl) (fun hHeld => ?_)
   clear hK K
   refine qA3 (a' := ?_) ?_ ?_
   rotate_left
   ·show Act.put _ (some 123) _=_
    simp only [Act.put,qs1,qs2,qs3,qAZ,qAb]
    rfl
   refine one_ (i:=7) (N:=some 124) #[qT,qT,qT,qT,qT,qT,qT,qT,qF,qF] rfl rfl (by kernel_rfl) (by decide) (fun K hK => ?_)
   refine Kd.qBO k34 (w0:=w0) w0.heap.size (by rfl) (.tmp 118) (.tmp 123) 31 34 (.agg #[(.int .i64 0),(.int .i64 0),(.string ⟨#[]⟩),(.slice none 0 0),(.slice none 0 0)]) 80 rfl Try.underlying31 info34 rfl (by decide) (by omega) v3 acc x [.int .i64 x.f0,.int .i64 x.f1,.string x.f2,u3,u4] (fun k=>vb < k∧some k ≠ (.slice none 0 0:Value).ownBlock) (fun k=>wd.heap.size≤k) rfl rfl ?aP ?aK ?aF ?aO ?aB ?aS ?aL ?_
   (case aP=>exact k34_mkM _ _ _ x R3_.out R4_.out)
   (case aK=>exact fun k hk=>⟨⟨Nat.lt_of_lt_of_le QD.out.lt hk,fun e=>absurd (Kd.R_lt QD.out.keys k e.symm) (by omega)⟩,fun e=>absurd (Kd.R_lt QD.out.row k e.symm) (by omega)⟩)
   (case aF=>exact fun k hk=>⟨Nat.lt_of_lt_of_le Q7.out.lt hk,fun e=>absurd (Kd.R_lt Q7.out.keys k e.symm) (by omega)⟩)
   (case aO=>exact Q7.out.row)
   (case aB=>exact Q7.out.bel)
   (case aS=>exact Q7.out.bel.size)
   (case aL=>have e1:=HP.out.2.1;have e2:=HJ.out;have e3:=HN2.out;omega)
   intro v5 w8_ ho hb hg2 hat
   obtain ⟨A5,c5,e5⟩:=Kd.qA0 ho
   subst e5
   have Q9:=zA (Q7.out.app3 ho hb hg2)
   have B8:=zA (qA1 Q7.out.box hg2 (fun e=>absurd (Q7.out.row.1 vb e.symm).1 (Nat.lt_irrefl _)))
   have fv8:=qAC B8.out 3
   clear ho hb hg2 hat
   refine hK.out _ _ ((qAB B8.out 3).trans rfl) (fun hHeld => ?_)
   clear hK K
   refine qA3 (a' := ?_) ?_ ?_
   rotate_left
   ·show Act.put _ (some 124) _=_
    simp only [Act.put,qs1,qs2,qs3,qAZ,qAb]
    rfl
   refine pU 8 125 ?_
   refine last_ (i:=9) (N:=none) #[qT,qT,qT,qT,qT,qT,qT,qT,qT,qT] rfl rfl (by kernel_rfl) (by decide) (fun K hK => ?_)
   refine skip_ (w1 := ?_) (by rfl) rfl ?_ ?_
   rotate_left
   ·go_simp
    rfl
   refine hK.out _ _ ?_
   clear hK K
   refine qBL (by kernel_rfl) ?_
   go_wp2
   rw [show (acc ++ [x]).length=acc.length+1 from by simp] at Q9
   go_roundw
   case rel=>exact ⟨j+1,acc ++ [x],_,a2,l2,by rw [HWR.out];rfl,⟨HREM.out,by rw [List.length_append,HP.out.2.1];rfl,HJ.out,HFB.out _ _ _ _ _ HP.out.2.2.2.1 HP.out.2.2.2.2.1 HP.out.2.2.2.2.2.1 HP.out.2.2.2.2.2.2 HFA.out⟩,Q9⟩
   case measure=>exact HM.out
  ·have i1:decide ((j:Int) < (n:Int))=false:=zF (by omega)
   have i2:decide (j < n)=false:=zF hlt
   have i3:(j < n)=False:=eq_false hlt
   have hjn:n - j=0:=by omega
   have hT:=HP.out.1
   rw [hjn] at hT
   have hT2:T=.ok acc a' l':=hT.symm
   subst hT2
   clear hT hjn hlt
   have hz0:wr.cell? ⟨vb,0,none⟩=some (.int .i64 4):=(qAB HL.out.box 0).trans rfl
   have hz1:wr.cell? ⟨vb,1,none⟩=some (.int .i64 0):=(qAB HL.out.box 1).trans rfl
   have hz2:wr.cell? ⟨vb,2,none⟩=some (.string ⟨#[]⟩):=(qAB HL.out.box 2).trans rfl
   have hz3:wr.cell? ⟨vb,3,none⟩=some v3:=(qAB HL.out.box 3).trans rfl
   have hz4:wr.cell? ⟨vb,4,none⟩=some (.slice none 0 0):=(qAB HL.out.box 4).trans rfl
   have hv1:v3.oneCell'=true:=by obtain ⟨A_,c_,e_⟩:=Kd.qA0 HL.out.row;subst e_;rfl
   go_wp2_with (first | ((with_reducible refine qAW (p:=4) rfl ?_);refine sa.qAo rfl rfl 4 _ rfl w.heap.size rfl (.int .i64 4) (.int .i64 0) (.string ⟨#[]⟩) v3 (.slice none 0 0) rfl (fun q hq=>by simp at hq;rcases hq with rfl | rfl | rfl | rfl | rfl <;> first | rfl | exact hv1) _ rfl HL.out.res ?_;intro w5 hres hgr;have HRES:=zA hres;have HGR:=zA hgr;clear hgr hres))
   go_wp2
   refine bodyPost_ret (results_cell_row rfl _ _ w.heap.size 34 _ (0,0) _ rfl HRES.out Try.underlying34 rfl (by kernel_rfl)) rfl ?_
   have e1:=HL.out.hgl;have e2:=HL.out.hvb
   exact ⟨⟨_,_,rfl,Kd.qBi (Kd.qB2 HL.out.row HGR.out (fun k hk e=>by have:=Option.some.inj e;have:=hk.1;omega)) (fun k hk=>by have:=hk.1;omega),Kd.qA7 _ _ _ _ _⟩,sa.fin_nx HL.out.fr HL.out.blk (by omega) HGR.out (Nat.le_refl _) HBB.out.size HL.out.bel⟩
theorem sa.val_t6 {bs:List Int} {u i:Int→Int × Int × Int} (hU:sa.Uin bs u i) {w0 w:World} {g:Nat} {A:Option Addr} {c:Nat} {a l:Int} (hb:Below w0.heap.size w0 w) (hg:w0.heap.size≤g) (hB:sa.Blk w g A bs.length c a l) (hC:(Kd.int .u8).C w A bs.length bs) (hc:bs.length≤c) (within:Int) (hw:(within == 8)=false) (ha0:0≤a) (ha1:a < (bs.length:Int)) (hl0:1≤l) (hl1:l≤2048) (ht:rd bs a=6) (he:(u (a+1)).2.2=0) (hn:(u (a+1)).1≤(l - 1) / 2) (hwi:0≤within∧within≤8) (f:Int→Int→sa.R3 S34) (hfb:∀ (a l:Int) (x:S34) (a2 l2:Int),0≤a→a≤(bs.length:Int)→0≤l→l≤2048→f a l=.ok x a2 l2→0≤a2∧a2≤(bs.length:Int)∧0≤l2∧l2≤2048) (IH:∀ (W:World) (a l:Int),Below w0.heap.size w0 W→sa.Blk W g A bs.length c a l→(Kd.int .u8).C W A bs.length bs→0≤a→a≤bs.length→0≤l→l≤2048→Calls Try.prog 73 #[.pointer (some ⟨g,0,none⟩),.int .i64 (within+1)] W (sa.GotV (f a l) w0 W g A bs.length c)) :
  Calls Try.prog 73 #[.pointer (some ⟨g,0,none⟩),.int .i64 within] w (sa.GotV (sa.recV (sa.recL bs u f (u (a+1)).1.toNat [] [] (u (a+1)).2.1 (l - 1))) w0 w g A bs.length c):=by
 have HB:=zA hB
 have HC:=zA hC
 have HCC:=zA hc
 have HBB:=zA hb
 have HGG:=zA hg
 have HLL:=zA hU.L
 have HUU:=zA hU
 have hgl:g < w.heap.size:=qAe hB
 have hu25:=Try.underlying34
 obtain ⟨a,rfl⟩:=Int.eq_ofNat_of_zero_le ha0
 have t0:((a:Int) == (bs.length:Int))=false:=beq_eq_false_iff_ne.2 (by omega)
 have t1:(a=bs.length)=False:=eq_false (by omega)
 have t2:decide (a=bs.length)=false:=zF (by omega)
 have t3:(a:Int) < (bs.length:Int):=ha1
 have t4:a < bs.length:=by omega
 have t5:decide (a < bs.length)=true:=zT t4
 have hwr:=zA (show wrap64 ((a:Int)+1)=(a:Int)+1 by have:=hU.L;unfold wrap64;omega)
 have HL0:=zA hl0
 have HL1:=zA hl1
 obtain ⟨ad,hA,hx0⟩:=Kd.qBQ hC (a:Int) (by omega) ha1
 subst hA
 rw [Int.toNat_natCast,ht] at hx0
 have HBW:=zA ((Below.refl w.heap.size w).alloc (Nat.le_refl _) (.cells #[.int .i64 0,.int .i64 0,.string ⟨#[]⟩,.slice none 0 0,.slice none 0 0] 34))
 have L1:=zA (show sa.Ly (w.alloc (.cells #[.int .i64 0,.int .i64 0,.string ⟨#[]⟩,.slice none 0 0,.slice none 0 0] 34)) g (some ad) bs.length c (a:Int) l (ad.add a) 6 w.heap.size #[.int .i64 0,.int .i64 0,.string ⟨#[]⟩,.slice none 0 0,.slice none 0 0] from ⟨HB.out.below HBW.out,(HBW.out.cell (qs4 w _ hx0)).trans hx0,by simpa using heap_alloc_new w _⟩)
 clear hx0
 have h0:=L1.out.blk.c0;have h1:=L1.out.blk.c1;have h2:=L1.out.blk.c2;have f1:=L1.out.blk.fz 1;have f2:=L1.out.blk.fz 2;have hx0:=L1.out.byt;have fr_:=qAC L1.out.res 0
 have HF4:∀ W4,W4=((w.alloc (.cells #[.int .i64 0,.int .i64 0,.string ⟨#[]⟩,.slice none 0 0,.slice none 0 0] 34)).setCell ⟨g,2,none⟩ (.int .i64 (l - 1))).setCell ⟨g,1,none⟩ (.int .i64 ((a:Int)+1))→sa.Fr g w W4∧Below w0.heap.size w0 W4:=by
  rintro _ rfl
  exact ⟨((sa.Fr.of_below HBW.out).trans (sa.Fr.set _ _ _ _)).trans (sa.Fr.set _ _ _ _),((HBB.out.alloc HBB.out.size _).setCell hg _).setCell hg _⟩
 have HF4:=zA HF4
 have hs0:wrap64 ((a:Int)+1)=(a:Int)+1:=hwr.out
 have HCN:=zA (fun (W:World) (x1:Below w0.heap.size w0 W) (x2:sa.Blk W g (some ad) bs.length c ((a:Int)+1) (l - 1)) (x3:(Kd.int .u8).C W (some ad) bs.length bs)=>sa.countY hU x1 hg x2 x3 hc (a:Int) 2 he (by omega) (by omega) (by omega) (by omega) hn)
 have hrR:=hU.R ((a:Int)+1)
 have hrN:=hU.N ((a:Int)+1) he
 obtain ⟨r1,r2,r3,hr⟩:∃ r1 r2 r3,u ((a:Int)+1)=(r1,r2,r3):=⟨_,_,_,rfl⟩
 rw [hr] at HCN hn hrR hrN ⊢
 dsimp only at HCN hn hrR hrN ⊢
 have HGL:=zA hgl
 have hr2:0≤r2∧r2≤bs.length:=⟨Int.le_of_lt (Int.lt_of_le_of_lt hrN.1 hrN.2.1),hrN.2.2⟩
 have hr1:0≤r1:=hrR.1
 obtain ⟨n,rfl⟩:=Int.eq_ofNat_of_zero_le hr1
 have hn2:n≤2048:=by have:=Int.ediv_mul_le (l - 1) (show (2:Int) ≠ 0 by omega);omega
 have HN2:=zA hn2
 have hwi2:wrap64 (within+1)=within+1:=by unfold wrap64;omega
 rw [← hwi2] at IH
 clear hwi2
 have HIH:=zA IH
 have HFB:=zA hfb
 rw [Int.toNat_natCast]
 obtain ⟨T,hT⟩:∃ T,sa.recL bs u f n [] [] r2 (l - 1)=T:=⟨_,rfl⟩
 rw [hT]
 have HP0:=zA (show sa.recL bs u f (n - 0) [] [] r2 (l - 1)=T∧(([]:List S34).length=0∧([]:List ByteArray).length=0)∧0≤n∧(0≤r2∧r2≤bs.length∧0≤l - 1∧l - 1≤2048) from ⟨hT,⟨rfl,rfl⟩,Nat.zero_le _,by omega⟩)
 clear hn hrR hrN he hr hr2 hr1 hT hn2 IH hfb hwi
 clear hU hb hg hB hC hc ha1 hl0 hl1 ha0 hgl
 go_enter Try.func73,Try.ntmps73
 go_wp2_with (first | (go_at_call 88;refine (sa.qBo L1.out.blk 1 (a:Int) HL0.out HL1.out (by omega)).mono ?_;rintro e_ w3 ⟨rfl,hx⟩;have L3:=zA (L1.out.fr (hx▸sa.Fr.set _ _ _ _) (hx▸L1.out.blk.set2 _));have HX3:=zA hx;clear hx;clear h0 h1 h2 f1 f2 hx0 fr_;have h0:=L3.out.blk.c0;have h1:=L3.out.blk.c1;have h2:=L3.out.blk.c2;have f1:=L3.out.blk.fz 1;have f2:=L3.out.blk.fz 2;have hx0:=L3.out.byt;have fr_:=qAC L3.out.res 0) | ((with_reducible refine qAW (p:=48) rfl ?_);go_must (refine qAn ?hg (t:=3) (p:=48) (v:=.tmp 46) (w1:=w3.setCell ⟨g,1,none⟩ (.int .i64 (wrap64 ((a:Int)+1)))) ?ho ?hN ?hr ?_);(case ho=>rfl);(case hN=>rfl);(case hg=>rfl);(case hr=>first | (go_simp;done) | (go_simp;rfl));intro w4 e4;rw [hwr.out] at e4;have L4:=zA (L3.out.fr (e4▸sa.Fr.set _ _ _ _) (e4▸L3.out.blk.set1 _));have HX4:=zA e4;clear e4;have HFW:=zA (HF4.out _ (HX4.out.trans (by rw [HX3.out])));clear h0 h1 h2 f1 f2 hx0 fr_;have h0:=L4.out.blk.c0;have h1:=L4.out.blk.c1;have h2:=L4.out.blk.c2;have f1:=L4.out.blk.fz 1;have f2:=L4.out.blk.fz 2;have hx0:=L4.out.byt;have fr_:=qAC L4.out.res 0) | ((with_reducible refine qAW (p:=11) rfl ?_);refine sa.qAo rfl rfl 11 _ rfl w4.heap.size rfl (.int .i64 5) (.int .i64 0) (.string ⟨#[]⟩) (.slice none 0 0) (.slice none 0 0) rfl (fun q hq=>by simp at hq;rcases hq with rfl | rfl | rfl | rfl | rfl <;> rfl) _ rfl (by simpa using heap_alloc_new w4 _) ?_;intro w5 hres hgr;have HB5:=zA (sa.qCA hgr);have L5:=zA (L4.out.below HB5.out);have hv:w.heap.size < w4.heap.size:=by { rw [HX4.out,HX3.out,Deep.nblk_setCell,Deep.nblk_setCell,Deep.nblk_alloc];exact Nat.lt_succ_self _ };have Q5:=zA (show sa.LQ w0 w w5 g (some ad) bs.length c w4.heap.size ((a:Int)+1) (l - 1) 5 (.slice none 0 0) (.slice none 0 0) [] [] from ⟨L5.out.blk,HFW.out.1.trans (sa.Fr.of_below HB5.out),qAY HFW.out.2 HFW.out.2.size HB5.out,hres,L5.out.res,Kd.qA7 _ _ _ _ _,Kd.qA7 _ _ _ _ _,hv,HGL.out,HGG.out⟩);clear hres hgr hv;clear h0 h1 h2 f1 f2 hx0 fr_;have h0:=L5.out.blk.c0;have h1:=L5.out.blk.c1;have h2:=L5.out.blk.c2;have f1:=L5.out.blk.fz 1;have f2:=L5.out.blk.fz 2;have hx0:=L5.out.byt;have fr_:=qAC L5.out.res 0) | (go_at_call 90;refine (HCN.out _ Q5.out.bel Q5.out.blk (sa.qBK HC.out HB.out Q5.out.fr)).mono ?_;rintro e_ w6 ⟨rfl,hx⟩;have Q6:=zA (Q5.out.step hx);clear hx;clear h0 h1 h2 f1 f2 hx0 fr_))
 generalize w4.heap.size=vb at *
 go_loopw [134] (fun v134 wr=>∃ (j:Nat) (acc:List S34) (ks:List ByteArray) (v3 v4:Value) (a' l':Int),v134=.int .i64 (j:Int)∧qAA (sa.recL bs u f (n - j) ks acc a' l'=T∧(acc.length=j∧ks.length=j)∧j≤n∧(0≤a'∧a'≤bs.length∧0≤l'∧l'≤2048))∧qAA (sa.LQ w0 w wr g (some ad) bs.length c vb a' l' 5 v3 v4 acc ks)) (fun v134 _=>n - (intOf v134).toNat)
 case atStart=>exact ⟨0,[],[],_,_,_,_,rfl,HP0,Q6⟩
 case round =>
  clear Q6 Q5 HP0 HB5 L5
  obtain ⟨j,acc,ks,v3,v4,a',l',rfl,HP,HL⟩:=hrel
  obtain ⟨A4,c4,e4⟩:=Kd.qA0 HL.out.keys
  subst e4
  by_cases hlt:j < n
  ·have i1:decide ((j:Int) < (n:Int))=true:=zT (by omega)
   have i2:decide (j < n)=true:=zT hlt
   have i3:(j < n)=True:=eq_true hlt
   have HWR:=zA (show wrap64 ((j:Int)+1)=(j:Int)+1 by have:=HN2.out;unfold wrap64;omega)
   have HM:=zA (sa.meas j n hlt HWR.out)
   have hq:n - j=(n - (j+1))+1:=by omega
   have HQ:=zA hq
   have HJ:=zA (show j+1≤n by omega)
   clear hlt hq
   go_wp2
   refine qAz (n:=10) (S:=fun w'=>w'.cell? ⟨vb,4,none⟩=some (.slice A4 ks.length c4)) (ds:=[9]) #[qF,qF,qF,qF,qF,qF,qF,qF,qF,qF] (by kernel_rfl) rfl rfl ((qAB (HL.out.below (qAK (Below.refl _ _))).box 4).trans rfl) (fun hHeld => ?_)
   generalize hwd:wr.drew=wd at hHeld ⊢
   have QD:=zA (hwd▸HL.out.below (qAK (Below.refl _ _)))
   clear hwd
   refine pU 0 136 ?_
   refine pU 2 138 ?_
   refine pU 3 139 ?_
   refine tK 1 137 hHeld ?_
   refine tK 4 140 hHeld ?_
   refine one_ (i:=5) (N:=some 141) #[qT,qT,qT,qT,qT,qT,qF,qF,qF,qF] rfl rfl (by kernel_rfl) (by decide) (fun K hK => ?_)
   refine sa.goesT Try.func92 (by kernel_rfl) rfl #[.pointer (some ⟨g,0,none⟩),.slice A4 ks.length c4] (by rfl) rfl rfl (by (try simp only [List.map_toArray,List.map_cons,List.map_nil]);first | done | rfl) ?_
   refine (sa.key1 HUU.out QD.out.bel HGG.out QD.out.blk (sa.qBK HC.out HB.out QD.out.fr) HCC.out A4 c4 ks (Kd.R_reads' QD.out.keys).2.2 HP.out.2.2.2.2.2.1 HP.out.2.2.2.2.2.2 (Kd.R_reads' QD.out.keys).2.1 (by have e1:=HP.out.2.1.2;have e2:=HP.out.2.2.1;have e3:=HN2.out;omega)).mono ?_
   rintro e w7 hgot
   have hrem:=HP.out.1
   rw [HQ.out] at hrem
   unfold sa.recL at hrem
   rcases hka:sa.keyS bs u ks a' l' with ⟨kk,ak,lk⟩ | ⟨ee,pp⟩
   rotate_left
   ·rw [hka] at hgot hrem
    subst hrem
    exact Or.inr ⟨_,hgot.1,rfl,rfl,QD.out.fr.trans hgot.2.fr,hgot.2.bel⟩
   rw [hka] at hgot hrem
   obtain ⟨rfl,hnx⟩:=hgot
   refine Or.inl ⟨_,rfl, ?_⟩
   have HREM1:=zA hrem
   have HBK:=zA (sa.keyS_b HUU.out HP.out.2.2.2.2.2 hka)
   have Q7:=zA (QD.out.step hnx)
   clear hrem hka hnx
   refine hK.out _ _ ((qAB Q7.out.box 4).trans rfl) (fun hHeld => ?_)
   clear hK K
   refine qA3 (a' := ?_) ?_ ?_
   rotate_left
   ·show Act.put _ (some 141) _=_
    simp only [Act.put,qs1,qs2,qs3,qAZ,qAb]
    rfl
   refine one_ (i:=6) (N:=some 142) #[qT,qT,qT,qT,qT,qT,qT,qF,qF,qF] rfl rfl (by kernel_rfl) (by decide) (fun K hK => ?_)
   refine qCL (w1 := ?_) (v := ?_) (by rfl) rfl ?_ ?_
   rotate_left 2
   ·go_simp
    constructor
    ·rfl
    ·rfl
   refine hK.out _ _ ((qAB (qAP Q7.out.box _) 4).trans rfl) (fun hHeld => ?_)
   clear hK K
   refine qA3 (a' := ?_) ?_ ?_
   rotate_left
   ·show Act.put _ (some 142) _=_
    simp only [Act.put,qs1,qs2,qs3,qAZ,qAb]
    rfl
   refine one_ (i:=7) (N:=some 143) #[qT,qT,qT,qT,qT,qT,qT,qT,qF,qF] rfl rfl (by kernel_rfl) (by decide) (fun K hK => ?_)
   refine Kd.qBO Kd.string (w0:=w0) w0.heap.size (by rfl) (.tmp 137) (.tmp 142) 32 9 (.string ⟨#[]⟩) 16 rfl Try.underlying32 info9 rfl (by decide) (by omega) (.slice A4 ks.length c4) ks kk [.string kk] (fun k=>vb < k) (fun _=>False) rfl rfl rfl (fun _ h=>h.elim) ?aF ?aO ?aB ?aS ?aL ?_
   (case aF=>exact fun k hk=>Nat.lt_of_lt_of_le Q7.out.lt hk)
   (case aO=>exact Q7.out.keys)
   (case aB=>exact Q7.out.bel)
   (case aS=>exact Q7.out.bel.size)
   (case aL=>have e1:=HP.out.2.1;have e2:=HJ.out;have e3:=HN2.out;omega)
   intro v6 w8 ho hb hg2 hat
   obtain ⟨A6,c6,e6⟩:=Kd.qA0 ho
   subst e6
   have Q8:=zA (Q7.out.app4 ho hb hg2 hat)
   have B8_:=zA (qA1 Q7.out.box hg2 (fun e=>absurd (Q7.out.keys.1 vb e.symm) (Nat.lt_irrefl _)))
   have fv8_:=qAC B8_.out 4
   clear ho hb hg2 hat Q7 QD
   refine hK.out _ _ ((qAB B8_.out 4).trans rfl) (fun hHeld => ?_)
   clear hK K
   refine qA3 (a' := ?_) ?_ ?_
   rotate_left
   ·show Act.put _ (some 143) _=_
    simp only [Act.put,qs1,qs2,qs3,qAZ,qAb]
    rfl
   refine pU 8 144 ?_
   refine last_ (i:=9) (N:=none) #[qT,qT,qT,qT,qT,qT,qT,qT,qT,qT] rfl rfl (by kernel_rfl) (by decide) (fun K hK => ?_)
   refine skip_ (w1 := ?_) (by rfl) rfl ?_ ?_
   rotate_left
   ·go_simp
    rfl
   refine hK.out _ _ ?_
   clear hK K
   refine qBL (by kernel_rfl) ?_
   rw [show (ks ++ [kk]).length=ks.length+1 from by simp] at Q8
   generalize hw9:w8.setCell ⟨vb,4,none⟩ (.slice A6 (ks.length+1) c6)=w9 at Q8 ⊢
   clear hw9
   go_wp2
   refine qAz (n:=10) (S:=fun w'=>w'.cell? ⟨vb,3,none⟩=some v3) (ds:=[9]) #[qF,qF,qF,qF,qF,qF,qF,qF,qF,qF] (by kernel_rfl) rfl rfl ((qAB (Q8.out.below (qAK (Below.refl _ _))).box 3).trans rfl) (fun hHeld => ?_)
   generalize hwd:w9.drew=wd at hHeld ⊢
   have QD:=zA (hwd▸Q8.out.below (qAK (Below.refl _ _)))
   clear hwd
   refine pU 0 145 ?_
   refine pU 2 147 ?_
   refine pU 3 148 ?_
   refine pU 4 149 ?_
   refine tK 1 146 hHeld ?_
   refine one_ (i:=5) (N:=some 150) #[qT,qT,qT,qT,qT,qT,qF,qF,qF,qF] rfl rfl (by kernel_rfl) (by decide) (fun K hK => ?_)
   refine sa.goesT Try.func73 (by kernel_rfl) rfl #[.pointer (some ⟨g,0,none⟩),.int .i64 (wrap64 (within+1))] (by rfl) rfl rfl (by (try simp only [List.map_toArray,List.map_cons,List.map_nil]);first | done | rfl) ?_
   refine (HIH.out _ _ _ QD.out.bel QD.out.blk (sa.qBK HC.out HB.out QD.out.fr) HBK.out.1 HBK.out.2.1 HBK.out.2.2.1 HBK.out.2.2.2).mono ?_
   rintro e w7 hgot
   have hrem:=HREM1.out
   rcases hfa:f ak lk with ⟨x,a2,l2⟩ | ⟨ee,pp⟩
   rotate_left
   ·rw [hfa] at hgot hrem
    subst hrem
    exact Or.inr ⟨_,hgot.1,rfl,rfl,QD.out.fr.trans hgot.2.fr,hgot.2.bel⟩
   rw [hfa] at hgot hrem
   obtain ⟨⟨u3,u4,rfl,hr3,hr4⟩,hnx⟩:=hgot
   refine Or.inl ⟨_,rfl, ?_⟩
   have HREM:=zA hrem
   have HFA:=zA hfa
   have Q7:=zA (QD.out.step hnx)
   have R3_:=zA hr3
   have R4_:=zA hr4
   have HSZ:=zA (show wd.heap.size≤w7.heap.size from hnx.fr.1)
   clear hrem hfa hnx hr3 hr4
   refine hK.out _ _ ((qAB Q7.out.box 3).trans rfl) (fun hHeld => ?_)
   clear hK K
   refine qA3 (a' := ?_) ?_ ?_
   rotate_left
   ·show Act.put _ (some 150) _=_
    simp only [Act.put,qs1,qs2,qs3,qAZ,qAb]
    rfl
   refine one_ (i:=6) (N:=some 151) #[qT,qT,qT,qT,qT,qT,qT,qF,qF,qF] rfl rfl (by kernel_rfl) (by decide) (fun K hK => ?_)
   refine qCL (w1 := ?_) (v := ?_) (by rfl) rfl ?_ ?_
   rotate_left 2
   ·go_simp
    constructor
    ·rfl
    ·rfl
   refine hK.out _ _ ((qAB (qAP Q7.out.box _) 3).trans rfl) (fun hHeld => ?_)
   clear hK K
   refine qA3 (a' := ?_) ?_ ?_
   rotate_left
   ·show Act.put _ (some 151) _=_
    simp only [Act.put,qs1,qs2,qs3,qAZ,qAb]
    rfl
   refine one_ (i:=7) (N:=some 152) #[qT,qT,qT,qT,qT,qT,qT,qT,qF,qF] rfl rfl (by kernel_rfl) (by decide) (fun K hK => ?_)
   refine Kd.qBO k34 (w0:=w0) w0.heap.size (by rfl) (.tmp 146) (.tmp 151) 31 34 (.agg #[(.int .i64 0),(.int .i64 0),(.string ⟨#[]⟩),(.slice none 0 0),(.slice none 0 0)]) 80 rfl Try.underlying31 info34 rfl (by decide) (by omega) v3 acc x [.int .i64 x.f0,.int .i64 x.f1,.string x.f2,u3,u4] (fun k=>vb < k∧some k ≠ (.slice A6 (ks.length+1) c6:Value).ownBlock) (fun k=>wd.heap.size≤k) rfl rfl ?aP ?aK ?aF ?aO ?aB ?aS ?aL ?_
   (case aP=>exact k34_mkM _ _ _ x R3_.out R4_.out)
   (case aK=>exact fun k hk=>⟨⟨Nat.lt_of_lt_of_le QD.out.lt hk,fun e=>absurd (Kd.R_lt QD.out.keys k e.symm) (by omega)⟩,fun e=>absurd (Kd.R_lt QD.out.row k e.symm) (by omega)⟩)
   (case aF=>exact fun k hk=>⟨Nat.lt_of_lt_of_le Q7.out.lt hk,fun e=>absurd (Kd.R_lt Q7.out.keys k e.symm) (by omega)⟩)
   (case aO=>exact Q7.out.row)
   (case aB=>exact Q7.out.bel)
   (case aS=>exact Q7.out.bel.size)
   (case aL=>have e1:=HP.out.2.1;have e2:=HJ.out;have e3:=HN2.out;omega)
   intro v5 w8_ ho hb hg2 hat
   obtain ⟨A5,c5,e5⟩:=Kd.qA0 ho
   subst e5
   have Q9:=zA (Q7.out.app3 ho hb hg2)
   have B8:=zA (qA1 Q7.out.box hg2 (fun e=>absurd (Q7.out.row.1 vb e.symm).1 (Nat.lt_irrefl _)))
   have fv8:=qAC B8.out 3
   clear ho hb hg2 hat
   refine hK.out _ _ ((qAB B8.out 3).trans rfl) (fun hHeld => ?_)
   clear hK K
   refine qA3 (a' := ?_) ?_ ?_
   rotate_left
   ·show Act.put _ (some 152) _=_
    simp only [Act.put,qs1,qs2,qs3,qAZ,qAb]
    rfl
   refine pU 8 153 ?_
   refine last_ (i:=9) (N:=none) #[qT,qT,qT,qT,qT,qT,qT,qT,qT,qT] rfl rfl (by kernel_rfl) (by decide) (fun K hK => ?_)
   refine skip_ (w1 := ?_) (by rfl) rfl ?_ ?_
   rotate_left
   ·go_simp
    rfl
   refine hK.out _ _ ?_
   clear hK K
   refine qBL (by kernel_rfl) ?_
   go_wp2
   rw [show (acc ++ [x]).length=acc.length+1 from by simp] at Q9
   go_roundw
   case rel=>exact ⟨j+1,acc ++ [x],ks ++ [kk],_,_,a2,l2,by rw [HWR.out];rfl,⟨HREM.out,⟨by rw [List.length_append,HP.out.2.1.1];rfl,by rw [List.length_append,HP.out.2.1.2];rfl⟩,HJ.out,HFB.out _ _ _ _ _ HBK.out.1 HBK.out.2.1 HBK.out.2.2.1 HBK.out.2.2.2 HFA.out⟩,Q9⟩
   case measure=>exact HM.out
  ·have i1:decide ((j:Int) < (n:Int))=false:=zF (by omega)
   have i2:decide (j < n)=false:=zF hlt
   have i3:(j < n)=False:=eq_false hlt
   have hjn:n - j=0:=by omega
   have hT:=HP.out.1
   rw [hjn] at hT
   have hT2:T=.ok (ks,acc) a' l':=hT.symm
   subst hT2
   clear hT hjn hlt
   have hz0:wr.cell? ⟨vb,0,none⟩=some (.int .i64 5):=(qAB HL.out.box 0).trans rfl
   have hz1:wr.cell? ⟨vb,1,none⟩=some (.int .i64 0):=(qAB HL.out.box 1).trans rfl
   have hz2:wr.cell? ⟨vb,2,none⟩=some (.string ⟨#[]⟩):=(qAB HL.out.box 2).trans rfl
   have hz3:wr.cell? ⟨vb,3,none⟩=some v3:=(qAB HL.out.box 3).trans rfl
   have hz4:wr.cell? ⟨vb,4,none⟩=some (.slice A4 ks.length c4):=(qAB HL.out.box 4).trans rfl
   have hv1:v3.oneCell'=true:=by obtain ⟨A_,c_,e_⟩:=Kd.qA0 HL.out.row;subst e_;rfl
   go_wp2_with (first | ((with_reducible refine qAW (p:=4) rfl ?_);refine sa.qAo rfl rfl 4 _ rfl w.heap.size rfl (.int .i64 5) (.int .i64 0) (.string ⟨#[]⟩) v3 (.slice A4 ks.length c4) rfl (fun q hq=>by simp at hq;rcases hq with rfl | rfl | rfl | rfl | rfl <;> first | rfl | exact hv1) _ rfl HL.out.res ?_;intro w5 hres hgr;have HRES:=zA hres;have HGR:=zA hgr;clear hgr hres))
   go_wp2
   refine bodyPost_ret (results_cell_row rfl _ _ w.heap.size 34 _ (0,0) _ rfl HRES.out Try.underlying34 rfl (by kernel_rfl)) rfl ?_
   have e1:=HL.out.hgl;have e2:=HL.out.hvb
   exact ⟨⟨_,_,rfl,Kd.qBi (Kd.qB2 HL.out.row HGR.out (fun k hk e=>by have:=Option.some.inj e;have:=hk.1;omega)) (fun k hk=>by have:=hk.1;omega),Kd.qBi (Kd.qB2 HL.out.keys HGR.out (fun k hk e=>by have:=Option.some.inj e;omega)) (fun k hk=>by omega)⟩,sa.fin_nx HL.out.fr HL.out.blk (by omega) HGR.out (Nat.le_refl _) HBB.out.size HL.out.bel⟩
theorem sa.val_t5E {bs:List Int} {u i:Int→Int × Int × Int} (hU:sa.Uin bs u i) {w0 w:World} {g:Nat} {A:Option Addr} {c:Nat} {a l:Int} (hb:Below w0.heap.size w0 w) (hg:w0.heap.size≤g) (hB:sa.Blk w g A bs.length c a l) (hC:(Kd.int .u8).C w A bs.length bs) (hc:bs.length≤c) (within:Int) (hw:(within == 8)=false) (ha0:0≤a) (ha1:a < (bs.length:Int)) (hl0:1≤l) (hl1:l≤2048) (ht:rd bs a=5) (he:(u (a+1)).2.2 ≠ 0) :
  Calls Try.prog 73 #[.pointer (some ⟨g,0,none⟩),.int .i64 within] w (sa.GotV (.bad 41 (a+1)) w0 w g A bs.length c):=by
 have HB:=zA hB
 have HC:=zA hC
 have HCC:=zA hc
 have HBB:=zA hb
 have HGG:=zA hg
 have HLL:=zA hU.L
 have HUU:=zA hU
 have hgl:g < w.heap.size:=qAe hB
 have hu25:=Try.underlying34
 obtain ⟨a,rfl⟩:=Int.eq_ofNat_of_zero_le ha0
 have t0:((a:Int) == (bs.length:Int))=false:=beq_eq_false_iff_ne.2 (by omega)
 have t1:(a=bs.length)=False:=eq_false (by omega)
 have t2:decide (a=bs.length)=false:=zF (by omega)
 have t3:(a:Int) < (bs.length:Int):=ha1
 have t4:a < bs.length:=by omega
 have t5:decide (a < bs.length)=true:=zT t4
 have hwr:=zA (show wrap64 ((a:Int)+1)=(a:Int)+1 by have:=hU.L;unfold wrap64;omega)
 have HL0:=zA hl0
 have HL1:=zA hl1
 obtain ⟨ad,hA,hx0⟩:=Kd.qBQ hC (a:Int) (by omega) ha1
 subst hA
 rw [Int.toNat_natCast,ht] at hx0
 have HBW:=zA ((Below.refl w.heap.size w).alloc (Nat.le_refl _) (.cells #[.int .i64 0,.int .i64 0,.string ⟨#[]⟩,.slice none 0 0,.slice none 0 0] 34))
 have L1:=zA (show sa.Ly (w.alloc (.cells #[.int .i64 0,.int .i64 0,.string ⟨#[]⟩,.slice none 0 0,.slice none 0 0] 34)) g (some ad) bs.length c (a:Int) l (ad.add a) 5 w.heap.size #[.int .i64 0,.int .i64 0,.string ⟨#[]⟩,.slice none 0 0,.slice none 0 0] from ⟨HB.out.below HBW.out,(HBW.out.cell (qs4 w _ hx0)).trans hx0,by simpa using heap_alloc_new w _⟩)
 clear hx0
 have h0:=L1.out.blk.c0;have h1:=L1.out.blk.c1;have h2:=L1.out.blk.c2;have f1:=L1.out.blk.fz 1;have f2:=L1.out.blk.fz 2;have hx0:=L1.out.byt;have fr_:=qAC L1.out.res 0
 have HF4:∀ W4,W4=((w.alloc (.cells #[.int .i64 0,.int .i64 0,.string ⟨#[]⟩,.slice none 0 0,.slice none 0 0] 34)).setCell ⟨g,2,none⟩ (.int .i64 (l - 1))).setCell ⟨g,1,none⟩ (.int .i64 ((a:Int)+1))→sa.Fr g w W4∧Below w0.heap.size w0 W4:=by
  rintro _ rfl
  exact ⟨((sa.Fr.of_below HBW.out).trans (sa.Fr.set _ _ _ _)).trans (sa.Fr.set _ _ _ _),((HBB.out.alloc HBB.out.size _).setCell hg _).setCell hg _⟩
 have HF4:=zA HF4
 have hs0:wrap64 ((a:Int)+1)=(a:Int)+1:=hwr.out
 have HCN:=zA (fun (W:World) (x1:Below w0.heap.size w0 W) (x2:sa.Blk W g (some ad) bs.length c ((a:Int)+1) (l - 1)) (x3:(Kd.int .u8).C W (some ad) bs.length bs)=>sa.countE hU x1 hg x2 x3 hc (a:Int) 1 he)
 have HGL:=zA hgl
 clear hU hb hg hB hC hc ha1 hl0 hl1 ha0 hgl
 go_enter Try.func73,Try.ntmps73
 go_wp2_with (first | (go_at_call 88;refine (sa.qBo L1.out.blk 1 (a:Int) HL0.out HL1.out (by omega)).mono ?_;rintro e_ w3 ⟨rfl,hx⟩;have L3:=zA (L1.out.fr (hx▸sa.Fr.set _ _ _ _) (hx▸L1.out.blk.set2 _));have HX3:=zA hx;clear hx;clear h0 h1 h2 f1 f2 hx0 fr_;have h0:=L3.out.blk.c0;have h1:=L3.out.blk.c1;have h2:=L3.out.blk.c2;have f1:=L3.out.blk.fz 1;have f2:=L3.out.blk.fz 2;have hx0:=L3.out.byt;have fr_:=qAC L3.out.res 0) | ((with_reducible refine qAW (p:=48) rfl ?_);go_must (refine qAn ?hg (t:=3) (p:=48) (v:=.tmp 46) (w1:=w3.setCell ⟨g,1,none⟩ (.int .i64 (wrap64 ((a:Int)+1)))) ?ho ?hN ?hr ?_);(case ho=>rfl);(case hN=>rfl);(case hg=>rfl);(case hr=>first | (go_simp;done) | (go_simp;rfl));intro w4 e4;rw [hwr.out] at e4;have L4:=zA (L3.out.fr (e4▸sa.Fr.set _ _ _ _) (e4▸L3.out.blk.set1 _));have HX4:=zA e4;clear e4;have HFW:=zA (HF4.out _ (HX4.out.trans (by rw [HX3.out])));clear h0 h1 h2 f1 f2 hx0 fr_;have h0:=L4.out.blk.c0;have h1:=L4.out.blk.c1;have h2:=L4.out.blk.c2;have f1:=L4.out.blk.fz 1;have f2:=L4.out.blk.fz 2;have hx0:=L4.out.byt;have fr_:=qAC L4.out.res 0) | ((with_reducible refine qAW (p:=10) rfl ?_);refine sa.qAo rfl rfl 10 _ rfl w4.heap.size rfl (.int .i64 4) (.int .i64 0) (.string ⟨#[]⟩) (.slice none 0 0) (.slice none 0 0) rfl (fun q hq=>by simp at hq;rcases hq with rfl | rfl | rfl | rfl | rfl <;> rfl) _ rfl (by simpa using heap_alloc_new w4 _) ?_;intro w5 hres hgr;have HB5:=zA (sa.qCA hgr);have L5:=zA (L4.out.below HB5.out);have hv:w.heap.size < w4.heap.size:=by { rw [HX4.out,HX3.out,Deep.nblk_setCell,Deep.nblk_setCell,Deep.nblk_alloc];exact Nat.lt_succ_self _ };have Q5:=zA (show sa.LQ w0 w w5 g (some ad) bs.length c w4.heap.size ((a:Int)+1) (l - 1) 4 (.slice none 0 0) (.slice none 0 0) [] [] from ⟨L5.out.blk,HFW.out.1.trans (sa.Fr.of_below HB5.out),qAY HFW.out.2 HFW.out.2.size HB5.out,hres,L5.out.res,Kd.qA7 _ _ _ _ _,Kd.qA7 _ _ _ _ _,hv,HGL.out,HGG.out⟩);clear hres hgr hv;clear h0 h1 h2 f1 f2 hx0 fr_;have h0:=L5.out.blk.c0;have h1:=L5.out.blk.c1;have h2:=L5.out.blk.c2;have f1:=L5.out.blk.fz 1;have f2:=L5.out.blk.fz 2;have hx0:=L5.out.byt;have fr_:=qAC L5.out.res 0) | (go_at_call 90;refine (HCN.out _ Q5.out.bel Q5.out.blk (sa.qBK HC.out HB.out Q5.out.fr)).mono ?_;rintro e_ w5 ⟨rfl,hx⟩;have HX5:=zA hx;clear hx;unfold sa.flt))
 exact ⟨rfl,rfl,Q5.out.fr.trans HX5.out.fr,HX5.out.bel⟩
theorem sa.val_t5S {bs:List Int} {u i:Int→Int × Int × Int} (hU:sa.Uin bs u i) {w0 w:World} {g:Nat} {A:Option Addr} {c:Nat} {a l:Int} (hb:Below w0.heap.size w0 w) (hg:w0.heap.size≤g) (hB:sa.Blk w g A bs.length c a l) (hC:(Kd.int .u8).C w A bs.length bs) (hc:bs.length≤c) (within:Int) (hw:(within == 8)=false) (ha0:0≤a) (ha1:a < (bs.length:Int)) (hl0:1≤l) (hl1:l≤2048) (ht:rd bs a=5) (he:(u (a+1)).2.2=0) (hn:(l - 1) / 1 < (u (a+1)).1) :
  Calls Try.prog 73 #[.pointer (some ⟨g,0,none⟩),.int .i64 within] w (sa.GotV (.bad 42 a) w0 w g A bs.length c):=by
 have HB:=zA hB
 have HC:=zA hC
 have HCC:=zA hc
 have HBB:=zA hb
 have HGG:=zA hg
 have HLL:=zA hU.L
 have HUU:=zA hU
 have hgl:g < w.heap.size:=qAe hB
 have hu25:=Try.underlying34
 obtain ⟨a,rfl⟩:=Int.eq_ofNat_of_zero_le ha0
 have t0:((a:Int) == (bs.length:Int))=false:=beq_eq_false_iff_ne.2 (by omega)
 have t1:(a=bs.length)=False:=eq_false (by omega)
 have t2:decide (a=bs.length)=false:=zF (by omega)
 have t3:(a:Int) < (bs.length:Int):=ha1
 have t4:a < bs.length:=by omega
 have t5:decide (a < bs.length)=true:=zT t4
 have hwr:=zA (show wrap64 ((a:Int)+1)=(a:Int)+1 by have:=hU.L;unfold wrap64;omega)
 have HL0:=zA hl0
 have HL1:=zA hl1
 obtain ⟨ad,hA,hx0⟩:=Kd.qBQ hC (a:Int) (by omega) ha1
 subst hA
 rw [Int.toNat_natCast,ht] at hx0
 have HBW:=zA ((Below.refl w.heap.size w).alloc (Nat.le_refl _) (.cells #[.int .i64 0,.int .i64 0,.string ⟨#[]⟩,.slice none 0 0,.slice none 0 0] 34))
 have L1:=zA (show sa.Ly (w.alloc (.cells #[.int .i64 0,.int .i64 0,.string ⟨#[]⟩,.slice none 0 0,.slice none 0 0] 34)) g (some ad) bs.length c (a:Int) l (ad.add a) 5 w.heap.size #[.int .i64 0,.int .i64 0,.string ⟨#[]⟩,.slice none 0 0,.slice none 0 0] from ⟨HB.out.below HBW.out,(HBW.out.cell (qs4 w _ hx0)).trans hx0,by simpa using heap_alloc_new w _⟩)
 clear hx0
 have h0:=L1.out.blk.c0;have h1:=L1.out.blk.c1;have h2:=L1.out.blk.c2;have f1:=L1.out.blk.fz 1;have f2:=L1.out.blk.fz 2;have hx0:=L1.out.byt;have fr_:=qAC L1.out.res 0
 have HF4:∀ W4,W4=((w.alloc (.cells #[.int .i64 0,.int .i64 0,.string ⟨#[]⟩,.slice none 0 0,.slice none 0 0] 34)).setCell ⟨g,2,none⟩ (.int .i64 (l - 1))).setCell ⟨g,1,none⟩ (.int .i64 ((a:Int)+1))→sa.Fr g w W4∧Below w0.heap.size w0 W4:=by
  rintro _ rfl
  exact ⟨((sa.Fr.of_below HBW.out).trans (sa.Fr.set _ _ _ _)).trans (sa.Fr.set _ _ _ _),((HBB.out.alloc HBB.out.size _).setCell hg _).setCell hg _⟩
 have HF4:=zA HF4
 have hs0:wrap64 ((a:Int)+1)=(a:Int)+1:=hwr.out
 have HCN:=zA (fun (W:World) (x1:Below w0.heap.size w0 W) (x2:sa.Blk W g (some ad) bs.length c ((a:Int)+1) (l - 1)) (x3:(Kd.int .u8).C W (some ad) bs.length bs)=>sa.countN hU x1 hg x2 x3 hc (a:Int) 1 he (by omega) (by omega) (by omega) (by omega) hn)
 have HGL:=zA hgl
 clear hU hb hg hB hC hc ha1 hl0 hl1 ha0 hgl
 go_enter Try.func73,Try.ntmps73
 go_wp2_with (first | (go_at_call 88;refine (sa.qBo L1.out.blk 1 (a:Int) HL0.out HL1.out (by omega)).mono ?_;rintro e_ w3 ⟨rfl,hx⟩;have L3:=zA (L1.out.fr (hx▸sa.Fr.set _ _ _ _) (hx▸L1.out.blk.set2 _));have HX3:=zA hx;clear hx;clear h0 h1 h2 f1 f2 hx0 fr_;have h0:=L3.out.blk.c0;have h1:=L3.out.blk.c1;have h2:=L3.out.blk.c2;have f1:=L3.out.blk.fz 1;have f2:=L3.out.blk.fz 2;have hx0:=L3.out.byt;have fr_:=qAC L3.out.res 0) | ((with_reducible refine qAW (p:=48) rfl ?_);go_must (refine qAn ?hg (t:=3) (p:=48) (v:=.tmp 46) (w1:=w3.setCell ⟨g,1,none⟩ (.int .i64 (wrap64 ((a:Int)+1)))) ?ho ?hN ?hr ?_);(case ho=>rfl);(case hN=>rfl);(case hg=>rfl);(case hr=>first | (go_simp;done) | (go_simp;rfl));intro w4 e4;rw [hwr.out] at e4;have L4:=zA (L3.out.fr (e4▸sa.Fr.set _ _ _ _) (e4▸L3.out.blk.set1 _));have HX4:=zA e4;clear e4;have HFW:=zA (HF4.out _ (HX4.out.trans (by rw [HX3.out])));clear h0 h1 h2 f1 f2 hx0 fr_;have h0:=L4.out.blk.c0;have h1:=L4.out.blk.c1;have h2:=L4.out.blk.c2;have f1:=L4.out.blk.fz 1;have f2:=L4.out.blk.fz 2;have hx0:=L4.out.byt;have fr_:=qAC L4.out.res 0) | ((with_reducible refine qAW (p:=10) rfl ?_);refine sa.qAo rfl rfl 10 _ rfl w4.heap.size rfl (.int .i64 4) (.int .i64 0) (.string ⟨#[]⟩) (.slice none 0 0) (.slice none 0 0) rfl (fun q hq=>by simp at hq;rcases hq with rfl | rfl | rfl | rfl | rfl <;> rfl) _ rfl (by simpa using heap_alloc_new w4 _) ?_;intro w5 hres hgr;have HB5:=zA (sa.qCA hgr);have L5:=zA (L4.out.below HB5.out);have hv:w.heap.size < w4.heap.size:=by { rw [HX4.out,HX3.out,Deep.nblk_setCell,Deep.nblk_setCell,Deep.nblk_alloc];exact Nat.lt_succ_self _ };have Q5:=zA (show sa.LQ w0 w w5 g (some ad) bs.length c w4.heap.size ((a:Int)+1) (l - 1) 4 (.slice none 0 0) (.slice none 0 0) [] [] from ⟨L5.out.blk,HFW.out.1.trans (sa.Fr.of_below HB5.out),qAY HFW.out.2 HFW.out.2.size HB5.out,hres,L5.out.res,Kd.qA7 _ _ _ _ _,Kd.qA7 _ _ _ _ _,hv,HGL.out,HGG.out⟩);clear hres hgr hv;clear h0 h1 h2 f1 f2 hx0 fr_;have h0:=L5.out.blk.c0;have h1:=L5.out.blk.c1;have h2:=L5.out.blk.c2;have f1:=L5.out.blk.fz 1;have f2:=L5.out.blk.fz 2;have hx0:=L5.out.byt;have fr_:=qAC L5.out.res 0) | (go_at_call 90;refine (HCN.out _ Q5.out.bel Q5.out.blk (sa.qBK HC.out HB.out Q5.out.fr)).mono ?_;rintro e_ w5 ⟨rfl,hx⟩;have HX5:=zA hx;clear hx;unfold sa.flt))
 exact ⟨rfl,rfl,Q5.out.fr.trans HX5.out.fr,HX5.out.bel⟩
theorem sa.val_t6E {bs:List Int} {u i:Int→Int × Int × Int} (hU:sa.Uin bs u i) {w0 w:World} {g:Nat} {A:Option Addr} {c:Nat} {a l:Int} (hb:Below w0.heap.size w0 w) (hg:w0.heap.size≤g) (hB:sa.Blk w g A bs.length c a l) (hC:(Kd.int .u8).C w A bs.length bs) (hc:bs.length≤c) (within:Int) (hw:(within == 8)=false) (ha0:0≤a) (ha1:a < (bs.length:Int)) (hl0:1≤l) (hl1:l≤2048) (ht:rd bs a=6) (he:(u (a+1)).2.2 ≠ 0) :
  Calls Try.prog 73 #[.pointer (some ⟨g,0,none⟩),.int .i64 within] w (sa.GotV (.bad 41 (a+1)) w0 w g A bs.length c):=by
 have HB:=zA hB
 have HC:=zA hC
 have HCC:=zA hc
 have HBB:=zA hb
 have HGG:=zA hg
 have HLL:=zA hU.L
 have HUU:=zA hU
 have hgl:g < w.heap.size:=qAe hB
 have hu25:=Try.underlying34
 obtain ⟨a,rfl⟩:=Int.eq_ofNat_of_zero_le ha0
 have t0:((a:Int) == (bs.length:Int))=false:=beq_eq_false_iff_ne.2 (by omega)
 have t1:(a=bs.length)=False:=eq_false (by omega)
 have t2:decide (a=bs.length)=false:=zF (by omega)
 have t3:(a:Int) < (bs.length:Int):=ha1
 have t4:a < bs.length:=by omega
 have t5:decide (a < bs.length)=true:=zT t4
 have hwr:=zA (show wrap64 ((a:Int)+1)=(a:Int)+1 by have:=hU.L;unfold wrap64;omega)
 have HL0:=zA hl0
 have HL1:=zA hl1
 obtain ⟨ad,hA,hx0⟩:=Kd.qBQ hC (a:Int) (by omega) ha1
 subst hA
 rw [Int.toNat_natCast,ht] at hx0
 have HBW:=zA ((Below.refl w.heap.size w).alloc (Nat.le_refl _) (.cells #[.int .i64 0,.int .i64 0,.string ⟨#[]⟩,.slice none 0 0,.slice none 0 0] 34))
 have L1:=zA (show sa.Ly (w.alloc (.cells #[.int .i64 0,.int .i64 0,.string ⟨#[]⟩,.slice none 0 0,.slice none 0 0] 34)) g (some ad) bs.length c (a:Int) l (ad.add a) 6 w.heap.size #[.int .i64 0,.int .i64 0,.string ⟨#[]⟩,.slice none 0 0,.slice none 0 0] from ⟨HB.out.below HBW.out,(HBW.out.cell (qs4 w _ hx0)).trans hx0,by simpa using heap_alloc_new w _⟩)
 clear hx0
 have h0:=L1.out.blk.c0;have h1:=L1.out.blk.c1;have h2:=L1.out.blk.c2;have f1:=L1.out.blk.fz 1;have f2:=L1.out.blk.fz 2;have hx0:=L1.out.byt;have fr_:=qAC L1.out.res 0
 have HF4:∀ W4,W4=((w.alloc (.cells #[.int .i64 0,.int .i64 0,.string ⟨#[]⟩,.slice none 0 0,.slice none 0 0] 34)).setCell ⟨g,2,none⟩ (.int .i64 (l - 1))).setCell ⟨g,1,none⟩ (.int .i64 ((a:Int)+1))→sa.Fr g w W4∧Below w0.heap.size w0 W4:=by
  rintro _ rfl
  exact ⟨((sa.Fr.of_below HBW.out).trans (sa.Fr.set _ _ _ _)).trans (sa.Fr.set _ _ _ _),((HBB.out.alloc HBB.out.size _).setCell hg _).setCell hg _⟩
 have HF4:=zA HF4
 have hs0:wrap64 ((a:Int)+1)=(a:Int)+1:=hwr.out
 have HCN:=zA (fun (W:World) (x1:Below w0.heap.size w0 W) (x2:sa.Blk W g (some ad) bs.length c ((a:Int)+1) (l - 1)) (x3:(Kd.int .u8).C W (some ad) bs.length bs)=>sa.countE hU x1 hg x2 x3 hc (a:Int) 2 he)
 have HGL:=zA hgl
 clear hU hb hg hB hC hc ha1 hl0 hl1 ha0 hgl
 go_enter Try.func73,Try.ntmps73
 go_wp2_with (first | (go_at_call 88;refine (sa.qBo L1.out.blk 1 (a:Int) HL0.out HL1.out (by omega)).mono ?_;rintro e_ w3 ⟨rfl,hx⟩;have L3:=zA (L1.out.fr (hx▸sa.Fr.set _ _ _ _) (hx▸L1.out.blk.set2 _));have HX3:=zA hx;clear hx;clear h0 h1 h2 f1 f2 hx0 fr_;have h0:=L3.out.blk.c0;have h1:=L3.out.blk.c1;have h2:=L3.out.blk.c2;have f1:=L3.out.blk.fz 1;have f2:=L3.out.blk.fz 2;have hx0:=L3.out.byt;have fr_:=qAC L3.out.res 0) | ((with_reducible refine qAW (p:=48) rfl ?_);go_must (refine qAn ?hg (t:=3) (p:=48) (v:=.tmp 46) (w1:=w3.setCell ⟨g,1,none⟩ (.int .i64 (wrap64 ((a:Int)+1)))) ?ho ?hN ?hr ?_);(case ho=>rfl);(case hN=>rfl);(case hg=>rfl);(case hr=>first | (go_simp;done) | (go_simp;rfl));intro w4 e4;rw [hwr.out] at e4;have L4:=zA (L3.out.fr (e4▸sa.Fr.set _ _ _ _) (e4▸L3.out.blk.set1 _));have HX4:=zA e4;clear e4;have HFW:=zA (HF4.out _ (HX4.out.trans (by rw [HX3.out])));clear h0 h1 h2 f1 f2 hx0 fr_;have h0:=L4.out.blk.c0;have h1:=L4.out.blk.c1;have h2:=L4.out.blk.c2;have f1:=L4.out.blk.fz 1;have f2:=L4.out.blk.fz 2;have hx0:=L4.out.byt;have fr_:=qAC L4.out.res 0) | ((with_reducible refine qAW (p:=11) rfl ?_);refine sa.qAo rfl rfl 11 _ rfl w4.heap.size rfl (.int .i64 5) (.int .i64 0) (.string ⟨#[]⟩) (.slice none 0 0) (.slice none 0 0) rfl (fun q hq=>by simp at hq;rcases hq with rfl | rfl | rfl | rfl | rfl <;> rfl) _ rfl (by simpa using heap_alloc_new w4 _) ?_;intro w5 hres hgr;have HB5:=zA (sa.qCA hgr);have L5:=zA (L4.out.below HB5.out);have hv:w.heap.size < w4.heap.size:=by { rw [HX4.out,HX3.out,Deep.nblk_setCell,Deep.nblk_setCell,Deep.nblk_alloc];exact Nat.lt_succ_self _ };have Q5:=zA (show sa.LQ w0 w w5 g (some ad) bs.length c w4.heap.size ((a:Int)+1) (l - 1) 5 (.slice none 0 0) (.slice none 0 0) [] [] from ⟨L5.out.blk,HFW.out.1.trans (sa.Fr.of_below HB5.out),qAY HFW.out.2 HFW.out.2.size HB5.out,hres,L5.out.res,Kd.qA7 _ _ _ _ _,Kd.qA7 _ _ _ _ _,hv,HGL.out,HGG.out⟩);clear hres hgr hv;clear h0 h1 h2 f1 f2 hx0 fr_;have h0:=L5.out.blk.c0;have h1:=L5.out.blk.c1;have h2:=L5.out.blk.c2;have f1:=L5.out.blk.fz 1;have f2:=L5.out.blk.fz 2;have hx0:=L5.out.byt;have fr_:=qAC L5.out.res 0) | (go_at_call 90;refine (HCN.out _ Q5.out.bel Q5.out.blk (sa.qBK HC.out HB.out Q5.out.fr)).mono ?_;rintro e_ w5 ⟨rfl,hx⟩;have HX5:=zA hx;clear hx;unfold sa.flt))
 exact ⟨rfl,rfl,Q5.out.fr.trans HX5.out.fr,HX5.out.bel⟩
theorem sa.val_t6S {bs:List Int} {u i:Int→Int × Int × Int} (hU:sa.Uin bs u i) {w0 w:World} {g:Nat} {A:Option Addr} {c:Nat} {a l:Int} (hb:Below w0.heap.size w0 w) (hg:w0.heap.size≤g) (hB:sa.Blk w g A bs.length c a l) (hC:(Kd.int .u8).C w A bs.length bs) (hc:bs.length≤c) (within:Int) (hw:(within == 8)=false) (ha0:0≤a) (ha1:a < (bs.length:Int)) (hl0:1≤l) (hl1:l≤2048) (ht:rd bs a=6) (he:(u (a+1)).2.2=0) (hn:(l - 1) / 2 < (u (a+1)).1) :
  Calls Try.prog 73 #[.pointer (some ⟨g,0,none⟩),.int .i64 within] w (sa.GotV (.bad 42 a) w0 w g A bs.length c):=by
 have HB:=zA hB
 have HC:=zA hC
 have HCC:=zA hc
 have HBB:=zA hb
 have HGG:=zA hg
 have HLL:=zA hU.L
 have HUU:=zA hU
 have hgl:g < w.heap.size:=qAe hB
 have hu25:=Try.underlying34
 obtain ⟨a,rfl⟩:=Int.eq_ofNat_of_zero_le ha0
 have t0:((a:Int) == (bs.length:Int))=false:=beq_eq_false_iff_ne.2 (by omega)
 have t1:(a=bs.length)=False:=eq_false (by omega)
 have t2:decide (a=bs.length)=false:=zF (by omega)
 have t3:(a:Int) < (bs.length:Int):=ha1
 have t4:a < bs.length:=by omega
 have t5:decide (a < bs.length)=true:=zT t4
 have hwr:=zA (show wrap64 ((a:Int)+1)=(a:Int)+1 by have:=hU.L;unfold wrap64;omega)
 have HL0:=zA hl0
 have HL1:=zA hl1
 obtain ⟨ad,hA,hx0⟩:=Kd.qBQ hC (a:Int) (by omega) ha1
 subst hA
 rw [Int.toNat_natCast,ht] at hx0
 have HBW:=zA ((Below.refl w.heap.size w).alloc (Nat.le_refl _) (.cells #[.int .i64 0,.int .i64 0,.string ⟨#[]⟩,.slice none 0 0,.slice none 0 0] 34))
 have L1:=zA (show sa.Ly (w.alloc (.cells #[.int .i64 0,.int .i64 0,.string ⟨#[]⟩,.slice none 0 0,.slice none 0 0] 34)) g (some ad) bs.length c (a:Int) l (ad.add a) 6 w.heap.size #[.int .i64 0,.int .i64 0,.string ⟨#[]⟩,.slice none 0 0,.slice none 0 0] from ⟨HB.out.below HBW.out,(HBW.out.cell (qs4 w _ hx0)).trans hx0,by simpa using heap_alloc_new w _⟩)
 clear hx0
 have h0:=L1.out.blk.c0;have h1:=L1.out.blk.c1;have h2:=L1.out.blk.c2;have f1:=L1.out.blk.fz 1;have f2:=L1.out.blk.fz 2;have hx0:=L1.out.byt;have fr_:=qAC L1.out.res 0
 have HF4:∀ W4,W4=((w.alloc (.cells #[.int .i64 0,.int .i64 0,.string ⟨#[]⟩,.slice none 0 0,.slice none 0 0] 34)).setCell ⟨g,2,none⟩ (.int .i64 (l - 1))).setCell ⟨g,1,none⟩ (.int .i64 ((a:Int)+1))→sa.Fr g w W4∧Below w0.heap.size w0 W4:=by
  rintro _ rfl
  exact ⟨((sa.Fr.of_below HBW.out).trans (sa.Fr.set _ _ _ _)).trans (sa.Fr.set _ _ _ _),((HBB.out.alloc HBB.out.size _).setCell hg _).setCell hg _⟩
 have HF4:=zA HF4
 have hs0:wrap64 ((a:Int)+1)=(a:Int)+1:=hwr.out
 have HCN:=zA (fun (W:World) (x1:Below w0.heap.size w0 W) (x2:sa.Blk W g (some ad) bs.length c ((a:Int)+1) (l - 1)) (x3:(Kd.int .u8).C W (some ad) bs.length bs)=>sa.countN hU x1 hg x2 x3 hc (a:Int) 2 he (by omega) (by omega) (by omega) (by omega) hn)
 have HGL:=zA hgl
 clear hU hb hg hB hC hc ha1 hl0 hl1 ha0 hgl
 go_enter Try.func73,Try.ntmps73
 go_wp2_with (first | (go_at_call 88;refine (sa.qBo L1.out.blk 1 (a:Int) HL0.out HL1.out (by omega)).mono ?_;rintro e_ w3 ⟨rfl,hx⟩;have L3:=zA (L1.out.fr (hx▸sa.Fr.set _ _ _ _) (hx▸L1.out.blk.set2 _));have HX3:=zA hx;clear hx;clear h0 h1 h2 f1 f2 hx0 fr_;have h0:=L3.out.blk.c0;have h1:=L3.out.blk.c1;have h2:=L3.out.blk.c2;have f1:=L3.out.blk.fz 1;have f2:=L3.out.blk.fz 2;have hx0:=L3.out.byt;have fr_:=qAC L3.out.res 0) | ((with_reducible refine qAW (p:=48) rfl ?_);go_must (refine qAn ?hg (t:=3) (p:=48) (v:=.tmp 46) (w1:=w3.setCell ⟨g,1,none⟩ (.int .i64 (wrap64 ((a:Int)+1)))) ?ho ?hN ?hr ?_);(case ho=>rfl);(case hN=>rfl);(case hg=>rfl);(case hr=>first | (go_simp;done) | (go_simp;rfl));intro w4 e4;rw [hwr.out] at e4;have L4:=zA (L3.out.fr (e4▸sa.Fr.set _ _ _ _) (e4▸L3.out.blk.set1 _));have HX4:=zA e4;clear e4;have HFW:=zA (HF4.out _ (HX4.out.trans (by rw [HX3.out])));clear h0 h1 h2 f1 f2 hx0 fr_;have h0:=L4.out.blk.c0;have h1:=L4.out.blk.c1;have h2:=L4.out.blk.c2;have f1:=L4.out.blk.fz 1;have f2:=L4.out.blk.fz 2;have hx0:=L4.out.byt;have fr_:=qAC L4.out.res 0) | ((with_reducible refine qAW (p:=11) rfl ?_);refine sa.qAo rfl rfl 11 _ rfl w4.heap.size rfl (.int .i64 5) (.int .i64 0) (.string ⟨#[]⟩) (.slice none 0 0) (.slice none 0 0) rfl (fun q hq=>by simp at hq;rcases hq with rfl | rfl | rfl | rfl | rfl <;> rfl) _ rfl (by simpa using heap_alloc_new w4 _) ?_;intro w5 hres hgr;have HB5:=zA (sa.qCA hgr);have L5:=zA (L4.out.below HB5.out);have hv:w.heap.size < w4.heap.size:=by { rw [HX4.out,HX3.out,Deep.nblk_setCell,Deep.nblk_setCell,Deep.nblk_alloc];exact Nat.lt_succ_self _ };have Q5:=zA (show sa.LQ w0 w w5 g (some ad) bs.length c w4.heap.size ((a:Int)+1) (l - 1) 5 (.slice none 0 0) (.slice none 0 0) [] [] from ⟨L5.out.blk,HFW.out.1.trans (sa.Fr.of_below HB5.out),qAY HFW.out.2 HFW.out.2.size HB5.out,hres,L5.out.res,Kd.qA7 _ _ _ _ _,Kd.qA7 _ _ _ _ _,hv,HGL.out,HGG.out⟩);clear hres hgr hv;clear h0 h1 h2 f1 f2 hx0 fr_;have h0:=L5.out.blk.c0;have h1:=L5.out.blk.c1;have h2:=L5.out.blk.c2;have f1:=L5.out.blk.fz 1;have f2:=L5.out.blk.fz 2;have hx0:=L5.out.byt;have fr_:=qAC L5.out.res 0) | (go_at_call 90;refine (HCN.out _ Q5.out.bel Q5.out.blk (sa.qBK HC.out HB.out Q5.out.fr)).mono ?_;rintro e_ w5 ⟨rfl,hx⟩;have HX5:=zA hx;clear hx;unfold sa.flt))
 exact ⟨rfl,rfl,Q5.out.fr.trans HX5.out.fr,HX5.out.bel⟩
end
end Go.Proofs.Ytdommiicjpjfpaa.X
