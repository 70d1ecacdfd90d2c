import Derived.Test.YtdommiicjpjfpaaZStateApart3
import Derived.Test.YtdommiicjpjfpaaZStateApart2
import Derived.Laws.Rows
import Derived.Test.YtdommiicjpjfpaaZStateApart28
import Derived.Test.YtdommiicjpjfpaaZStateApart16
import Derived.Test.YtdommiicjpjfpaaZStateApart15
import Derived.Test.YtdommiicjpjfpaaZStateApart27
import Derived.WalkLawsBesides
import Derived.Laws.Pointers
import Derived.Shelf.Abstract
import Derived.Deep.DeepMust
import Derived.Deep.QuietTactic
import Derived.BigQuiet
import Derived.ChangeArms
import Derived.Test.YtdommiicjpjfpaaZStateApart21
import Derived.Lib.SlBytesConst
set_option linter.unusedVariables false
set_option linter.unusedSimpArgs false
namespace Go.Proofs.Ytdommiicjpjfpaa.X
open Go.RowKit Go.Proofs.YtdommiicjpjfpaaW.PrintWords Go.Proofs.YtdommiicjpjfpaaW.PrintLast Go.Proofs.YtdommiicjpjfpaaW.PrintMore Go.Proofs.YtdommiicjpjfpaaW
section
set_option maxRecDepth 100000
open Go.Proofs.Ytdommiicjpjfpaa
theorem sa.at_app {bs l r:List Int} {a:Int} (h0:0≤a) (h:sa.at_ bs a=l ++ r):sa.at_ bs (a+(l.length:Int))=r:=by
 unfold sa.at_ at *
 rw [show (a+(l.length:Int)).toNat=a.toNat+l.length by omega,← List.drop_drop,h,List.drop_left]
theorem sa.at_len {bs l r:List Int} {a:Int} (h0:0≤a) (h:sa.at_ bs a=l ++ r) (hl:0 < l.length):a+(l.length:Int)+(r.length:Int)=(bs.length:Int):=by
 have:=congrArg List.length h
 unfold sa.at_ at this
 rw [List.length_drop,List.length_append] at this
 omega
theorem sa.uint_back {bs rest:List Int} {a v:Int} (h0:0≤a) (v0:0≤v) (v1:v < 18446744073709551616) (h:sa.at_ bs a=Pl.putU v ++ rest):Pl.qAk bs a=(v,a+((Pl.putU v).length:Int),0):=by
 have hp:0 < (Pl.putU v).length:=(Pl.puts_len 10 v).2 (by omega)
 have hl:=sa.at_len h0 h hp
 unfold Pl.qAk
 rw [if_neg (by omega)]
 unfold sa.at_ at h
 rw [h,Pl.putU_read v rest v0 v1]
 simp [Pl.fin]
theorem sa.byte_back {bs rest:List Int} {a c:Int} (h0:0≤a) (h:sa.at_ bs a=c :: rest):a < (bs.length:Int)∧rd bs a=c∧sa.at_ bs (a+1)=rest:=by
 have hl:=sa.at_len (l:=[c]) (r:=rest) h0 h (by simp)
 simp only [List.length_singleton] at hl
 have hlt:a < (bs.length:Int):=by omega
 have hc:=sa.at_cons h0 hlt
 rw [h] at hc
 injection hc with e1 e2
 exact ⟨hlt,e1.symm,e2.symm⟩
def sa.Bk (bs:List Int) (f:Int→Int→sa.R3 S34) (x:S34):Prop:=∀ (a l:Int) (rest:List Int),0≤a→sa.at_ bs a=en x ++ rest→(wt x:Int)≤l→l≤2048→f a l=.ok x (a+((en x).length:Int)) (l - (wt x:Int))
theorem sa.arr_back {bs:List Int} {f:Int→Int→sa.R3 S34}:∀ (xs:List S34),(∀ x ∈ xs,sa.Bk bs f x)→∀ (acc:List S34) (a l:Int) (rest:List Int),0≤a→sa.at_ bs a=(xs.map en).flatten ++ rest→((xs.map wt).sum:Int)≤l→l≤2048 →
  sa.arrL f xs.length acc a l=.ok (acc ++ xs) (a+(((xs.map en).flatten).length:Int)) (l - ((xs.map wt).sum:Int))
 | [],hf,acc,a,l,rest,h0,h,hw,hl=>by
  unfold sa.arrL
  simp
 | x :: xs,hf,acc,a,l,rest,h0,h,hw,hl=>by
  simp only [List.map_cons,List.flatten_cons,List.append_assoc] at h
  have hw':((wt x+(xs.map wt).sum:Nat):Int)≤l:=by simpa only [List.map_cons,List.sum_cons] using hw
  have hx:=hf x List.mem_cons_self a l _ h0 h (by omega) hl
  have h2:=sa.at_app h0 h
  have ih:=sa.arr_back xs (fun y hy=>hf y (List.mem_cons_of_mem _ hy)) (acc ++ [x]) (a+((en x).length:Int)) (l - (wt x:Int)) rest (by omega) h2 (by omega) (by omega)
  rw [List.length_cons,sa.arrL,hx]
  dsimp only
  rw [ih]
  simp only [List.map_cons,List.flatten_cons,List.sum_cons,List.length_append,List.append_assoc,List.cons_append,List.nil_append]
  congr 1 <;> omega
theorem sa.rdOf_app (ks qs:List ByteArray) (i:Nat) (h:i < ks.length):rdOf ByteArray.empty (ks ++ qs) (i:Int)=rdOf ByteArray.empty ks (i:Int):=by
 unfold rdOf
 rw [Int.toNat_natCast,List.getD_eq_getElem?_getD,List.getD_eq_getElem?_getD,List.getElem?_append_left h]
theorem sa.rdOf_mid (ks qs:List ByteArray) (k:ByteArray):rdOf ByteArray.empty (ks ++ k :: qs) ((ks.length:Nat):Int)=k:=by
 unfold rdOf
 rw [Int.toNat_natCast,List.getD_eq_getElem?_getD,List.getElem?_append_right (Nat.le_refl _),Nat.sub_self]
 rfl
theorem sa.key_back {bs rest:List Int} {ks qs:List ByteArray} {k:ByteArray} {a l:Int} (hk:sa.kOk (ks ++ k :: qs)) (h0:0≤a) (h:sa.at_ bs a=Pl.putU (k.size:Int) ++ (bytesOf k ++ rest)) (hl:1+(k.size:Int)≤l) :
  sa.keyS bs (Pl.qAk bs) ks a l=.ok k (a+((Pl.putU (k.size:Int)).length:Int)+(k.size:Int)) (l - (1+(k.size:Int))):=by
 have hsz:=hk.1 k (List.mem_append_right _ List.mem_cons_self)
 have hu:=sa.uint_back h0 (by omega) (by omega) h
 have hp:0 < (Pl.putU (k.size:Int)).length:=(Pl.puts_len 10 _).2 (by omega)
 have hlen:=sa.at_len h0 h hp
 have h2:=sa.at_app h0 h
 rw [List.length_append,Pl.qAs] at hlen
 have hs:strOfNums ((bs.drop (a+((Pl.putU (k.size:Int)).length:Int)).toNat).take ((k.size:Int)).toNat)=k:=by
  unfold sa.at_ at h2
  rw [h2,Int.toNat_natCast,List.take_append_of_le_length (by rw [Pl.qAs];exact Nat.le_refl _),List.take_of_length_le (by rw [Pl.qAs];exact Nat.le_refl _),Pl.qCH]
 unfold sa.keyS
 rw [hu]
 dsimp only
 rw [if_neg (by decide),if_neg (by omega),if_neg (by omega),hs,if_neg ?_,if_neg (by omega)]
 rintro ⟨q1,q2⟩
 refine q2 ?_
 have:=hk.2 (ks.length - 1) (by rw [List.length_append,List.length_cons];omega)
 rw [sa.rdOf_app ks _ _ (by omega),show ks.length - 1+1=ks.length by omega,sa.rdOf_mid,show ((ks.length - 1:Nat):Int)=(ks.length:Int) - 1 by omega] at this
 exact this
theorem sa.rec_back {bs:List Int} {f:Int→Int→sa.R3 S34}:∀ (xs:List S34) (qs:List ByteArray),qs.length=xs.length→(∀ x ∈ xs,sa.Bk bs f x)→∀ (ks:List ByteArray) (acc:List S34) (a l:Int) (rest:List Int),sa.kOk (ks ++ qs)→0≤a→sa.at_ bs a=recs (xs.map en) qs ++ rest→(((xs.map wt).sum+(qs.map fun s=>1+s.size).sum:Nat):Int)≤l→l≤2048 →
  sa.recL bs (Pl.qAk bs) f xs.length ks acc a l=.ok (ks ++ qs,acc ++ xs) (a+((recs (xs.map en) qs).length:Int)) (l - (((xs.map wt).sum+(qs.map fun s=>1+s.size).sum:Nat):Int))
 | [],[],hq,hf,ks,acc,a,l,rest,hk,h0,h,hw,hl=>by
  unfold sa.recL
  simp [recs]
 | [],_ :: _,hq,hf,ks,acc,a,l,rest,hk,h0,h,hw,hl=>by simp at hq
 | _ :: _,[],hq,hf,ks,acc,a,l,rest,hk,h0,h,hw,hl=>by simp at hq
 | x :: xs,k :: qs,hq,hf,ks,acc,a,l,rest,hk,h0,h,hw,hl=>by
  simp only [List.map_cons,recs,List.append_assoc] at h
  have hw':((wt x+(xs.map wt).sum+(1+k.size+(qs.map fun s=>1+s.size).sum):Nat):Int)≤l:=by simpa only [List.map_cons,List.sum_cons] using hw
  have hkk:=sa.key_back (l:=l) hk h0 h (by omega)
  have hsz:=hk.1 k (List.mem_append_right _ List.mem_cons_self)
  have h2:=sa.at_app h0 h
  have h3:=sa.at_app (by omega) h2
  rw [Pl.qAs] at h3
  have hx:=hf x List.mem_cons_self (a+((Pl.putU (k.size:Int)).length:Int)+(k.size:Int)) (l - (1+(k.size:Int))) _ (by omega) h3 (by omega) (by omega)
  have h4:=sa.at_app (by omega) h3
  have ih:=sa.rec_back xs qs (by simpa using hq) (fun y hy=>hf y (List.mem_cons_of_mem _ hy)) (ks ++ [k]) (acc ++ [x]) (a+((Pl.putU (k.size:Int)).length:Int)+(k.size:Int)+((en x).length:Int)) (l - (1+(k.size:Int)) - (wt x:Int)) rest (by rw [List.append_assoc];exact hk) (by omega) h4 (by omega) (by omega)
  rw [List.length_cons,sa.recL,hkk]
  dsimp only
  rw [hx]
  dsimp only
  rw [ih]
  simp only [List.map_cons,recs,List.sum_cons,List.length_append,List.append_assoc,List.cons_append,List.nil_append,Pl.qAs]
  congr 1 <;> omega
theorem sa.nil_str {f:ByteArray} (h:f.toList=[]):f=⟨#[]⟩:=Pl.toList_inj (by rw [h,sa.e_nil])
theorem sa.valS_back {bs:List Int}:∀ (d:Nat) (x:S34),Val x→sa.okV d x→sa.Bk bs (sa.valS bs (Pl.qAk bs) (Pl.qCL bs) d) x
 | 0,x,hv,h=>h.elim
 | d+1,x,hv,h=>by
  intro a l rest h0 hat hw hl
  obtain ⟨hf,hk,hs⟩:=h
  obtain ⟨_,a0,b0,a1,b1,h2,h3,h4,k4,k3⟩:=hv
  have hwx:=wt_eq x
  have hch:∀ y ∈ x.f3,sa.Bk bs (sa.valS bs (Pl.qAk bs) (Pl.qCL bs) d) y:=fun y hy=>sa.valS_back d y (k3 y hy) (hs y hy)
  have l3:=sa.len_wt x.f3
  have l4:=sa.len_ks x.f4
  obtain ⟨f0,f1,f2,f3,f4⟩:=x
  dsimp only at *
  rw [sa.valS_s]
  rcases qBu h3 h4 hf with ⟨z,z1,z2,z3,z4⟩ | ⟨z,z1,z2,z3,z4⟩ | ⟨z,z2,z3,z4⟩ | ⟨z,z1,z3,z4⟩ | ⟨z,z1,z2,z4⟩ | ⟨z,z1,z2,z4⟩
  ·subst z;subst z1
   obtain rfl:=sa.nil_str z2
   obtain rfl:=List.eq_nil_of_length_eq_zero z3
   obtain rfl:=List.eq_nil_of_length_eq_zero z4
   rw [sa.qCA] at hw ⊢
   have hz:(⟨#[]⟩:ByteArray).size=0:=rfl
   rw [en0 rfl] at hat ⊢
   obtain ⟨hlt,hr,hat2⟩:=sa.byte_back h0 hat
   rw [hr,if_neg (by omega),if_neg (by omega),if_neg (by omega),if_neg (by omega),if_neg (by omega),if_neg (by omega),if_neg (by omega),if_neg (by omega)]
   rfl
  ·subst z
   obtain rfl:=sa.nil_str z2
   obtain rfl:=List.eq_nil_of_length_eq_zero z3
   obtain rfl:=List.eq_nil_of_length_eq_zero z4
   rw [sa.qCA] at hw ⊢
   have hz:(⟨#[]⟩:ByteArray).size=0:=rfl
   rw [en1 rfl] at hat ⊢
   obtain ⟨hlt,hr,hat2⟩:=sa.byte_back h0 hat
   dsimp only at hr
   rw [hr,if_neg (by omega),if_neg (by omega)]
   rcases z1 with z1 | z1
   ·subst z1
    rw [if_pos (by omega)];rfl
   ·subst z1
    rw [if_neg (by omega),if_pos (by omega)];rfl
  ·subst z
   obtain rfl:=sa.nil_str z2
   obtain rfl:=List.eq_nil_of_length_eq_zero z3
   obtain rfl:=List.eq_nil_of_length_eq_zero z4
   rw [sa.qCA] at hw ⊢
   have hz:(⟨#[]⟩:ByteArray).size=0:=rfl
   rw [en2 rfl] at hat ⊢
   obtain ⟨hlt,hr,hat2⟩:=sa.byte_back h0 hat
   dsimp only at hat2
   have hzz:=Pl.zz_range f1 a1 b1
   have hu:=sa.uint_back (by omega) hzz.1 hzz.2 hat2
   have hi:Pl.qCL bs (a+1)=(f1,a+1+((Pl.putU (Pl.zz f1)).length:Int),0):=by
    unfold Pl.qCL
    rw [hu]
    dsimp only
    rw [Pl.unzz_zz]
   rw [hr,if_neg (by omega),if_neg (by omega),if_neg (by omega),if_neg (by omega),if_pos (by omega),hi]
   dsimp only
   rw [if_neg (by decide)]
   simp only [List.length_cons]
   congr 1 <;> omega
  ·subst z;subst z1
   obtain rfl:=List.eq_nil_of_length_eq_zero z3
   obtain rfl:=List.eq_nil_of_length_eq_zero z4
   rw [sa.qCA] at hw ⊢
   rw [en3 rfl] at hat ⊢
   obtain ⟨hlt,hr,hat2⟩:=sa.byte_back h0 hat
   dsimp only at hat2
   replace hat2:=hat2.trans (List.append_assoc _ _ _)
   have hu:=sa.uint_back (by omega) (by omega) (by omega) hat2
   have hp:0 < (Pl.putU (f2.size:Int)).length:=(Pl.puts_len 10 _).2 (by omega)
   have hlen:=sa.at_len (by omega) hat2 hp
   have h3:=sa.at_app (by omega) hat2
   rw [List.length_append,Pl.qAs] at hlen
   have hs:strOfNums ((bs.drop (a+1+((Pl.putU (f2.size:Int)).length:Int)).toNat).take ((f2.size:Int)).toNat)=f2:=by
    unfold sa.at_ at h3
    rw [h3,Int.toNat_natCast,List.take_append_of_le_length (by rw [Pl.qAs];exact Nat.le_refl _),List.take_of_length_le (by rw [Pl.qAs];exact Nat.le_refl _),Pl.qCH]
   rw [hr,if_neg (by omega),if_neg (by omega),if_neg (by omega),if_neg (by omega),if_neg (by omega),if_pos (by omega),hu]
   dsimp only
   rw [if_neg (by decide),Int.ediv_one,if_neg (by omega),if_neg (by omega),hs]
   simp only [List.length_cons,List.length_append,Pl.qAs]
   congr 1 <;> omega
  ·subst z;subst z1
   obtain rfl:=sa.nil_str z2
   obtain rfl:=List.eq_nil_of_length_eq_zero z4
   have hz:(⟨#[]⟩:ByteArray).size=0:=rfl
   simp only [List.map_nil,List.sum_nil] at hwx
   rw [en4 rfl] at hat ⊢
   obtain ⟨hlt,hr,hat2⟩:=sa.byte_back h0 hat
   dsimp only at hat2
   replace hat2:=hat2.trans (List.append_assoc _ _ _)
   have hu:=sa.uint_back (by omega) (by omega) (by omega) hat2
   have h3:=sa.at_app (by omega) hat2
   have hA:=sa.arr_back f3 hch [] (a+1+((Pl.putU (f3.length:Int)).length:Int)) (l - 1) rest (by omega) h3 (by omega) (by omega)
   rw [hr,if_neg (by omega),if_neg (by omega),if_neg (by omega),if_neg (by omega),if_neg (by omega),if_neg (by omega),if_pos (by omega),hu]
   dsimp only
   rw [if_neg (by decide),Int.ediv_one,if_neg (by omega),Int.toNat_natCast,hA]
   unfold sa.arrV
   simp only [List.nil_append,List.length_cons,List.length_append]
   congr 1 <;> omega
  ·subst z;subst z1
   obtain rfl:=sa.nil_str z2
   have hz:(⟨#[]⟩:ByteArray).size=0:=rfl
   rw [en5 rfl] at hat ⊢
   obtain ⟨hlt,hr,hat2⟩:=sa.byte_back h0 hat
   dsimp only at hat2
   replace hat2:=hat2.trans (List.append_assoc _ _ _)
   have hu:=sa.uint_back (by omega) (by omega) (by omega) hat2
   have h3:=sa.at_app (by omega) hat2
   have hA:=sa.rec_back f3 f4 z4 hch [] [] (a+1+((Pl.putU (f3.length:Int)).length:Int)) (l - 1) rest (hk rfl) (by omega) h3 (by omega) (by omega)
   rw [hr,if_neg (by omega),if_neg (by omega),if_neg (by omega),if_neg (by omega),if_neg (by omega),if_neg (by omega),if_neg (by omega),if_pos (by omega),hu]
   dsimp only
   rw [if_neg (by decide),if_neg (by omega),Int.toNat_natCast,hA]
   unfold sa.recV
   simp only [List.nil_append,List.length_cons,List.length_append]
   congr 1 <;> omega
end
end Go.Proofs.Ytdommiicjpjfpaa.X
namespace Go.Proofs.Ytdommiicjpjfpaa.X
open Go.RowKit Go.Proofs.YtdommiicjpjfpaaW.PrintWords Go.Proofs.YtdommiicjpjfpaaW.PrintLast Go.Proofs.YtdommiicjpjfpaaW.PrintMore Go.Proofs.YtdommiicjpjfpaaW
section
set_option maxRecDepth 100000
open Go.Proofs.Ytdommiicjpjfpaa
theorem sa.mn_le {s:Nat} {W:Int} (h:¬ 2048 < W+1+mn (s:Int) 2048) (hW:0≤W):mn (s:Int) 2048=(s:Int)∧s≤2048:=by
 rw [mn_eq] at h ⊢
 split at h
 ·omega
 ·rename_i hn;rw [if_neg hn];omega
def sa.MW (K:Nat):Prop:=∀ (x:S34) (ar D W D' W':Int),Val x→0≤ar→ar≤8→0≤D→0≤W→W≤4096→qAK.w K x.f0 x.f1 x.f2 x.f3 x.f4 ar D W=some (true,D',W')→sa.okV (8 - ar).toNat x∧W+(wt x:Int)=W'∧W'≤2048∧0≤D'
def sa.ML (K:Nat):Prop:=∀ (f0 f1:Int) (f2:ByteArray) (f3:List S34) (f4:List ByteArray) (ar D W D' W':Int) (i:Nat),(∀ y ∈ f3,Val y)→f3.length≤9223372036854775807→(f0=5→f4.length=f3.length)→(∀ s ∈ f4,s.size≤9223372036854775807)→0≤ar→ar≤7→0≤D→0≤W→W≤2048→i≤f3.length→qAK.l K f0 f1 f2 f3 f4 ar D W (i:Int)=some (true,D',W') →
   (∀ y ∈ f3.drop i,sa.okV (7 - ar).toNat y)∧(f0=5→∀ j:Nat,i≤j→j < f4.length→(rdOf ByteArray.empty f4 (j:Int)).size≤32∧(0 < j→Op.bytesLess (rdOf ByteArray.empty f4 ((j:Int) - 1)).toList (rdOf ByteArray.empty f4 (j:Int)).toList=true))∧W+(qBq f0 f3 f4 i:Int)=W'∧W'≤2048∧0≤D'
set_option maxHeartbeats 2000000 in
theorem sa.meas_w {K:Nat} (ihl:sa.ML K):sa.MW (K+1):=by
 intro x ar D W D' W' hv h0 h1 h2 h3 h4 h
 obtain ⟨_,a0,b0,a1,b1,l2,l3,l4,k4,k3⟩:=hv
 have ea:wrap64 (ar+1)=ar+1:=X.w64 _ (by omega) (by omega)
 have hm:0≤mn (x.f2.size:Int) 2048∧mn (x.f2.size:Int) 2048≤2048:=by rw [mn_eq];split <;> omega
 have ew:wrap64 (W+wrap64 (1+mn (x.f2.size:Int) 2048))=W+1+mn (x.f2.size:Int) 2048:=by
  rw [X.w64 (1+mn (x.f2.size:Int) 2048) (by omega) (by omega),X.w64 _ (by omega) (by omega)];omega
 rw [qAK.w,ea,ew] at h
 by_cases c1:8 < mx D (ar+1)
 ·rw [if_pos c1] at h;cases h
 rw [if_neg c1] at h
 have ha:ar≤7:=by rw [mx_eq] at c1;split at c1 <;> omega
 have hm0:0≤mx D (ar+1):=by rw [mx_eq];split <;> omega
 by_cases c2:2048 < W+1+mn (x.f2.size:Int) 2048
 ·rw [if_pos c2] at h;cases h
 rw [if_neg c2] at h
 obtain ⟨e2,s2⟩:=sa.mn_le c2 h3
 rw [e2] at h c2
 rw [qAg.f,Option.bind_some] at h
 cases hf:qAg.b x.f0 x.f1 x.f2 x.f3.length x.f4.length with
 | false=>rw [hf,if_neg (by decide)] at h;cases h
 | true =>
  rw [hf,if_pos rfl] at h
  have hlen:=form_len l3 l4 hf
  obtain ⟨g1,g2,g3,g4,g5⟩:=ihl x.f0 x.f1 x.f2 x.f3 x.f4 ar (mx D (ar+1)) (W+1+(x.f2.size:Int)) D' W' 0 k3 l3 hlen.1 k4 h0 ha hm0 (by omega) (by omega) (Nat.zero_le _) h
  have hkeys:((x.f4.map fun s=>1+s.size).sum:Nat)=if x.f0=5 then ((x.f4.drop 0).map fun s=>1+s.size).sum else 0:=by
   split
   ·simp
   ·rename_i k5
    have h40:x.f4=[]:=by
     rcases qBu l3 l4 hf with z | z | z | z | z | z
     all_goals first | exact List.eq_nil_of_length_eq_zero z.2.2.2.2 | exact List.eq_nil_of_length_eq_zero z.2.2.2 | exact absurd z.1 k5
    rw [h40];rfl
  have e1:(wt x:Int)=1+(x.f2.size:Int)+(qBq x.f0 x.f3 x.f4 0:Int):=by
   rw [wt_eq,hkeys]
   unfold qBq
   simp only [List.drop_zero]
   omega
  refine ⟨?_,by omega,g4,g5⟩
  rw [show (8 - ar).toNat=(7 - ar).toNat+1 by omega]
  refine ⟨hf,fun h5=>⟨fun s hs => ?_,fun i hi => ?_⟩,fun y hy=>g1 y (by rw [List.drop_zero];exact hy)⟩
  ·obtain ⟨j,hj,rfl⟩:=List.getElem_of_mem hs
   have:=(g2 h5 j (Nat.zero_le _) hj).1
   unfold rdOf at this
   rw [Int.toNat_natCast,List.getD_eq_getElem?_getD,List.getElem?_eq_getElem hj] at this
   exact this
  ·have:=(g2 h5 (i+1) (Nat.zero_le _) hi).2 (by omega)
   rw [show ((i+1:Nat):Int) - 1=(i:Int) by omega] at this
   exact this
set_option maxHeartbeats 2000000 in
theorem sa.meas_l2 {K:Nat} (ihw:sa.MW K) (ihl:sa.ML K):sa.ML (K+1):=by
 intro f0 f1 f2 f3 f4 ar D W D' W' i hv hl h45 hs h0 h1 h2 h3 h4 hi h
 rw [qAK.l] at h
 by_cases c:(i:Int) < (f3.length:Int)
 ·rw [if_pos c,if_pos (by omega)] at h
  have ei:wrap64 ((i:Int)+1)=((i+1:Nat):Int):=by rw [X.w64 _ (by omega) (by omega)];omega
  have ea:wrap64 (ar+1)=ar+1:=X.w64 _ (by omega) (by omega)
  have hrs:=wrest_succ f0 f3 f4 i (by omega) h45
  have hd:=at_drop f3 i (by omega)
  have hvx:=hv _ (at_mem f3 i (by omega))
  rw [hd]
  generalize hx:qAV f3 (i:Int)=x at hrs h hvx ⊢
  have key:∀ V:Int,0≤V→V≤4096→((qAK.w K x.f0 x.f1 x.f2 x.f3 x.f4 (ar+1) D V).bind fun r=>if r.1=true then qAK.l K f0 f1 f2 f3 f4 ar r.2.1 r.2.2 ((i+1:Nat):Int) else some (false,r.2.1,r.2.2))=some (true,D',W') →
    (∀ y ∈ x :: f3.drop (i+1),sa.okV (7 - ar).toNat y)∧(f0=5→∀ j:Nat,i+1≤j→j < f4.length→(rdOf ByteArray.empty f4 (j:Int)).size≤32∧(0 < j→Op.bytesLess (rdOf ByteArray.empty f4 ((j:Int) - 1)).toList (rdOf ByteArray.empty f4 (j:Int)).toList=true))∧V+(wt x:Int)+(qBq f0 f3 f4 (i+1):Int)=W'∧W'≤2048∧0≤D':=by
   intro V v0 v1 hh
   obtain ⟨r,hr,hh⟩:=Option.bind_eq_some_iff.1 hh
   obtain ⟨t,D1,W1⟩:=r
   dsimp only at hh
   cases t with
   | false=>rw [if_neg (by decide)] at hh;cases hh
   | true =>
    rw [if_pos rfl] at hh
    obtain ⟨q1,q2,q3,q4⟩:=ihw x (ar+1) D V D1 W1 hvx (by omega) (by omega) h2 v0 v1 hr
    obtain ⟨g1,g2,g3,g4,g5⟩:=ihl f0 f1 f2 f3 f4 ar D1 W1 D' W' (i+1) hv hl h45 hs h0 h1 q4 (by omega) q3 (by omega) hh
    refine ⟨fun y hy => ?_,g2,by omega,g4,g5⟩
    rcases List.mem_cons.1 hy with rfl | hy
    ·rw [show (8 - (ar+1)).toNat=(7 - ar).toNat by omega] at q1;exact q1
    ·exact g1 y hy
  by_cases k5:f0=5
  ·have q4:(i:Int) < (f4.length:Int):=by have:=h45 k5;omega
   rw [if_pos k5,if_pos q4] at h
   by_cases g1:32 < ((rdOf ByteArray.empty f4 (i:Int)).size:Int)
   ·rw [if_pos g1] at h;cases h
   rw [if_neg g1] at h
   by_cases g2:0 < (i:Int)∧(Op.bytesLess ((rdOf ByteArray.empty f4 ((i:Int) - 1)).toList) ((rdOf ByteArray.empty f4 (i:Int)).toList))=false
   ·rw [if_pos g2] at h;cases h
   rw [if_neg g2] at h
   have et:wrap64 (W+wrap64 (1+((rdOf ByteArray.empty f4 (i:Int)).size:Int)))=W+1+((rdOf ByteArray.empty f4 (i:Int)).size:Int):=by
    rw [X.w64 (1+((rdOf ByteArray.empty f4 (i:Int)).size:Int)) (by omega) (by omega),X.w64 _ (by omega) (by omega)]
    omega
   rw [et,ea,ei] at h
   obtain ⟨p1,p2,p3,p4,p5⟩:=key _ (by omega) (by omega) h
   rw [if_pos k5] at hrs
   refine ⟨p1,fun h5 j hj1 hj2 => ?_,by omega,p4,p5⟩
   by_cases hj:i+1≤j
   ·exact p2 h5 j hj hj2
   ·obtain rfl:j=i:=by omega
    refine ⟨by omega,fun hp => ?_⟩
    cases hb:Op.bytesLess ((rdOf ByteArray.empty f4 ((j:Int) - 1)).toList) ((rdOf ByteArray.empty f4 (j:Int)).toList) with
    | true=>rfl
    | false =>
      have hp2:(0:Int) < (j:Int):=Int.natCast_pos.2 hp
      exact (g2 ⟨hp2,hb⟩).elim
  ·rw [if_neg k5,ea,ei] at h
   obtain ⟨p1,p2,p3,p4,p5⟩:=key W h3 (by omega) h
   rw [if_neg k5] at hrs
   exact ⟨p1,fun h5=>absurd h5 k5,by omega,p4,p5⟩
 ·rw [if_neg c] at h
  injection h with h
  injection h with e1 e2
  injection e2 with e2 e3
  subst e2;subst e3
  have hi2:f3.length≤i:=by omega
  rw [List.drop_eq_nil_of_le hi2,wrest_end f0 f3 f4 i hi2 h45]
  exact ⟨fun y hy=>(by cases hy),fun h5 j hj1 hj2=>absurd (h45 h5) (by omega),by omega,h4,h2⟩
theorem sa.meas_inv:∀ K:Nat,sa.MW K∧sa.ML K
 | 0=>by
  constructor
  ·intro x ar D W D' W' hv h0 h1 h2 h3 h4 h
   rw [qAK.w] at h
   cases h
  ·intro f0 f1 f2 f3 f4 ar D W D' W' i hv hl h45 hs h0 h1 h2 h3 h4 hi h
   rw [qAK.l] at h
   cases h
 | K+1=>⟨sa.meas_w (sa.meas_inv K).2,sa.meas_l2 (sa.meas_inv K).1 (sa.meas_inv K).2⟩
theorem Ev.uniq {α:Type} {g:Nat→Option α} {r s:α} (h:Ev g r) (k:Ev g s):r=s:=by
 obtain ⟨K,hK⟩:=h
 obtain ⟨L,hL⟩:=k
 have h1:=hK (K+L) (by omega)
 have h2:=hL (K+L) (by omega)
 rw [h1] at h2
 exact Option.some.inj h2
def sa.Rt (x:S34):Prop:=sa.okV 8 x∧wt x≤2048
theorem sa.okV_frm:∀ (d:Nat) (x:S34),sa.okV d x→Frm x
 | 0,x,h=>h.elim
 | d+1,x,h=>.mk x h.1 (fun y hy=>sa.okV_frm d y (h.2.2 y hy))
theorem sa.told1 (x:S34) (hv:Val x):(sa.Rt x∧0 < wt x∧Ev (fun k=>qBB.f k x.f0 x.f1 x.f2 x.f3 x.f4) true∧Ev (fun k=>qAr.f k x.f0 x.f1 x.f2 x.f3 x.f4) (wt x:Int)) ∨
  (¬ sa.Rt x∧Ev (fun k=>qBB.f k x.f0 x.f1 x.f2 x.f3 x.f4) false∧Ev (fun k=>qAr.f k x.f0 x.f1 x.f2 x.f3 x.f4) 0):=by
 rcases good x hv 0 0 0 (by omega) (by omega) (by omega) (by omega) (by omega) (by omega) with ⟨D',W',d,m,r,q,hD,hd,hD8,hW0,hW1,hF,hw⟩ | ⟨D',W',m,r⟩
 ·left
  have hm:Ev (fun k=>qAK.f k x.f0 x.f1 x.f2 x.f3 x.f4) (W',D'):=Ev.bind m (by simpa using Ev.const)
  have hW:Ev (fun k=>qAr.f k x.f0 x.f1 x.f2 x.f3 x.f4) W':=Ev.bind hm Ev.const
  have hR:Ev (fun k=>qBB.f k x.f0 x.f1 x.f2 x.f3 x.f4) true:=Ev.bind hW (by rw [decide_eq_true (by omega)];exact Ev.const)
  obtain ⟨K,hK⟩:=m
  have hi:=(sa.meas_inv K).1 x 0 0 0 D' W' hv (by omega) (by omega) (by omega) (by omega) (by omega) (hK K (Nat.le_refl _))
  have he:W'=(wt x:Int):=by have:=hi.2.1;omega
  exact ⟨⟨hi.1,by omega⟩,by omega,hR,he▸hW⟩
 ·right
  have hm:Ev (fun k=>qAK.f k x.f0 x.f1 x.f2 x.f3 x.f4) (0,0):=Ev.bind m (by simpa using Ev.const)
  have hW:Ev (fun k=>qAr.f k x.f0 x.f1 x.f2 x.f3 x.f4) 0:=Ev.bind hm Ev.const
  have hR:Ev (fun k=>qBB.f k x.f0 x.f1 x.f2 x.f3 x.f4) false:=Ev.bind hW (by rw [decide_eq_false (by omega)];exact Ev.const)
  refine ⟨fun hc => ?_,hR,hW⟩
  obtain ⟨D2,_,_,hm2⟩:=sa.meas_ok 8 x hc.1 0 0 0 (by omega) (by omega) (by omega) (by omega) (by omega) (by have:=hc.2;omega)
  have:=m.uniq hm2
  injection this with e1 _
  cases e1
end
end Go.Proofs.Ytdommiicjpjfpaa.X
namespace Go.Proofs.Ytdommiicjpjfpaa.X
open Go.RowKit Go.Proofs.YtdommiicjpjfpaaW.PrintWords Go.Proofs.YtdommiicjpjfpaaW.PrintLast Go.Proofs.YtdommiicjpjfpaaW.PrintMore Go.Proofs.YtdommiicjpjfpaaW
section
set_option maxRecDepth 100000
open Go.Proofs.Ytdommiicjpjfpaa
theorem sa.uin_of {bs:List Int} (hb:Pl.Bytes bs) (hl:bs.length≤140737488351232):sa.Uin bs (Pl.qAk bs) (Pl.qCL bs) where
 U:=⟨24,fun a=>Pl.Uint_eq 24 (Nat.le_refl _) bs hb (by omega) a⟩
 I:=⟨24,fun a=>Pl.Int_eq 24 (Nat.le_refl _) bs hb (by omega) a⟩
 R:=fun a=>Pl.qBS bs hb a
 N:=fun a h=>by have:=Pl.qBi bs hb a h;omega
 M:=fun a h=>by have:=Pl.qBi bs hb a h;show 0≤a∧a < (Pl.qAk bs a).2.1∧(Pl.qAk bs a).2.1≤bs.length;omega
 V:=fun a=>Pl.unzz_range _ (Pl.qBS bs hb a).1 (Pl.qBS bs hb a).2
 L:=hl
 B:=hb
def sa.sm:Nat→S34→Prop
 | 0,_=>False
 | d+1,x=>(0≤x.f0∧x.f0≤5)∧(-9223372036854775808≤x.f1∧x.f1≤9223372036854775807)∧x.f2.size≤2048∧x.f3.length≤2048∧x.f4.length≤2048∧(∀ s ∈ x.f4,s.size≤2048)∧∀ y ∈ x.f3,sa.sm d y
theorem sa.sm.val:∀ (d:Nat) {x:S34},sa.sm d x→Val x∧Siz x
 | 0,x,h=>h.elim
 | d+1,x,h=>by
  obtain ⟨h0,h1,h2,h3,h4,k4,k3⟩:=h
  exact ⟨.mk x (by omega) (by omega) h1.1 h1.2 (by omega) (by omega) (by omega) (fun s hs=>by have:=k4 s hs;omega) (fun y hy=>(sa.sm.val d (k3 y hy)).1),.mk x (by omega) (by omega) (by omega) (fun s hs=>by have:=k4 s hs;omega) (fun y hy=>(sa.sm.val d (k3 y hy)).2)⟩
theorem sa.arrL_sm {n:Nat} {p:S34→Prop} {f:Int→Int→sa.R3 S34} (hf:∀ (a l:Int) (x:S34) (a2 l2:Int),sa.Bd n a l→f a l=.ok x a2 l2→p x∧sa.Bd n a2 l2):∀ (k:Nat) (acc:List S34) (a l:Int) (vs:List S34) (a2 l2:Int),sa.Bd n a l→(∀ y ∈ acc,p y)→sa.arrL f k acc a l=.ok vs a2 l2→(∀ y ∈ vs,p y)∧vs.length=acc.length+k
 | 0,acc,a,l,vs,a2,l2,hb,hp,h=>by
  unfold sa.arrL at h
  injection h with e1 _ _
  subst e1;exact ⟨hp,rfl⟩
 | k+1,acc,a,l,vs,a2,l2,hb,hp,h=>by
  unfold sa.arrL at h
  rcases hfa:f a l with ⟨x,a1,l1⟩ | ⟨e,q⟩
  ·rw [hfa] at h
   have hx:=hf a l x a1 l1 hb hfa
   have:=sa.arrL_sm hf k (acc ++ [x]) a1 l1 vs a2 l2 hx.2 (fun y hy=>by
    rcases List.mem_append.1 hy with hy | hy
    ·exact hp y hy
    ·rw [List.mem_singleton.1 hy];exact hx.1) h
   refine ⟨this.1, ?_⟩
   rw [this.2,List.length_append,List.length_singleton]
   omega
  ·rw [hfa] at h;cases h
theorem sa.keyS_sm {bs:List Int} {u i:Int→Int × Int × Int} (hU:sa.Uin bs u i) {ks:List ByteArray} {a l a2 l2:Int} {k:ByteArray} (h:sa.keyS bs u ks a l=.ok k a2 l2):k.size≤2048:=by
 unfold sa.keyS at h
 by_cases h1:(u a).2.2 ≠ 0
 ·rw [if_pos h1] at h;cases h
 rw [if_neg h1] at h
 by_cases h2:(u a).1 > 32
 ·rw [if_pos h2] at h;cases h
 rw [if_neg h2] at h
 by_cases h3:(u a).1 > (bs.length:Int) - (u a).2.1
 ·rw [if_pos h3] at h;cases h
 rw [if_neg h3] at h
 dsimp only at h
 split at h
 ·cases h
 split at h
 ·cases h
 ·injection h with e1 e2 e3
  subst e1
  rw [sa.qB3,List.length_take]
  have:=(hU.R a).1
  omega
theorem sa.recL_sm {bs:List Int} {u i:Int→Int × Int × Int} (hU:sa.Uin bs u i) {p:S34→Prop} {f:Int→Int→sa.R3 S34} (hf:∀ (a l:Int) (x:S34) (a2 l2:Int),sa.Bd bs.length a l→f a l=.ok x a2 l2→p x∧sa.Bd bs.length a2 l2):∀ (k:Nat) (ks:List ByteArray) (acc:List S34) (a l:Int) (vs:List ByteArray × List S34) (a2 l2:Int),sa.Bd bs.length a l→(∀ y ∈ acc,p y)→(∀ s ∈ ks,s.size≤2048)→sa.recL bs u f k ks acc a l=.ok vs a2 l2→(∀ y ∈ vs.2,p y)∧vs.2.length=acc.length+k∧(∀ s ∈ vs.1,s.size≤2048)∧vs.1.length=ks.length+k
 | 0,ks,acc,a,l,vs,a2,l2,hb,hp,hk,h=>by
  unfold sa.recL at h
  injection h with e1 _ _
  subst e1;exact ⟨hp,rfl,hk,rfl⟩
 | k+1,ks,acc,a,l,vs,a2,l2,hb,hp,hk,h=>by
  unfold sa.recL at h
  rcases hka:sa.keyS bs u ks a l with ⟨kk,a1,l1⟩ | ⟨e,q⟩
  ·rw [hka] at h
   have hb1:sa.Bd bs.length a1 l1:=sa.keyS_b hU ⟨hb.2.2.1,hb.2.2.2⟩ hka
   have hks:=sa.keyS_sm hU hka
   dsimp only at h
   rcases hfa:f a1 l1 with ⟨x,a3,l3⟩ | ⟨e,q⟩
   ·rw [hfa] at h
    have hx:=hf a1 l1 x a3 l3 hb1 hfa
    have:=sa.recL_sm hU hf k (ks ++ [kk]) (acc ++ [x]) a3 l3 vs a2 l2 hx.2 (fun y hy=>by
     rcases List.mem_append.1 hy with hy | hy
     ·exact hp y hy
     ·rw [List.mem_singleton.1 hy];exact hx.1) (fun s hs=>by
     rcases List.mem_append.1 hs with hs | hs
     ·exact hk s hs
     ·rw [List.mem_singleton.1 hs];exact hks) h
    refine ⟨this.1, ?_,this.2.2.1, ?_⟩
    ·rw [this.2.1,List.length_append,List.length_singleton];omega
    ·rw [this.2.2.2,List.length_append,List.length_singleton];omega
   ·rw [hfa] at h;cases h
  ·rw [hka] at h;cases h
theorem sa.sm.mk {d:Nat} {f0 f1:Int} {f2:ByteArray} {f3:List S34} {f4:List ByteArray} (h0:0≤f0∧f0≤5) (h1 : -9223372036854775808≤f1∧f1≤9223372036854775807) (h2:f2.size≤2048) (h3:f3.length≤2048) (h4:f4.length≤2048) (k4:∀ s ∈ f4,s.size≤2048) (k3:∀ y ∈ f3,sa.sm d y):sa.sm (d+1) ⟨f0,f1,f2,f3,f4⟩:=⟨h0,h1,h2,h3,h4,k4,k3⟩
theorem sa.valS_sm {bs:List Int} {u i:Int→Int × Int × Int} (hU:sa.Uin bs u i):∀ (d:Nat) (a l:Int) (x:S34) (a2 l2:Int),sa.Bd bs.length a l→sa.valS bs u i d a l=.ok x a2 l2→sa.sm d x
 | 0,a,l,x,a2,l2,hb,h=>by
  rw [sa.valS] at h
  split at h <;> cases h
 | d+1,a,l,x,a2,l2,hb,h=>by
  rw [sa.valS_s] at h
  have hbb:=hb
  obtain ⟨b1,b2,b3,b4⟩:=hb
  have leaf:∀ {f0 f1:Int} {f2:ByteArray} {b m:Int},(0≤f0∧f0≤5)→(-9223372036854775808≤f1∧f1≤9223372036854775807)→f2.size≤2048→sa.R3.ok (⟨f0,f1,f2,[],[]⟩:S34) b m=.ok x a2 l2→sa.sm (d+1) x:=fun q0 q1 q2 h=>by
   injection h with e1 _ _
   subst e1
   exact sa.sm.mk q0 q1 q2 (Nat.zero_le _) (Nat.zero_le _) (fun s hs=>by cases hs) (fun y hy=>by cases hy)
  have nb:∀ {e q:Int},sa.R3.bad e q=.ok x a2 l2→sa.sm (d+1) x:=fun h=>by cases h
  have hz:(⟨#[]⟩:ByteArray).size≤2048:=by decide
  have ih:∀ (a l:Int) (x:S34) (a2 l2:Int),sa.Bd bs.length a l→sa.valS bs u i d a l=.ok x a2 l2→sa.sm d x∧sa.Bd bs.length a2 l2:=fun a l x a2 l2 q h=>⟨sa.valS_sm hU d a l x a2 l2 q h,sa.valS_b hU d a l x a2 l2 q h⟩
  by_cases h0:a=(bs.length:Int) ∨ rd bs a > 6
  ·rw [if_pos h0] at h;exact nb h
  rw [if_neg h0] at h
  by_cases h1:1 > l
  ·rw [if_pos h1] at h;exact nb h
  rw [if_neg h1] at h
  by_cases k1:rd bs a=1
  ·rw [if_pos k1] at h;exact leaf (by omega) (by omega) hz h
  rw [if_neg k1] at h
  by_cases k2:rd bs a=2
  ·rw [if_pos k2] at h;exact leaf (by omega) (by omega) hz h
  rw [if_neg k2] at h
  by_cases k3:rd bs a=3
  ·rw [if_pos k3] at h
   by_cases e1:(i (a+1)).2.2 ≠ 0
   ·rw [if_pos e1] at h;exact nb h
   ·rw [if_neg e1] at h;exact leaf (by omega) (hU.V _) hz h
  rw [if_neg k3] at h
  by_cases k4:rd bs a=4
  ·rw [if_pos k4] at h
   by_cases e1:(u (a+1)).2.2 ≠ 0
   ·rw [if_pos e1] at h;exact nb h
   rw [if_neg e1] at h
   by_cases e2:(l - 1) / 1 < (u (a+1)).1
   ·rw [if_pos e2] at h;exact nb h
   rw [if_neg e2] at h
   rw [Int.ediv_one] at e2
   by_cases e3:(bs.length:Int) - (u (a+1)).2.1 < (u (a+1)).1
   ·rw [if_pos e3] at h;exact nb h
   ·rw [if_neg e3] at h
    refine leaf (by omega) (by omega) ?_ h
    rw [sa.qB3,List.length_take]
    have:=(hU.R (a+1)).1
    omega
  rw [if_neg k4] at h
  by_cases k5:rd bs a=5
  ·rw [if_pos k5] at h
   by_cases e1:(u (a+1)).2.2 ≠ 0
   ·rw [if_pos e1] at h;exact nb h
   rw [if_neg e1] at h
   by_cases e2:(l - 1) / 1 < (u (a+1)).1
   ·rw [if_pos e2] at h;exact nb h
   rw [if_neg e2] at h
   rw [Int.ediv_one] at e2
   have hN:=hU.N (a+1) (Classical.byContradiction e1)
   rcases hL:sa.arrL (sa.valS bs u i d) (u (a+1)).1.toNat [] (u (a+1)).2.1 (l - 1) with ⟨vs,a3,l3⟩ | ⟨e,p⟩
   ·rw [hL] at h
    have hp:=sa.arrL_sm (p:=sa.sm d) ih _ _ _ _ _ _ _ ⟨by omega,by omega,by omega,by omega⟩ (fun y hy=>by cases hy) hL
    injection h with e1 _ _
    subst e1
    have hlen:vs.length≤2048:=by rw [hp.2];simp;omega
    exact sa.sm.mk (by decide) (by decide) hz hlen (Nat.zero_le _) (fun s hs=>by cases hs) hp.1
   ·rw [hL] at h;exact nb h
  rw [if_neg k5] at h
  by_cases k6:rd bs a=6
  ·rw [if_pos k6] at h
   by_cases e1:(u (a+1)).2.2 ≠ 0
   ·rw [if_pos e1] at h;exact nb h
   rw [if_neg e1] at h
   by_cases e2:(l - 1) / 2 < (u (a+1)).1
   ·rw [if_pos e2] at h;exact nb h
   rw [if_neg e2] at h
   have hN:=hU.N (a+1) (Classical.byContradiction e1)
   have hle:(l - 1) / 2≤l - 1:=Int.ediv_le_self _ (by omega)
   rcases hL:sa.recL bs u (sa.valS bs u i d) (u (a+1)).1.toNat [] [] (u (a+1)).2.1 (l - 1) with ⟨⟨ks,vs⟩,a3,l3⟩ | ⟨e,p⟩
   ·rw [hL] at h
    have hp:=sa.recL_sm hU (p:=sa.sm d) ih _ _ _ _ _ _ _ _ ⟨by omega,by omega,by omega,by omega⟩ (fun y hy=>by cases hy) (fun s hs=>by cases hs) hL
    injection h with e1 _ _
    subst e1
    have hlen:vs.length≤2048:=by have:=hp.2.1;simp at this;omega
    have hlen4:ks.length≤2048:=by have:=hp.2.2.2;simp at this;omega
    exact sa.sm.mk (by decide) (by decide) hz hlen hlen4 hp.2.2.1 hp.1
   ·rw [hL] at h;exact nb h
  rw [if_neg k6] at h
  exact leaf (by omega) (by omega) hz h
theorem sa.keyS_bad {bs:List Int} {u:Int→Int × Int × Int} {ks:List ByteArray} {a l e p:Int} (h:sa.keyS bs u ks a l=.bad e p):e=41 ∨ e=42:=by
 unfold sa.keyS at h
 by_cases h1:(u a).2.2 ≠ 0
 ·rw [if_pos h1] at h;injection h with h _;exact Or.inl h.symm
 rw [if_neg h1] at h
 by_cases h2:(u a).1 > 32
 ·rw [if_pos h2] at h;injection h with h _;exact Or.inl h.symm
 rw [if_neg h2] at h
 by_cases h3:(u a).1 > (bs.length:Int) - (u a).2.1
 ·rw [if_pos h3] at h;injection h with h _;exact Or.inl h.symm
 rw [if_neg h3] at h
 dsimp only at h
 split at h
 ·injection h with h _;exact Or.inl h.symm
 ·split at h
  ·injection h with h _;exact Or.inr h.symm
  ·cases h
theorem sa.takeS_ok {bs:List Int} (hb:Pl.Bytes bs) (hl:bs.length≤140737488351232) {at_:Int} {x:S34} {a2 l2:Int} (hr:sa.takeS bs (Pl.qAk bs) (Pl.qCL bs) at_=.ok x a2 l2) :
  Val x∧Siz x∧sa.Rt x∧0≤at_∧at_ < a2∧a2≤(bs.length:Int)∧bs.drop at_.toNat=en x ++ bs.drop a2.toNat∧a2 - at_=((en x).length:Int):=by
 have hU:=sa.uin_of hb hl
 unfold sa.takeS at hr
 by_cases h:at_ < 0 ∨ at_ > (bs.length:Int)
 ·rw [if_pos h] at hr
  cases hr
 rw [if_neg h] at hr
 have h0:0≤at_:=by
  have:¬ at_ < 0:=fun e=>h (Or.inl e)
  omega
 have h1:at_≤(bs.length:Int):=by
  have:¬ at_ > (bs.length:Int):=fun e=>h (Or.inr e)
  omega
 have hbd:sa.Bd bs.length at_ 2048:=⟨h0,h1,by omega,by omega⟩
 have hs:=sa.valS_sm hU 8 at_ 2048 x a2 l2 hbd hr
 have hv:=sa.sm.val 8 hs
 have hk:=sa.valS_ok hU 8 at_ 2048 x a2 l2 hr
 obtain ⟨q1,q2⟩:=sa.valS_en hb hl hU 8 at_ 2048 x a2 l2 hbd hr
 obtain ⟨p0,p1,p2,p3⟩:=sa.valS_b hU 8 at_ 2048 x a2 l2 hbd hr
 have hp:=en_pos x
 have ha:=sa.at_len h0 q1 hp
 have hal:(sa.at_ bs a2).length=bs.length - a2.toNat:=by unfold sa.at_;rw [List.length_drop]
 rw [hal] at ha
 exact ⟨hv.1,hv.2,⟨hk,by omega⟩,h0,by omega,p1,q1,by omega⟩
theorem sa.takeS_put (x:S34) (hv:Val x) (hr:sa.Rt x) (es ys zs:List Int) (h:es ++ (en x ++ ys)=zs):∃ l2,sa.takeS zs (Pl.qAk zs) (Pl.qCL zs) (es.length:Int)=.ok x ((es.length:Int)+((en x).length:Int)) l2:=by
 have hq:=sa.valS_back (bs:=zs) 8 x hv hr.1 (es.length:Int) 2048 ys (Int.natCast_nonneg _) (by unfold sa.at_;rw [Int.toNat_natCast,← h,List.drop_left'];rfl) (by have:=hr.2;omega) (by omega)
 have hl:es.length≤zs.length:=by rw [← h,List.length_append];omega
 unfold sa.takeS
 rw [if_neg (by omega),hq]
 exact ⟨_,rfl⟩
end
end Go.Proofs.Ytdommiicjpjfpaa.X
namespace Go.Proofs.Ytdommiicjpjfpaa.X
open Go.RowKit Go.Proofs.YtdommiicjpjfpaaW.PrintWords Go.Proofs.YtdommiicjpjfpaaW.PrintLast Go.Proofs.YtdommiicjpjfpaaW.PrintMore Go.Proofs.YtdommiicjpjfpaaW
section
set_option maxRecDepth 100000
open Go.Proofs.Ytdommiicjpjfpaa
def sa.Pb (n:Nat) (e p:Int):Prop:=(e=41 ∨ e=42)∧0≤p∧p≤(n:Int)
theorem sa.keyS_pl {bs:List Int} {u:Int→Int × Int × Int} {ks:List ByteArray} {a l e p:Int} (hb:sa.Bd bs.length a l) (h:sa.keyS bs u ks a l=.bad e p):sa.Pb bs.length e p:=by
 refine ⟨sa.keyS_bad h, ?_⟩
 have hp:p=a:=by
  unfold sa.keyS at h
  by_cases h1:(u a).2.2 ≠ 0
  ·rw [if_pos h1] at h;injection h with _ h;exact h.symm
  rw [if_neg h1] at h
  by_cases h2:(u a).1 > 32
  ·rw [if_pos h2] at h;injection h with _ h;exact h.symm
  rw [if_neg h2] at h
  by_cases h3:(u a).1 > (bs.length:Int) - (u a).2.1
  ·rw [if_pos h3] at h;injection h with _ h;exact h.symm
  rw [if_neg h3] at h
  dsimp only at h
  split at h
  ·injection h with _ h;exact h.symm
  ·split at h
   ·injection h with _ h;exact h.symm
   ·cases h
 rw [hp]
 exact ⟨hb.1,hb.2.1⟩
theorem sa.arrL_pl {n:Nat} {f:Int→Int→sa.R3 S34} (hf:∀ (a l:Int) (x:S34) (a2 l2:Int),sa.Bd n a l→f a l=.ok x a2 l2→sa.Bd n a2 l2) (hg:∀ a l e p,sa.Bd n a l→f a l=.bad e p→sa.Pb n e p):∀ (k:Nat) (acc:List S34) (a l e p:Int),sa.Bd n a l→sa.arrL f k acc a l=.bad e p→sa.Pb n e p
 | 0,acc,a,l,e,p,hb,h=>by
  unfold sa.arrL at h
  cases h
 | k+1,acc,a,l,e,p,hb,h=>by
  unfold sa.arrL at h
  rcases hfa:f a l with ⟨x,a1,l1⟩ | ⟨e1,q⟩
  ·rw [hfa] at h
   exact sa.arrL_pl hf hg k (acc ++ [x]) a1 l1 e p (hf a l x a1 l1 hb hfa) h
  ·rw [hfa] at h
   injection h with e2 e3
   rw [← e2,← e3]
   exact hg a l e1 q hb hfa
theorem sa.recL_pl {bs:List Int} {u i:Int→Int × Int × Int} (hU:sa.Uin bs u i) {f:Int→Int→sa.R3 S34} (hf:∀ (a l:Int) (x:S34) (a2 l2:Int),sa.Bd bs.length a l→f a l=.ok x a2 l2→sa.Bd bs.length a2 l2) (hg:∀ a l e p,sa.Bd bs.length a l→f a l=.bad e p→sa.Pb bs.length e p):∀ (k:Nat) (ks:List ByteArray) (acc:List S34) (a l e p:Int),sa.Bd bs.length a l→sa.recL bs u f k ks acc a l=.bad e p→sa.Pb bs.length e p
 | 0,ks,acc,a,l,e,p,hb,h=>by
  unfold sa.recL at h
  cases h
 | k+1,ks,acc,a,l,e,p,hb,h=>by
  unfold sa.recL at h
  rcases hk:sa.keyS bs u ks a l with ⟨x,a1,l1⟩ | ⟨e1,q⟩
  ·have hb1:sa.Bd bs.length a1 l1:=sa.keyS_b hU ⟨hb.2.2.1,hb.2.2.2⟩ hk
   rw [hk] at h
   dsimp only at h
   rcases hfa:f a1 l1 with ⟨y,a2,l2⟩ | ⟨e1,q⟩
   ·rw [hfa] at h
    exact sa.recL_pl hU hf hg k (ks ++ [x]) (acc ++ [y]) a2 l2 e p (hf a1 l1 y a2 l2 hb1 hfa) h
   ·rw [hfa] at h
    injection h with e2 e3
    rw [← e2,← e3]
    exact hg a1 l1 e1 q hb1 hfa
  ·rw [hk] at h
   injection h with e2 e3
   rw [← e2,← e3]
   exact sa.keyS_pl hb hk
theorem sa.countS_pl {n:Nat} {u:Int→Int × Int × Int} {t c a l e p:Int} (h0:0≤t) (h1:t≤(n:Int)) (h2:0≤a) (h3:a≤(n:Int)) (h:sa.qCF u t c a l=.bad e p):sa.Pb n e p:=by
 unfold sa.qCF at h
 split at h
 ·injection h with h k;subst h;subst k;exact ⟨Or.inl rfl,h2,h3⟩
 ·split at h
  ·injection h with h k;subst h;subst k;exact ⟨Or.inr rfl,h0,h1⟩
  ·cases h
theorem sa.countS_to {bs:List Int} {u i:Int→Int × Int × Int} (hU:sa.Uin bs u i) {t c a l n a1 l1:Int} (hl:0≤l∧l≤2048) (h:sa.qCF u t c a l=.ok n a1 l1):sa.Bd bs.length a1 l1:=by
 unfold sa.qCF at h
 split at h
 ·cases h
 ·rename_i h1
  split at h
  ·cases h
  ·injection h with e1 e2 e3
   have:=hU.N a (by simpa using h1)
   exact ⟨by omega,by omega,by omega,by omega⟩
theorem sa.valS_pl {bs:List Int} {u i:Int→Int × Int × Int} (hU:sa.Uin bs u i):∀ (d:Nat) (a l e p:Int),sa.Bd bs.length a l→sa.valS bs u i d a l=.bad e p→sa.Pb bs.length e p:=by
 intro d
 induction d with
 | zero =>
  intro a l e p hb h
  unfold sa.valS at h
  split at h
  ·injection h with h k;subst h;subst k;exact ⟨Or.inl rfl,hb.1,hb.2.1⟩
  ·injection h with h k;subst h;subst k;exact ⟨Or.inr rfl,hb.1,hb.2.1⟩
 | succ d ih =>
  intro a l e p hb h
  unfold sa.valS at h
  split at h
  ·injection h with h k;subst h;subst k;exact ⟨Or.inl rfl,hb.1,hb.2.1⟩
  rename_i hne
  have ha1:a+1≤(bs.length:Int):=by
   have h1:a ≠ (bs.length:Int):=fun q=>hne (Or.inl q)
   have:=hb.2.1
   omega
  have h0:=hb.1
  have hle:=hb.2.1
  dsimp only at h
  split at h
  ·injection h with h k;subst h;subst k;exact ⟨Or.inr rfl,hb.1,hb.2.1⟩
  rename_i hl1
  have hl:0≤l - 1∧l - 1≤2048:=⟨by omega,by have:=hb.2.2.2;omega⟩
  split at h
  ·cases h
  split at h
  ·cases h
  split at h
  ·split at h
   ·injection h with h k;subst h;subst k;exact ⟨Or.inl rfl,by omega,ha1⟩
   ·cases h
  split at h
  ·rcases hc:sa.qCF u a 1 (a+1) (l - 1) with ⟨x,a1,l1⟩ | ⟨e1,q⟩
   ·rw [hc] at h
    dsimp only at h
    split at h
    ·injection h with h k;subst h;subst k;exact ⟨Or.inl rfl,by omega,ha1⟩
    ·cases h
   ·rw [hc] at h
    injection h with e2 e3
    rw [← e2,← e3]
    exact sa.countS_pl h0 hle (by omega) ha1 hc
  split at h
  ·rcases hc:sa.qCF u a 1 (a+1) (l - 1) with ⟨x,a1,l1⟩ | ⟨e1,q⟩
   ·have hb1:=sa.countS_to hU hl hc
    rw [hc] at h
    dsimp only at h
    rcases hr:sa.arrL (sa.valS bs u i d) x.toNat [] a1 l1 with ⟨y,a2,l2⟩ | ⟨e1,q⟩
    ·rw [hr] at h;cases h
    ·rw [hr] at h
     injection h with e2 e3
     rw [← e2,← e3]
     exact sa.arrL_pl (sa.valS_b hU d) ih _ _ _ _ _ _ hb1 hr
   ·rw [hc] at h
    injection h with e2 e3
    rw [← e2,← e3]
    exact sa.countS_pl h0 hle (by omega) ha1 hc
  split at h
  ·rcases hc:sa.qCF u a 2 (a+1) (l - 1) with ⟨x,a1,l1⟩ | ⟨e1,q⟩
   ·have hb1:=sa.countS_to hU hl hc
    rw [hc] at h
    dsimp only at h
    rcases hr:sa.recL bs u (sa.valS bs u i d) x.toNat [] [] a1 l1 with ⟨y,a2,l2⟩ | ⟨e1,q⟩
    ·rw [hr] at h;cases h
    ·rw [hr] at h
     injection h with e2 e3
     rw [← e2,← e3]
     exact sa.recL_pl hU (sa.valS_b hU d) ih _ _ _ _ _ _ _ hb1 hr
   ·rw [hc] at h
    injection h with e2 e3
    rw [← e2,← e3]
    exact sa.countS_pl h0 hle (by omega) ha1 hc
  ·cases h
theorem sa.takeS_bad {bs:List Int} (hb:Pl.Bytes bs) (hl:bs.length≤140737488351232) {at_ e p:Int} (hr:sa.takeS bs (Pl.qAk bs) (Pl.qCL bs) at_=.bad e p):sa.Pb bs.length e p:=by
 unfold sa.takeS at hr
 by_cases h:at_ < 0 ∨ at_ > (bs.length:Int)
 ·rw [if_pos h] at hr
  injection hr with h k;subst h;subst k
  exact ⟨Or.inl rfl,Int.le_refl _,Int.natCast_nonneg _⟩
 rw [if_neg h] at hr
 have h0:0≤at_:=by
  have:¬ at_ < 0:=fun e=>h (Or.inl e)
  omega
 have h1:at_≤(bs.length:Int):=by
  have:¬ at_ > (bs.length:Int):=fun e=>h (Or.inr e)
  omega
 exact sa.valS_pl (sa.uin_of hb hl) 8 at_ 2048 e p ⟨h0,h1,by omega,by omega⟩ hr
end
end Go.Proofs.Ytdommiicjpjfpaa.X
namespace Go.Proofs.Ytdommiicjpjfpaa.X
open Go.RowKit Go.Proofs.YtdommiicjpjfpaaW.PrintWords Go.Proofs.YtdommiicjpjfpaaW.PrintLast Go.Proofs.YtdommiicjpjfpaaW.PrintMore Go.Proofs.YtdommiicjpjfpaaW
section
set_option maxHeartbeats 4000000
set_option maxRecDepth 100000
open Go.Proofs.Ytdommiicjpjfpaa Go.Proofs.Ytdommiicjpjfpaa.Pl
def sa.ke:Kd S51:=Kd.iso (Kd.pair Kd.string sa.kt) (fun x:S51=>(x.f0,x.f1))
theorem sa.ke_C {w:World} {A:Option Addr} {n:Nat} {xs:List S51} (h:sa.ke.C w A n xs):k51.C w A n xs:=h
theorem sa.ke_M {w:World} {base:Nat} {ok:Nat→Prop} {k:ByteArray} {x:S34} {v3 v4:Value} (h:sa.kt.M w base ok x [.int .i64 x.f0,.int .i64 x.f1,.string x.f2,v3,v4]):sa.ke.M w base ok ⟨k,x⟩ [.string k,.int .i64 x.f0,.int .i64 x.f1,.string x.f2,v3,v4] :=
 ⟨[.string k],[.int .i64 x.f0,.int .i64 x.f1,.string x.f2,v3,v4],rfl,rfl,h⟩
section
variable {ops:Array Oper} {rest:List Oper} {o:Oper} {a:Act} {Q:Exit→Act→World→Prop}
end
def sa.RB7 (w:World) (g:Nat) (B:Option Addr) (n cb:Nat) (at_ all:Int) (vl:Value):Prop:=w.heap[g]?=some (.cells #[.slice B n cb,.int .i64 at_,.int .i64 all,vl] 75 (0,0))
theorem sa.RB7.below {w w1:World} {g:Nat} {B:Option Addr} {n cb:Nat} {at_ all:Int} {vl:Value} (h:sa.RB7 w g B n cb at_ all vl) (hb:Below w.heap.size w w1):sa.RB7 w1 g B n cb at_ all vl:=qAb h hb
def sa.hv (x:S51):Int:=1+(x.f0.size:Int)+(wt x.f1:Int)
def sa.entF (bs:List Int) (at_ all:Int) (l:List S51):sa.R3 (List S51) :=
 if (qBk bs at_ 32).2.2 ≠ 0 then .bad 71 at_
 else if (qBk bs at_ 32).1.toList=[] ∨ (0 < l.length∧¬ Op.bytesLess (qAN l ((l.length:Int) - 1)).f0.toList (qBk bs at_ 32).1.toList=true) then .bad 70 at_
 else match sa.takeS bs (qAk bs) (qCL bs) (qBk bs at_ 32).2.1 with
  | .bad _ p=>.bad 71 p
  | .ok x a2 _=>if all+sa.hv ⟨(qBk bs at_ 32).1,x⟩ > 32768 then .bad 70 at_ else .ok (l ++ [⟨(qBk bs at_ 32).1,x⟩]) a2 (all+sa.hv ⟨(qBk bs at_ 32).1,x⟩)
def sa.EntT (r:sa.R3 (List S51)) (w0:World) (g:Nat) (B:Option Addr) (n cb:Nat) (e:Ending) (w':World):Prop :=
 match r with
 | .bad c p=>e=.returned (.tuple #[.int .i64 p,.int .i64 c])∧Below w0.heap.size w0 w'
 | .ok l a2 all=>e=.returned (.tuple #[.int .i64 0,.int .i64 0])∧Below w0.heap.size w0 w'∧∃ vl,sa.RB7 w' g B n cb a2 all vl∧sa.ke.R 51 w' w0.heap.size (fun k=>k ≠ g) vl l
end
end Go.Proofs.Ytdommiicjpjfpaa.X
namespace Go.Proofs.Ytdommiicjpjfpaa.X
open Go.RowKit Go.Proofs.YtdommiicjpjfpaaW.PrintWords Go.Proofs.YtdommiicjpjfpaaW.PrintLast Go.Proofs.YtdommiicjpjfpaaW.PrintMore Go.Proofs.YtdommiicjpjfpaaW
section
set_option maxHeartbeats 4000000
set_option maxRecDepth 100000
open Go.Proofs.Ytdommiicjpjfpaa Go.Proofs.Ytdommiicjpjfpaa.Pl
theorem sa.heavy_ev (s:ByteArray) (x:S34) (hx:Val x) (hr:sa.Rt x) (h0:s.toList ≠ []) (h1:(s.size:Int)≤32):∃ K,qAu.f K s x.f0 x.f1 x.f2 x.f3 x.f4=some (sa.hv ⟨s,x⟩):=by
 rcases sa.told1 x hx with ⟨_,hp,_,K,hK⟩ | ⟨hn,_⟩
 ·refine ⟨K, ?_⟩
  have hw:=hr.2
  unfold qAu.f
  have h:=hK K (Nat.le_refl _)
  dsimp only at h
  rw [h,Option.bind_some,if_neg (by omega),if_neg h0,if_neg (by omega)]
  congr 1
  unfold sa.hv wrap64
  dsimp only
  omega
 ·exact absurd hr hn
set_option maxHeartbeats 16000000 in
theorem sa.entry41 {bs:List Int} (hb:Bytes bs) (hl:bs.length≤140737488351232) {w0 w:World} {g:Nat} {B:Option Addr} {cb:Nat} {at_ all:Int} {vl:Value} {l:List S51} (hB:(Kd.int .u8).C w0 B bs.length bs) (hc:bs.length≤cb) (hg:w0.heap.size≤g) (hW:Below w0.heap.size w0 w) (hR:sa.RB7 w g B bs.length cb at_ all vl) (hO:sa.ke.R 51 w w0.heap.size (fun k=>k ≠ g) vl l) (hal:0≤all∧all≤32768) (hll:l.length≤1000) :
  Calls Try.prog 41 #[.pointer (some ⟨g,0,none⟩)] w (sa.EntT (sa.entF bs at_ all l) w0 g B bs.length cb):=by
 have hu34:=Try.underlying34
 have hu51:=Try.underlying51
 have hu75:=Try.underlying75
 have hu22:=Try.underlying22
 obtain ⟨AL,cl,el⟩:=Kd.qBE hO
 subst el
 have TX:=qAA.mk (fun (W:World) (hb2:Below w0.heap.size w0 W)=>qA2.calls 24 B cb bs at_ 32 (qBk bs at_ 32).1 (qBk bs at_ 32).2.1 (qBk bs at_ 32).2.2 W (Kd.qAZ hB hb2) hc (by rw [Text_eq 24 (Nat.le_refl _) bs hb (by omega) at_ 32 (by omega) (by omega)]))
 have TK:=qAA.mk (fun (W:World) (hb2:Below w0.heap.size w0 W) (n1:Int)=>sa.take1 (sa.uin_of hb hl) n1 (Kd.qAZ hB hb2) hc)
 have TOK:=qAA.mk (fun (n1:Int) (x:S34) (a2 l2:Int) h=>sa.takeS_ok hb hl (at_:=n1) (x:=x) (a2:=a2) (l2:=l2) h)
 have HTS:=qAA.mk (fun h=>textAt_small (l:=bs) hb (a:=at_) (most:=32) (by omega) h)
 have HAL:=qAA.mk hal;have HLL:=qAA.mk hll;have HG:=qAA.mk hg
 have HW:=qAA.mk hW;have HR:=qAA.mk hR;have HO:=qAA.mk hO
 have HGW:=qAA.mk (qAp (show w.heap[g]?=some _ from hR))
 unfold sa.entF
 clear hB hc hg hW hR hO hal hll
 generalize qBk bs at_ 32=t at *
 obtain ⟨s,n1,e1⟩:=t
 dsimp only
 dsimp only at TX HTS
 obtain ⟨n,hn⟩:∃ n,n=l.length:=⟨_,rfl⟩
 have HN:=qAA.mk hn
 rw [← hn] at HR HO
 clear hn
 by_cases h1:e1 ≠ 0
 ·rw [if_pos h1]
  have d1:(e1 != 0)=true:=bne_iff_ne.2 h1
  have d2:(e1 == 0)=false:=beq_eq_false_iff_ne.2 h1
  have d3:decide (e1=0)=false:=decide_eq_false h1
  clear h1
  go_enter Try.func41,Try.ntmps41
  go_wp2
  refine qAy (n:=16) (S:=fun w'=>w'.cell? ⟨g,0,none⟩=some (.slice B bs.length cb)∧w'.cell? ⟨g,1,none⟩=some (.int .i64 at_)) (ds:=[]) #[qF,qF,qF,qF,qF,qF,qF,qF,qF,qF,qF,qF,qF,qF,qF,qF] (by kernel_rfl) rfl rfl ⟨(qAB (show w.drew.heap[g]?=_ from HR.out) 0).trans rfl,(qAB (show w.drew.heap[g]?=_ from HR.out) 1).trans rfl⟩ (fun hHeld => ?_)
  generalize hwd:w.drew=wd at hHeld ⊢
  have Rd:=qAA.mk (hwd▸HR.out.below (qAX (Below.refl _ _)))
  have Wd:=qAA.mk (hwd▸qAX HW.out)
  have Od:=qAA.mk (hwd▸Kd.qA8 HO.out)
  have HGd:=qAA.mk (show g < wd.heap.size from hwd▸HGW.out)
  clear hwd
  refine qAL (i:=0) (N:=some 11) (v := ?_) (a' := ?_) #[qT,qF,qF,qF,qF,qF,qF,qF,qF,qF,qF,qF,qF,qF,qF,qF] rfl rfl (by kernel_rfl) (fun _ _ _ h=>h) (Or.inl ⟨by rfl, ?_⟩) ?_ ?_
  rotate_left
  ·intro w'
   go_simp
   with_reducible rfl
  rotate_left
  ·simp only [Act.put,qs1,qs2,qs3,qAH,qAI]
   rfl
  refine qAL (i:=1) (N:=some 12) (v := ?_) (a' := ?_) #[qT,qT,qF,qF,qF,qF,qF,qF,qF,qF,qF,qF,qF,qF,qF,qF] rfl rfl (by kernel_rfl) (fun _ _ _ h=>h) (Or.inl ⟨by rfl, ?_⟩) ?_ ?_
  rotate_left
  ·intro w'
   go_simp
   with_reducible rfl
  rotate_left
  ·simp only [Act.put,qs1,qs2,qs3,qAH,qAI]
   rfl
  refine qAL (i:=2) (N:=some 13) (v := ?_) (a' := ?_) #[qT,qT,qT,qF,qF,qF,qF,qF,qF,qF,qF,qF,qF,qF,qF,qF] rfl rfl (by kernel_rfl) (fun _ _ _ h=>h) (Or.inl ⟨by rfl, ?_⟩) ?_ ?_
  rotate_left
  ·intro w'
   go_simp
   with_reducible rfl
  rotate_left
  ·simp only [Act.put,qs1,qs2,qs3,qAH,qAI]
   rfl
  refine qAL (i:=4) (N:=some 15) (v := ?_) (a' := ?_) #[qT,qT,qT,qF,qT,qF,qF,qF,qF,qF,qF,qF,qF,qF,qF,qF] rfl rfl (by kernel_rfl) (fun _ _ _ h=>h) (Or.inl ⟨by rfl, ?_⟩) ?_ ?_
  rotate_left
  ·intro w'
   go_simp
   with_reducible rfl
  rotate_left
  ·simp only [Act.put,qs1,qs2,qs3,qAH,qAI]
   rfl
  refine qAL (i:=5) (N:=some 16) (v := ?_) (a' := ?_) #[qT,qT,qT,qF,qT,qT,qF,qF,qF,qF,qF,qF,qF,qF,qF,qF] rfl rfl (by kernel_rfl) (fun _ _ _ h=>h) (Or.inl ⟨by rfl, ?_⟩) ?_ ?_
  rotate_left
  ·intro w'
   go_simp
   with_reducible rfl
  rotate_left
  ·simp only [Act.put,qs1,qs2,qs3,qAH,qAI]
   rfl
  refine qAL (i:=6) (N:=some 17) (v := ?_) (a' := ?_) #[qT,qT,qT,qF,qT,qT,qT,qF,qF,qF,qF,qF,qF,qF,qF,qF] rfl rfl (by kernel_rfl) (fun _ _ _ h=>h) (Or.inl ⟨by rfl, ?_⟩) ?_ ?_
  rotate_left
  ·intro w'
   go_simp
   with_reducible rfl
  rotate_left
  ·simp only [Act.put,qs1,qs2,qs3,qAH,qAI]
   rfl
  refine qAt (i:=3) (N:=some 14) (v := ?_) (a' := ?_) #[qT,qT,qT,qT,qT,qT,qT,qF,qF,qF,qF,qF,qF,qF,qF,qF] rfl rfl (by kernel_rfl) (fun _ _ _ h=>h) (Or.inl ⟨by rfl, ?_⟩) hHeld ?_ ?_
  rotate_left
  ·rintro w' ⟨s0,s1⟩
   go_simp
   with_reducible rfl
  rotate_left
  ·simp only [Act.put,qs1,qs2,qs3,qAH,qAI]
   rfl
  refine qAt (i:=7) (N:=some 18) (v := ?_) (a' := ?_) #[qT,qT,qT,qT,qT,qT,qT,qT,qF,qF,qF,qF,qF,qF,qF,qF] rfl rfl (by kernel_rfl) (fun _ _ _ h=>h) (Or.inl ⟨by rfl, ?_⟩) hHeld ?_ ?_
  rotate_left
  ·rintro w' ⟨s0,s1⟩
   go_simp
   with_reducible rfl
  rotate_left
  ·simp only [Act.put,qs1,qs2,qs3,qAH,qAI]
   rfl
  refine one_ (i:=8) (N:=some 19) #[qT,qT,qT,qT,qT,qT,qT,qT,qT,qF,qF,qF,qF,qF,qF,qF] rfl rfl (by kernel_rfl) (by decide) (fun K hK => ?_)
  refine qBe Try.func60 (by kernel_rfl) rfl #[.slice B bs.length cb,.int .i64 at_,.int .i64 32] (by rfl) rfl rfl (by (try simp only [List.map_toArray,List.map_cons,List.map_nil]);first | done | rfl) ?_
  refine (TX.out wd Wd.out).mono ?_
  rintro e w2 ⟨rfl,hb⟩
  refine ⟨_,rfl, ?_⟩
  have R2:=qAA.mk (Rd.out.below hb.below)
  have W2:=qAA.mk (qAf Wd.out Wd.out.size hb.below)
  have O2:=qAA.mk (Kd.qA3 Od.out hb.below)
  have HG2:=qAA.mk (Nat.lt_of_lt_of_le HGd.out hb.below.size)
  clear hb
  refine hK.out _ _ ⟨(qAB R2.out 0).trans rfl,(qAB R2.out 1).trans rfl⟩ (fun hHeld => ?_)
  clear hK K
  refine qBH (a' := ?_) ?_ ?_
  rotate_left
  ·show Act.put _ (some 19) _=_
   simp only [Act.put,qs1,qs2,qs3,qAH,qAI]
   rfl
  refine qAL (i:=9) (N:=some 10) (v := ?_) (a' := ?_) #[qT,qT,qT,qT,qT,qT,qT,qT,qT,qT,qF,qF,qF,qF,qF,qF] rfl rfl (by kernel_rfl) (fun _ _ _ h=>h) (Or.inl ⟨by rfl, ?_⟩) ?_ ?_
  rotate_left
  ·intro w'
   go_simp
   with_reducible rfl
  rotate_left
  ·simp only [Act.put,qs1,qs2,qs3,qAH,qAI]
   rfl
  refine qAL (i:=10) (N:=some 20) (v := ?_) (a' := ?_) #[qT,qT,qT,qT,qT,qT,qT,qT,qT,qT,qT,qF,qF,qF,qF,qF] rfl rfl (by kernel_rfl) (fun _ _ _ h=>h) (Or.inl ⟨by rfl, ?_⟩) ?_ ?_
  rotate_left
  ·intro w'
   go_simp
   with_reducible rfl
  rotate_left
  ·simp only [Act.put,qs1,qs2,qs3,qAH,qAI]
   rfl
  refine qAL (i:=11) (N:=some 21) (v := ?_) (a' := ?_) #[qT,qT,qT,qT,qT,qT,qT,qT,qT,qT,qT,qT,qF,qF,qF,qF] rfl rfl (by kernel_rfl) (fun _ _ _ h=>h) (Or.inl ⟨by rfl, ?_⟩) ?_ ?_
  rotate_left
  ·intro w'
   go_simp
   with_reducible rfl
  rotate_left
  ·simp only [Act.put,qs1,qs2,qs3,qAH,qAI]
   rfl
  refine qAL (i:=12) (N:=some 22) (v := ?_) (a' := ?_) #[qT,qT,qT,qT,qT,qT,qT,qT,qT,qT,qT,qT,qT,qF,qF,qF] rfl rfl (by kernel_rfl) (fun _ _ _ h=>h) (Or.inl ⟨by rfl, ?_⟩) ?_ ?_
  rotate_left
  ·intro w'
   go_simp
   with_reducible rfl
  rotate_left
  ·simp only [Act.put,qs1,qs2,qs3,qAH,qAI]
   rfl
  refine qAL (i:=13) (N:=some 4) (v := ?_) (a' := ?_) #[qT,qT,qT,qT,qT,qT,qT,qT,qT,qT,qT,qT,qT,qT,qF,qF] rfl rfl (by kernel_rfl) (fun _ _ _ h=>h) (Or.inl ⟨by rfl, ?_⟩) ?_ ?_
  rotate_left
  ·intro w'
   go_simp
   with_reducible rfl
  rotate_left
  ·simp only [Act.put,qs1,qs2,qs3,qAH,qAI]
   rfl
  refine qAL (i:=14) (N:=some 5) (v := ?_) (a' := ?_) #[qT,qT,qT,qT,qT,qT,qT,qT,qT,qT,qT,qT,qT,qT,qT,qF] rfl rfl (by kernel_rfl) (fun _ _ _ h=>h) (Or.inl ⟨by rfl, ?_⟩) ?_ ?_
  rotate_left
  ·intro w'
   go_simp
   with_reducible rfl
  rotate_left
  ·simp only [Act.put,qs1,qs2,qs3,qAH,qAI]
   rfl
  refine qAL (i:=15) (N:=some 6) (v := ?_) (a' := ?_) #[qT,qT,qT,qT,qT,qT,qT,qT,qT,qT,qT,qT,qT,qT,qT,qT] rfl rfl (by kernel_rfl) (fun _ _ _ h=>h) (Or.inl ⟨by rfl, ?_⟩) ?_ ?_
  rotate_left
  ·intro w'
   go_simp
   with_reducible rfl
  rotate_left
  ·simp only [Act.put,qs1,qs2,qs3,qAH,qAI]
   rfl
  refine qBM (by kernel_rfl) ?_
  have z0:w2.cell? ⟨g,0,none⟩=some (.slice B bs.length cb):=(qAB R2.out 0).trans rfl;have z1:w2.cell? ⟨g,1,none⟩=some (.int .i64 at_):=(qAB R2.out 1).trans rfl;have z2:w2.cell? ⟨g,2,none⟩=some (.int .i64 all):=(qAB R2.out 2).trans rfl;have z3:w2.cell? ⟨g,3,none⟩=some (.slice AL n cl):=(qAB R2.out 3).trans rfl
  go_wp2
  go_ret2
  exact ⟨rfl,W2.out⟩
 rw [if_neg h1]
 have he1:e1=0:=Classical.byContradiction h1
 subst he1
 have HSZ:=qAA.mk (HTS.out rfl)
 clear h1 HTS
 by_cases h2:s.toList=[]
 ·rw [if_pos (Or.inl h2)]
  go_enter Try.func41,Try.ntmps41
  go_wp2
  refine qAy (n:=16) (S:=fun w'=>w'.cell? ⟨g,0,none⟩=some (.slice B bs.length cb)∧w'.cell? ⟨g,1,none⟩=some (.int .i64 at_)) (ds:=[]) #[qF,qF,qF,qF,qF,qF,qF,qF,qF,qF,qF,qF,qF,qF,qF,qF] (by kernel_rfl) rfl rfl ⟨(qAB (show w.drew.heap[g]?=_ from HR.out) 0).trans rfl,(qAB (show w.drew.heap[g]?=_ from HR.out) 1).trans rfl⟩ (fun hHeld => ?_)
  generalize hwd:w.drew=wd at hHeld ⊢
  have Rd:=qAA.mk (hwd▸HR.out.below (qAX (Below.refl _ _)))
  have Wd:=qAA.mk (hwd▸qAX HW.out)
  have Od:=qAA.mk (hwd▸Kd.qA8 HO.out)
  have HGd:=qAA.mk (show g < wd.heap.size from hwd▸HGW.out)
  clear hwd
  refine qAL (i:=0) (N:=some 11) (v := ?_) (a' := ?_) #[qT,qF,qF,qF,qF,qF,qF,qF,qF,qF,qF,qF,qF,qF,qF,qF] rfl rfl (by kernel_rfl) (fun _ _ _ h=>h) (Or.inl ⟨by rfl, ?_⟩) ?_ ?_
  rotate_left
  ·intro w'
   go_simp
   with_reducible rfl
  rotate_left
  ·simp only [Act.put,qs1,qs2,qs3,qAH,qAI]
   rfl
  refine qAL (i:=1) (N:=some 12) (v := ?_) (a' := ?_) #[qT,qT,qF,qF,qF,qF,qF,qF,qF,qF,qF,qF,qF,qF,qF,qF] rfl rfl (by kernel_rfl) (fun _ _ _ h=>h) (Or.inl ⟨by rfl, ?_⟩) ?_ ?_
  rotate_left
  ·intro w'
   go_simp
   with_reducible rfl
  rotate_left
  ·simp only [Act.put,qs1,qs2,qs3,qAH,qAI]
   rfl
  refine qAL (i:=2) (N:=some 13) (v := ?_) (a' := ?_) #[qT,qT,qT,qF,qF,qF,qF,qF,qF,qF,qF,qF,qF,qF,qF,qF] rfl rfl (by kernel_rfl) (fun _ _ _ h=>h) (Or.inl ⟨by rfl, ?_⟩) ?_ ?_
  rotate_left
  ·intro w'
   go_simp
   with_reducible rfl
  rotate_left
  ·simp only [Act.put,qs1,qs2,qs3,qAH,qAI]
   rfl
  refine qAL (i:=4) (N:=some 15) (v := ?_) (a' := ?_) #[qT,qT,qT,qF,qT,qF,qF,qF,qF,qF,qF,qF,qF,qF,qF,qF] rfl rfl (by kernel_rfl) (fun _ _ _ h=>h) (Or.inl ⟨by rfl, ?_⟩) ?_ ?_
  rotate_left
  ·intro w'
   go_simp
   with_reducible rfl
  rotate_left
  ·simp only [Act.put,qs1,qs2,qs3,qAH,qAI]
   rfl
  refine qAL (i:=5) (N:=some 16) (v := ?_) (a' := ?_) #[qT,qT,qT,qF,qT,qT,qF,qF,qF,qF,qF,qF,qF,qF,qF,qF] rfl rfl (by kernel_rfl) (fun _ _ _ h=>h) (Or.inl ⟨by rfl, ?_⟩) ?_ ?_
  rotate_left
  ·intro w'
   go_simp
   with_reducible rfl
  rotate_left
  ·simp only [Act.put,qs1,qs2,qs3,qAH,qAI]
   rfl
  refine qAL (i:=6) (N:=some 17) (v := ?_) (a' := ?_) #[qT,qT,qT,qF,qT,qT,qT,qF,qF,qF,qF,qF,qF,qF,qF,qF] rfl rfl (by kernel_rfl) (fun _ _ _ h=>h) (Or.inl ⟨by rfl, ?_⟩) ?_ ?_
  rotate_left
  ·intro w'
   go_simp
   with_reducible rfl
  rotate_left
  ·simp only [Act.put,qs1,qs2,qs3,qAH,qAI]
   rfl
  refine qAt (i:=3) (N:=some 14) (v := ?_) (a' := ?_) #[qT,qT,qT,qT,qT,qT,qT,qF,qF,qF,qF,qF,qF,qF,qF,qF] rfl rfl (by kernel_rfl) (fun _ _ _ h=>h) (Or.inl ⟨by rfl, ?_⟩) hHeld ?_ ?_
  rotate_left
  ·rintro w' ⟨s0,s1⟩
   go_simp
   with_reducible rfl
  rotate_left
  ·simp only [Act.put,qs1,qs2,qs3,qAH,qAI]
   rfl
  refine qAt (i:=7) (N:=some 18) (v := ?_) (a' := ?_) #[qT,qT,qT,qT,qT,qT,qT,qT,qF,qF,qF,qF,qF,qF,qF,qF] rfl rfl (by kernel_rfl) (fun _ _ _ h=>h) (Or.inl ⟨by rfl, ?_⟩) hHeld ?_ ?_
  rotate_left
  ·rintro w' ⟨s0,s1⟩
   go_simp
   with_reducible rfl
  rotate_left
  ·simp only [Act.put,qs1,qs2,qs3,qAH,qAI]
   rfl
  refine one_ (i:=8) (N:=some 19) #[qT,qT,qT,qT,qT,qT,qT,qT,qT,qF,qF,qF,qF,qF,qF,qF] rfl rfl (by kernel_rfl) (by decide) (fun K hK => ?_)
  refine qBe Try.func60 (by kernel_rfl) rfl #[.slice B bs.length cb,.int .i64 at_,.int .i64 32] (by rfl) rfl rfl (by (try simp only [List.map_toArray,List.map_cons,List.map_nil]);first | done | rfl) ?_
  refine (TX.out wd Wd.out).mono ?_
  rintro e w2 ⟨rfl,hb⟩
  refine ⟨_,rfl, ?_⟩
  have R2:=qAA.mk (Rd.out.below hb.below)
  have W2:=qAA.mk (qAf Wd.out Wd.out.size hb.below)
  have O2:=qAA.mk (Kd.qA3 Od.out hb.below)
  have HG2:=qAA.mk (Nat.lt_of_lt_of_le HGd.out hb.below.size)
  clear hb
  refine hK.out _ _ ⟨(qAB R2.out 0).trans rfl,(qAB R2.out 1).trans rfl⟩ (fun hHeld => ?_)
  clear hK K
  refine qBH (a' := ?_) ?_ ?_
  rotate_left
  ·show Act.put _ (some 19) _=_
   simp only [Act.put,qs1,qs2,qs3,qAH,qAI]
   rfl
  refine qAL (i:=9) (N:=some 10) (v := ?_) (a' := ?_) #[qT,qT,qT,qT,qT,qT,qT,qT,qT,qT,qF,qF,qF,qF,qF,qF] rfl rfl (by kernel_rfl) (fun _ _ _ h=>h) (Or.inl ⟨by rfl, ?_⟩) ?_ ?_
  rotate_left
  ·intro w'
   go_simp
   with_reducible rfl
  rotate_left
  ·simp only [Act.put,qs1,qs2,qs3,qAH,qAI]
   rfl
  refine qAL (i:=10) (N:=some 20) (v := ?_) (a' := ?_) #[qT,qT,qT,qT,qT,qT,qT,qT,qT,qT,qT,qF,qF,qF,qF,qF] rfl rfl (by kernel_rfl) (fun _ _ _ h=>h) (Or.inl ⟨by rfl, ?_⟩) ?_ ?_
  rotate_left
  ·intro w'
   go_simp
   with_reducible rfl
  rotate_left
  ·simp only [Act.put,qs1,qs2,qs3,qAH,qAI]
   rfl
  refine qAL (i:=11) (N:=some 21) (v := ?_) (a' := ?_) #[qT,qT,qT,qT,qT,qT,qT,qT,qT,qT,qT,qT,qF,qF,qF,qF] rfl rfl (by kernel_rfl) (fun _ _ _ h=>h) (Or.inl ⟨by rfl, ?_⟩) ?_ ?_
  rotate_left
  ·intro w'
   go_simp
   with_reducible rfl
  rotate_left
  ·simp only [Act.put,qs1,qs2,qs3,qAH,qAI]
   rfl
  refine qAL (i:=12) (N:=some 22) (v := ?_) (a' := ?_) #[qT,qT,qT,qT,qT,qT,qT,qT,qT,qT,qT,qT,qT,qF,qF,qF] rfl rfl (by kernel_rfl) (fun _ _ _ h=>h) (Or.inl ⟨by rfl, ?_⟩) ?_ ?_
  rotate_left
  ·intro w'
   go_simp
   with_reducible rfl
  rotate_left
  ·simp only [Act.put,qs1,qs2,qs3,qAH,qAI]
   rfl
  refine qAL (i:=13) (N:=some 4) (v := ?_) (a' := ?_) #[qT,qT,qT,qT,qT,qT,qT,qT,qT,qT,qT,qT,qT,qT,qF,qF] rfl rfl (by kernel_rfl) (fun _ _ _ h=>h) (Or.inl ⟨by rfl, ?_⟩) ?_ ?_
  rotate_left
  ·intro w'
   go_simp
   with_reducible rfl
  rotate_left
  ·simp only [Act.put,qs1,qs2,qs3,qAH,qAI]
   rfl
  refine qAL (i:=14) (N:=some 5) (v := ?_) (a' := ?_) #[qT,qT,qT,qT,qT,qT,qT,qT,qT,qT,qT,qT,qT,qT,qT,qF] rfl rfl (by kernel_rfl) (fun _ _ _ h=>h) (Or.inl ⟨by rfl, ?_⟩) ?_ ?_
  rotate_left
  ·intro w'
   go_simp
   with_reducible rfl
  rotate_left
  ·simp only [Act.put,qs1,qs2,qs3,qAH,qAI]
   rfl
  refine qAL (i:=15) (N:=some 6) (v := ?_) (a' := ?_) #[qT,qT,qT,qT,qT,qT,qT,qT,qT,qT,qT,qT,qT,qT,qT,qT] rfl rfl (by kernel_rfl) (fun _ _ _ h=>h) (Or.inl ⟨by rfl, ?_⟩) ?_ ?_
  rotate_left
  ·intro w'
   go_simp
   with_reducible rfl
  rotate_left
  ·simp only [Act.put,qs1,qs2,qs3,qAH,qAI]
   rfl
  refine qBM (by kernel_rfl) ?_
  go_wp2
  refine qAy (n:=28) (S:=fun w'=>True) (ds:=[]) #[qF,qF,qF,qF,qF,qF,qF,qF,qF,qF,qF,qF,qF,qF,qF,qF,qF,qF,qF,qF,qF,qF,qF,qF,qF,qF,qF,qF] (by kernel_rfl) rfl rfl trivial (fun hHeld => ?_)
  generalize hwd:w2.drew=wd2 at hHeld ⊢
  have R2d:=qAA.mk (hwd▸R2.out.below (qAX (Below.refl _ _)))
  have W2d:=qAA.mk (hwd▸qAX W2.out)
  have O2d:=qAA.mk (hwd▸Kd.qA8 O2.out)
  have HG2d:=qAA.mk (show g < wd2.heap.size from hwd▸HG2.out)
  have HOB:=qAA.mk (fun k hk=>((Kd.qBf O2d.out).1 k hk).2.2.1)
  clear hwd
  refine qAL (i:=0) (N:=some 31) (v := ?_) (a' := ?_) #[qT,qF,qF,qF,qF,qF,qF,qF,qF,qF,qF,qF,qF,qF,qF,qF,qF,qF,qF,qF,qF,qF,qF,qF,qF,qF,qF,qF] rfl rfl (by kernel_rfl) (fun _ _ _ h=>h) (Or.inl ⟨by rfl, ?_⟩) ?_ ?_
  rotate_left
  ·intro w'
   go_simp
   with_reducible rfl
  rotate_left
  ·simp only [Act.put,qs1,qs2,qs3,qAH,qAI]
   rfl
  refine qAL (i:=1) (N:=some 32) (v := ?_) (a' := ?_) #[qT,qT,qF,qF,qF,qF,qF,qF,qF,qF,qF,qF,qF,qF,qF,qF,qF,qF,qF,qF,qF,qF,qF,qF,qF,qF,qF,qF] rfl rfl (by kernel_rfl) (fun _ _ _ h=>h) (Or.inl ⟨by rfl, ?_⟩) ?_ ?_
  rotate_left
  ·intro w'
   go_simp
   with_reducible rfl
  rotate_left
  ·simp only [Act.put,qs1,qs2,qs3,qAH,qAI]
   rfl
  refine qAL (i:=2) (N:=some 33) (v := ?_) (a' := ?_) #[qT,qT,qT,qF,qF,qF,qF,qF,qF,qF,qF,qF,qF,qF,qF,qF,qF,qF,qF,qF,qF,qF,qF,qF,qF,qF,qF,qF] rfl rfl (by kernel_rfl) (fun _ _ _ h=>h) (Or.inl ⟨by rfl, ?_⟩) ?_ ?_
  rotate_left
  ·intro w'
   go_simp
   with_reducible rfl
  rotate_left
  ·simp only [Act.put,qs1,qs2,qs3,qAH,qAI]
   rfl
  refine qAL (i:=3) (N:=some 34) (v:=undef) (a' := ?_) #[qT,qT,qT,qT,qF,qF,qF,qF,qF,qF,qF,qF,qF,qF,qF,qF,qF,qF,qF,qF,qF,qF,qF,qF,qF,qF,qF,qF] rfl rfl (by kernel_rfl) (fun _ _ _ h=>h) (Or.inr ⟨by rfl,rfl⟩) ?_ ?_
  rotate_left
  ·simp only [Act.put,qs1,qs2,qs3,qAH,qAI]
   rfl
  refine qAL (i:=4) (N:=some 35) (v:=undef) (a' := ?_) #[qT,qT,qT,qT,qT,qF,qF,qF,qF,qF,qF,qF,qF,qF,qF,qF,qF,qF,qF,qF,qF,qF,qF,qF,qF,qF,qF,qF] rfl rfl (by kernel_rfl) (fun _ _ _ h=>h) (Or.inr ⟨by rfl,rfl⟩) ?_ ?_
  rotate_left
  ·simp only [Act.put,qs1,qs2,qs3,qAH,qAI]
   rfl
  refine qAL (i:=5) (N:=some 36) (v:=undef) (a' := ?_) #[qT,qT,qT,qT,qT,qT,qF,qF,qF,qF,qF,qF,qF,qF,qF,qF,qF,qF,qF,qF,qF,qF,qF,qF,qF,qF,qF,qF] rfl rfl (by kernel_rfl) (fun _ _ _ h=>h) (Or.inr ⟨by rfl,rfl⟩) ?_ ?_
  rotate_left
  ·simp only [Act.put,qs1,qs2,qs3,qAH,qAI]
   rfl
  refine qAL (i:=6) (N:=some 37) (v:=undef) (a' := ?_) #[qT,qT,qT,qT,qT,qT,qT,qF,qF,qF,qF,qF,qF,qF,qF,qF,qF,qF,qF,qF,qF,qF,qF,qF,qF,qF,qF,qF] rfl rfl (by kernel_rfl) (fun _ _ _ h=>h) (Or.inr ⟨by rfl,rfl⟩) ?_ ?_
  rotate_left
  ·simp only [Act.put,qs1,qs2,qs3,qAH,qAI]
   rfl
  refine qAL (i:=7) (N:=some 38) (v:=undef) (a' := ?_) #[qT,qT,qT,qT,qT,qT,qT,qT,qF,qF,qF,qF,qF,qF,qF,qF,qF,qF,qF,qF,qF,qF,qF,qF,qF,qF,qF,qF] rfl rfl (by kernel_rfl) (fun _ _ _ h=>h) (Or.inr ⟨by rfl,rfl⟩) ?_ ?_
  rotate_left
  ·simp only [Act.put,qs1,qs2,qs3,qAH,qAI]
   rfl
  refine qAL (i:=8) (N:=some 39) (v:=undef) (a' := ?_) #[qT,qT,qT,qT,qT,qT,qT,qT,qT,qF,qF,qF,qF,qF,qF,qF,qF,qF,qF,qF,qF,qF,qF,qF,qF,qF,qF,qF] rfl rfl (by kernel_rfl) (fun _ _ _ h=>h) (Or.inr ⟨by rfl,rfl⟩) ?_ ?_
  rotate_left
  ·simp only [Act.put,qs1,qs2,qs3,qAH,qAI]
   rfl
  refine qAL (i:=9) (N:=some 40) (v:=undef) (a' := ?_) #[qT,qT,qT,qT,qT,qT,qT,qT,qT,qT,qF,qF,qF,qF,qF,qF,qF,qF,qF,qF,qF,qF,qF,qF,qF,qF,qF,qF] rfl rfl (by kernel_rfl) (fun _ _ _ h=>h) (Or.inr ⟨by rfl,rfl⟩) ?_ ?_
  rotate_left
  ·simp only [Act.put,qs1,qs2,qs3,qAH,qAI]
   rfl
  refine qAL (i:=10) (N:=some 41) (v:=undef) (a' := ?_) #[qT,qT,qT,qT,qT,qT,qT,qT,qT,qT,qT,qF,qF,qF,qF,qF,qF,qF,qF,qF,qF,qF,qF,qF,qF,qF,qF,qF] rfl rfl (by kernel_rfl) (fun _ _ _ h=>h) (Or.inr ⟨by rfl,rfl⟩) ?_ ?_
  rotate_left
  ·simp only [Act.put,qs1,qs2,qs3,qAH,qAI]
   rfl
  refine qAL (i:=11) (N:=some 42) (v:=undef) (a' := ?_) #[qT,qT,qT,qT,qT,qT,qT,qT,qT,qT,qT,qT,qF,qF,qF,qF,qF,qF,qF,qF,qF,qF,qF,qF,qF,qF,qF,qF] rfl rfl (by kernel_rfl) (fun _ _ _ h=>h) (Or.inr ⟨by rfl,rfl⟩) ?_ ?_
  rotate_left
  ·simp only [Act.put,qs1,qs2,qs3,qAH,qAI]
   rfl
  refine qAL (i:=12) (N:=some 43) (v:=undef) (a' := ?_) #[qT,qT,qT,qT,qT,qT,qT,qT,qT,qT,qT,qT,qT,qF,qF,qF,qF,qF,qF,qF,qF,qF,qF,qF,qF,qF,qF,qF] rfl rfl (by kernel_rfl) (fun _ _ _ h=>h) (Or.inr ⟨by rfl,rfl⟩) ?_ ?_
  rotate_left
  ·simp only [Act.put,qs1,qs2,qs3,qAH,qAI]
   rfl
  refine qAL (i:=13) (N:=some 44) (v:=undef) (a' := ?_) #[qT,qT,qT,qT,qT,qT,qT,qT,qT,qT,qT,qT,qT,qT,qF,qF,qF,qF,qF,qF,qF,qF,qF,qF,qF,qF,qF,qF] rfl rfl (by kernel_rfl) (fun _ _ _ h=>h) (Or.inr ⟨by rfl,rfl⟩) ?_ ?_
  rotate_left
  ·simp only [Act.put,qs1,qs2,qs3,qAH,qAI]
   rfl
  refine qAL (i:=14) (N:=some 45) (v:=undef) (a' := ?_) #[qT,qT,qT,qT,qT,qT,qT,qT,qT,qT,qT,qT,qT,qT,qT,qF,qF,qF,qF,qF,qF,qF,qF,qF,qF,qF,qF,qF] rfl rfl (by kernel_rfl) (fun _ _ _ h=>h) (Or.inr ⟨by rfl,rfl⟩) ?_ ?_
  rotate_left
  ·simp only [Act.put,qs1,qs2,qs3,qAH,qAI]
   rfl
  refine qAL (i:=15) (N:=some 46) (v:=undef) (a' := ?_) #[qT,qT,qT,qT,qT,qT,qT,qT,qT,qT,qT,qT,qT,qT,qT,qT,qF,qF,qF,qF,qF,qF,qF,qF,qF,qF,qF,qF] rfl rfl (by kernel_rfl) (fun _ _ _ h=>h) (Or.inr ⟨by rfl,rfl⟩) ?_ ?_
  rotate_left
  ·simp only [Act.put,qs1,qs2,qs3,qAH,qAI]
   rfl
  refine qAL (i:=16) (N:=some 47) (v:=undef) (a' := ?_) #[qT,qT,qT,qT,qT,qT,qT,qT,qT,qT,qT,qT,qT,qT,qT,qT,qT,qF,qF,qF,qF,qF,qF,qF,qF,qF,qF,qF] rfl rfl (by kernel_rfl) (fun _ _ _ h=>h) (Or.inr ⟨by rfl,rfl⟩) ?_ ?_
  rotate_left
  ·simp only [Act.put,qs1,qs2,qs3,qAH,qAI]
   rfl
  refine qAL (i:=17) (N:=some 48) (v:=undef) (a' := ?_) #[qT,qT,qT,qT,qT,qT,qT,qT,qT,qT,qT,qT,qT,qT,qT,qT,qT,qT,qF,qF,qF,qF,qF,qF,qF,qF,qF,qF] rfl rfl (by kernel_rfl) (fun _ _ _ h=>h) (Or.inr ⟨by rfl,rfl⟩) ?_ ?_
  rotate_left
  ·simp only [Act.put,qs1,qs2,qs3,qAH,qAI]
   rfl
  refine qAL (i:=18) (N:=some 49) (v:=undef) (a' := ?_) #[qT,qT,qT,qT,qT,qT,qT,qT,qT,qT,qT,qT,qT,qT,qT,qT,qT,qT,qT,qF,qF,qF,qF,qF,qF,qF,qF,qF] rfl rfl (by kernel_rfl) (fun _ _ _ h=>h) (Or.inr ⟨by rfl,rfl⟩) ?_ ?_
  rotate_left
  ·simp only [Act.put,qs1,qs2,qs3,qAH,qAI]
   rfl
  refine qAL (i:=19) (N:=some 50) (v:=undef) (a' := ?_) #[qT,qT,qT,qT,qT,qT,qT,qT,qT,qT,qT,qT,qT,qT,qT,qT,qT,qT,qT,qT,qF,qF,qF,qF,qF,qF,qF,qF] rfl rfl (by kernel_rfl) (fun _ _ _ h=>h) (Or.inr ⟨by rfl,rfl⟩) ?_ ?_
  rotate_left
  ·simp only [Act.put,qs1,qs2,qs3,qAH,qAI]
   rfl
  refine qAL (i:=20) (N:=some 51) (v:=undef) (a' := ?_) #[qT,qT,qT,qT,qT,qT,qT,qT,qT,qT,qT,qT,qT,qT,qT,qT,qT,qT,qT,qT,qT,qF,qF,qF,qF,qF,qF,qF] rfl rfl (by kernel_rfl) (fun _ _ _ h=>h) (Or.inr ⟨by rfl,rfl⟩) ?_ ?_
  rotate_left
  ·simp only [Act.put,qs1,qs2,qs3,qAH,qAI]
   rfl
  refine qAL (i:=21) (N:=some 52) (v:=undef) (a' := ?_) #[qT,qT,qT,qT,qT,qT,qT,qT,qT,qT,qT,qT,qT,qT,qT,qT,qT,qT,qT,qT,qT,qT,qF,qF,qF,qF,qF,qF] rfl rfl (by kernel_rfl) (fun _ _ _ h=>h) (Or.inr ⟨by rfl,rfl⟩) ?_ ?_
  rotate_left
  ·simp only [Act.put,qs1,qs2,qs3,qAH,qAI]
   rfl
  refine qAL (i:=22) (N:=some 53) (v:=undef) (a' := ?_) #[qT,qT,qT,qT,qT,qT,qT,qT,qT,qT,qT,qT,qT,qT,qT,qT,qT,qT,qT,qT,qT,qT,qT,qF,qF,qF,qF,qF] rfl rfl (by kernel_rfl) (fun _ _ _ h=>h) (Or.inr ⟨by rfl,rfl⟩) ?_ ?_
  rotate_left
  ·simp only [Act.put,qs1,qs2,qs3,qAH,qAI]
   rfl
  refine qAL (i:=23) (N:=some 54) (v:=undef) (a' := ?_) #[qT,qT,qT,qT,qT,qT,qT,qT,qT,qT,qT,qT,qT,qT,qT,qT,qT,qT,qT,qT,qT,qT,qT,qT,qF,qF,qF,qF] rfl rfl (by kernel_rfl) (fun _ _ _ h=>h) (Or.inr ⟨by rfl,rfl⟩) ?_ ?_
  rotate_left
  ·simp only [Act.put,qs1,qs2,qs3,qAH,qAI]
   rfl
  refine qAL (i:=24) (N:=some 55) (v:=undef) (a' := ?_) #[qT,qT,qT,qT,qT,qT,qT,qT,qT,qT,qT,qT,qT,qT,qT,qT,qT,qT,qT,qT,qT,qT,qT,qT,qT,qF,qF,qF] rfl rfl (by kernel_rfl) (fun _ _ _ h=>h) (Or.inr ⟨by rfl,rfl⟩) ?_ ?_
  rotate_left
  ·simp only [Act.put,qs1,qs2,qs3,qAH,qAI]
   rfl
  refine qAL (i:=25) (N:=some 56) (v:=undef) (a' := ?_) #[qT,qT,qT,qT,qT,qT,qT,qT,qT,qT,qT,qT,qT,qT,qT,qT,qT,qT,qT,qT,qT,qT,qT,qT,qT,qT,qF,qF] rfl rfl (by kernel_rfl) (fun _ _ _ h=>h) (Or.inr ⟨by rfl,rfl⟩) ?_ ?_
  rotate_left
  ·simp only [Act.put,qs1,qs2,qs3,qAH,qAI]
   rfl
  refine qAL (i:=26) (N:=some 57) (v := ?_) (a' := ?_) #[qT,qT,qT,qT,qT,qT,qT,qT,qT,qT,qT,qT,qT,qT,qT,qT,qT,qT,qT,qT,qT,qT,qT,qT,qT,qT,qT,qF] rfl rfl (by kernel_rfl) (fun _ _ _ h=>h) (Or.inl ⟨by rfl, ?_⟩) ?_ ?_
  rotate_left
  ·intro w'
   go_simp
   with_reducible rfl
  rotate_left
  ·simp only [Act.put,qs1,qs2,qs3,qAH,qAI]
   rfl
  refine qAL (i:=27) (N:=some 30) (v := ?_) (a' := ?_) #[qT,qT,qT,qT,qT,qT,qT,qT,qT,qT,qT,qT,qT,qT,qT,qT,qT,qT,qT,qT,qT,qT,qT,qT,qT,qT,qT,qT] rfl rfl (by kernel_rfl) (fun _ _ _ h=>h) (Or.inl ⟨by rfl, ?_⟩) ?_ ?_
  rotate_left
  ·intro w'
   go_simp
   with_reducible rfl
  rotate_left
  ·simp only [Act.put,qs1,qs2,qs3,qAH,qAI]
   rfl
  refine qBM (by kernel_rfl) ?_
  have z1:wd2.cell? ⟨g,1,none⟩=some (.int .i64 at_):=(qAB R2d.out 1).trans rfl
  go_wp2
  go_ret2
  exact ⟨rfl,W2d.out⟩
 have k2:(s.toList == [])=false:=by simpa using h2
 have H2:=qAA.mk h2
 have HBB:=qAA.mk (And.intro hb hl)
 clear hb hl
 rcases Nat.eq_zero_or_pos n with hn0 | hn0
 ·have hcond:¬ (s.toList=[] ∨ (0 < l.length∧¬ Op.bytesLess (qAN l ((l.length:Int) - 1)).f0.toList s.toList=true)):=by
   have:=HN.out
   rintro (h | ⟨h,_⟩)
   ·exact h2 h
   ·omega
  rw [if_neg hcond]
  subst hn0
  clear h2 hcond
  rcases hr:sa.takeS bs (qAk bs) (qCL bs) n1 with ⟨x,a2,l2⟩ | ⟨ee,pp⟩
  case bad =>
   have TB:=qAA.mk (sa.takeS_bad HBB.out.1 HBB.out.2 hr)
   have TKB:=qAA.mk (fun (W:World) (hb2:Below w0.heap.size w0 W)=>show Calls Try.prog 61 #[.slice B bs.length cb,.int .i64 n1] W (fun e w'=>e=.returned (.tuple #[.agg #[.int .i64 0,.int .i64 0,.string ⟨#[]⟩,.slice none 0 0,.slice none 0 0],.int .i64 pp,.int .i64 ee])∧Below W.heap.size W w') from by have h:=TK.out W hb2 n1;rw [hr] at h;exact h)
   dsimp only
   have hee:ee ≠ 0:=by have:=TB.out.1;omega
   have d1:(ee != 0)=true:=bne_iff_ne.2 hee
   have d2:(ee == 0)=false:=beq_eq_false_iff_ne.2 hee
   have d3:decide (ee=0)=false:=decide_eq_false hee
   clear hr hee
   go_enter Try.func41,Try.ntmps41
   go_wp2
   refine qAy (n:=16) (S:=fun w'=>w'.cell? ⟨g,0,none⟩=some (.slice B bs.length cb)∧w'.cell? ⟨g,1,none⟩=some (.int .i64 at_)) (ds:=[]) #[qF,qF,qF,qF,qF,qF,qF,qF,qF,qF,qF,qF,qF,qF,qF,qF] (by kernel_rfl) rfl rfl ⟨(qAB (show w.drew.heap[g]?=_ from HR.out) 0).trans rfl,(qAB (show w.drew.heap[g]?=_ from HR.out) 1).trans rfl⟩ (fun hHeld => ?_)
   generalize hwd:w.drew=wd at hHeld ⊢
   have Rd:=qAA.mk (hwd▸HR.out.below (qAX (Below.refl _ _)))
   have Wd:=qAA.mk (hwd▸qAX HW.out)
   have Od:=qAA.mk (hwd▸Kd.qA8 HO.out)
   have HGd:=qAA.mk (show g < wd.heap.size from hwd▸HGW.out)
   clear hwd
   refine qAL (i:=0) (N:=some 11) (v := ?_) (a' := ?_) #[qT,qF,qF,qF,qF,qF,qF,qF,qF,qF,qF,qF,qF,qF,qF,qF] rfl rfl (by kernel_rfl) (fun _ _ _ h=>h) (Or.inl ⟨by rfl, ?_⟩) ?_ ?_
   rotate_left
   ·intro w'
    go_simp
    with_reducible rfl
   rotate_left
   ·simp only [Act.put,qs1,qs2,qs3,qAH,qAI]
    rfl
   refine qAL (i:=1) (N:=some 12) (v := ?_) (a' := ?_) #[qT,qT,qF,qF,qF,qF,qF,qF,qF,qF,qF,qF,qF,qF,qF,qF] rfl rfl (by kernel_rfl) (fun _ _ _ h=>h) (Or.inl ⟨by rfl, ?_⟩) ?_ ?_
   rotate_left
   ·intro w'
    go_simp
    with_reducible rfl
   rotate_left
   ·simp only [Act.put,qs1,qs2,qs3,qAH,qAI]
    rfl
   refine qAL (i:=2) (N:=some 13) (v := ?_) (a' := ?_) #[qT,qT,qT,qF,qF,qF,qF,qF,qF,qF,qF,qF,qF,qF,qF,qF] rfl rfl (by kernel_rfl) (fun _ _ _ h=>h) (Or.inl ⟨by rfl, ?_⟩) ?_ ?_
   rotate_left
   ·intro w'
    go_simp
    with_reducible rfl
   rotate_left
   ·simp only [Act.put,qs1,qs2,qs3,qAH,qAI]
    rfl
   refine qAL (i:=4) (N:=some 15) (v := ?_) (a' := ?_) #[qT,qT,qT,qF,qT,qF,qF,qF,qF,qF,qF,qF,qF,qF,qF,qF] rfl rfl (by kernel_rfl) (fun _ _ _ h=>h) (Or.inl ⟨by rfl, ?_⟩) ?_ ?_
   rotate_left
   ·intro w'
    go_simp
    with_reducible rfl
   rotate_left
   ·simp only [Act.put,qs1,qs2,qs3,qAH,qAI]
    rfl
   refine qAL (i:=5) (N:=some 16) (v := ?_) (a' := ?_) #[qT,qT,qT,qF,qT,qT,qF,qF,qF,qF,qF,qF,qF,qF,qF,qF] rfl rfl (by kernel_rfl) (fun _ _ _ h=>h) (Or.inl ⟨by rfl, ?_⟩) ?_ ?_
   rotate_left
   ·intro w'
    go_simp
    with_reducible rfl
   rotate_left
   ·simp only [Act.put,qs1,qs2,qs3,qAH,qAI]
    rfl
   refine qAL (i:=6) (N:=some 17) (v := ?_) (a' := ?_) #[qT,qT,qT,qF,qT,qT,qT,qF,qF,qF,qF,qF,qF,qF,qF,qF] rfl rfl (by kernel_rfl) (fun _ _ _ h=>h) (Or.inl ⟨by rfl, ?_⟩) ?_ ?_
   rotate_left
   ·intro w'
    go_simp
    with_reducible rfl
   rotate_left
   ·simp only [Act.put,qs1,qs2,qs3,qAH,qAI]
    rfl
   refine qAt (i:=3) (N:=some 14) (v := ?_) (a' := ?_) #[qT,qT,qT,qT,qT,qT,qT,qF,qF,qF,qF,qF,qF,qF,qF,qF] rfl rfl (by kernel_rfl) (fun _ _ _ h=>h) (Or.inl ⟨by rfl, ?_⟩) hHeld ?_ ?_
   rotate_left
   ·rintro w' ⟨s0,s1⟩
    go_simp
    with_reducible rfl
   rotate_left
   ·simp only [Act.put,qs1,qs2,qs3,qAH,qAI]
    rfl
   refine qAt (i:=7) (N:=some 18) (v := ?_) (a' := ?_) #[qT,qT,qT,qT,qT,qT,qT,qT,qF,qF,qF,qF,qF,qF,qF,qF] rfl rfl (by kernel_rfl) (fun _ _ _ h=>h) (Or.inl ⟨by rfl, ?_⟩) hHeld ?_ ?_
   rotate_left
   ·rintro w' ⟨s0,s1⟩
    go_simp
    with_reducible rfl
   rotate_left
   ·simp only [Act.put,qs1,qs2,qs3,qAH,qAI]
    rfl
   refine one_ (i:=8) (N:=some 19) #[qT,qT,qT,qT,qT,qT,qT,qT,qT,qF,qF,qF,qF,qF,qF,qF] rfl rfl (by kernel_rfl) (by decide) (fun K hK => ?_)
   refine qBe Try.func60 (by kernel_rfl) rfl #[.slice B bs.length cb,.int .i64 at_,.int .i64 32] (by rfl) rfl rfl (by (try simp only [List.map_toArray,List.map_cons,List.map_nil]);first | done | rfl) ?_
   refine (TX.out wd Wd.out).mono ?_
   rintro e w2 ⟨rfl,hb⟩
   refine ⟨_,rfl, ?_⟩
   have R2:=qAA.mk (Rd.out.below hb.below)
   have W2:=qAA.mk (qAf Wd.out Wd.out.size hb.below)
   have O2:=qAA.mk (Kd.qA3 Od.out hb.below)
   have HG2:=qAA.mk (Nat.lt_of_lt_of_le HGd.out hb.below.size)
   clear hb
   refine hK.out _ _ ⟨(qAB R2.out 0).trans rfl,(qAB R2.out 1).trans rfl⟩ (fun hHeld => ?_)
   clear hK K
   refine qBH (a' := ?_) ?_ ?_
   rotate_left
   ·show Act.put _ (some 19) _=_
    simp only [Act.put,qs1,qs2,qs3,qAH,qAI]
    rfl
   refine qAL (i:=9) (N:=some 10) (v := ?_) (a' := ?_) #[qT,qT,qT,qT,qT,qT,qT,qT,qT,qT,qF,qF,qF,qF,qF,qF] rfl rfl (by kernel_rfl) (fun _ _ _ h=>h) (Or.inl ⟨by rfl, ?_⟩) ?_ ?_
   rotate_left
   ·intro w'
    go_simp
    with_reducible rfl
   rotate_left
   ·simp only [Act.put,qs1,qs2,qs3,qAH,qAI]
    rfl
   refine qAL (i:=10) (N:=some 20) (v := ?_) (a' := ?_) #[qT,qT,qT,qT,qT,qT,qT,qT,qT,qT,qT,qF,qF,qF,qF,qF] rfl rfl (by kernel_rfl) (fun _ _ _ h=>h) (Or.inl ⟨by rfl, ?_⟩) ?_ ?_
   rotate_left
   ·intro w'
    go_simp
    with_reducible rfl
   rotate_left
   ·simp only [Act.put,qs1,qs2,qs3,qAH,qAI]
    rfl
   refine qAL (i:=11) (N:=some 21) (v := ?_) (a' := ?_) #[qT,qT,qT,qT,qT,qT,qT,qT,qT,qT,qT,qT,qF,qF,qF,qF] rfl rfl (by kernel_rfl) (fun _ _ _ h=>h) (Or.inl ⟨by rfl, ?_⟩) ?_ ?_
   rotate_left
   ·intro w'
    go_simp
    with_reducible rfl
   rotate_left
   ·simp only [Act.put,qs1,qs2,qs3,qAH,qAI]
    rfl
   refine qAL (i:=12) (N:=some 22) (v := ?_) (a' := ?_) #[qT,qT,qT,qT,qT,qT,qT,qT,qT,qT,qT,qT,qT,qF,qF,qF] rfl rfl (by kernel_rfl) (fun _ _ _ h=>h) (Or.inl ⟨by rfl, ?_⟩) ?_ ?_
   rotate_left
   ·intro w'
    go_simp
    with_reducible rfl
   rotate_left
   ·simp only [Act.put,qs1,qs2,qs3,qAH,qAI]
    rfl
   refine qAL (i:=13) (N:=some 4) (v := ?_) (a' := ?_) #[qT,qT,qT,qT,qT,qT,qT,qT,qT,qT,qT,qT,qT,qT,qF,qF] rfl rfl (by kernel_rfl) (fun _ _ _ h=>h) (Or.inl ⟨by rfl, ?_⟩) ?_ ?_
   rotate_left
   ·intro w'
    go_simp
    with_reducible rfl
   rotate_left
   ·simp only [Act.put,qs1,qs2,qs3,qAH,qAI]
    rfl
   refine qAL (i:=14) (N:=some 5) (v := ?_) (a' := ?_) #[qT,qT,qT,qT,qT,qT,qT,qT,qT,qT,qT,qT,qT,qT,qT,qF] rfl rfl (by kernel_rfl) (fun _ _ _ h=>h) (Or.inl ⟨by rfl, ?_⟩) ?_ ?_
   rotate_left
   ·intro w'
    go_simp
    with_reducible rfl
   rotate_left
   ·simp only [Act.put,qs1,qs2,qs3,qAH,qAI]
    rfl
   refine qAL (i:=15) (N:=some 6) (v := ?_) (a' := ?_) #[qT,qT,qT,qT,qT,qT,qT,qT,qT,qT,qT,qT,qT,qT,qT,qT] rfl rfl (by kernel_rfl) (fun _ _ _ h=>h) (Or.inl ⟨by rfl, ?_⟩) ?_ ?_
   rotate_left
   ·intro w'
    go_simp
    with_reducible rfl
   rotate_left
   ·simp only [Act.put,qs1,qs2,qs3,qAH,qAI]
    rfl
   refine qBM (by kernel_rfl) ?_
   go_wp2
   refine qAy (n:=28) (S:=fun w'=>w'.cell? ⟨g,3,none⟩=some (.slice AL 0 cl)) (ds:=[]) #[qF,qF,qF,qF,qF,qF,qF,qF,qF,qF,qF,qF,qF,qF,qF,qF,qF,qF,qF,qF,qF,qF,qF,qF,qF,qF,qF,qF] (by kernel_rfl) rfl rfl ((qAB (show w2.drew.heap[g]?=_ from R2.out) 3).trans rfl) (fun hHeld => ?_)
   generalize hwd:w2.drew=wd2 at hHeld ⊢
   have R2d:=qAA.mk (hwd▸R2.out.below (qAX (Below.refl _ _)))
   have W2d:=qAA.mk (hwd▸qAX W2.out)
   have O2d:=qAA.mk (hwd▸Kd.qA8 O2.out)
   have HG2d:=qAA.mk (show g < wd2.heap.size from hwd▸HG2.out)
   have HOB:=qAA.mk (fun k hk=>((Kd.qBf O2d.out).1 k hk).2.2.1)
   clear hwd
   refine qAL (i:=0) (N:=some 31) (v := ?_) (a' := ?_) #[qT,qF,qF,qF,qF,qF,qF,qF,qF,qF,qF,qF,qF,qF,qF,qF,qF,qF,qF,qF,qF,qF,qF,qF,qF,qF,qF,qF] rfl rfl (by kernel_rfl) (fun _ _ _ h=>h) (Or.inl ⟨by rfl, ?_⟩) ?_ ?_
   rotate_left
   ·intro w'
    go_simp
    with_reducible rfl
   rotate_left
   ·simp only [Act.put,qs1,qs2,qs3,qAH,qAI]
    rfl
   refine qAL (i:=1) (N:=some 32) (v := ?_) (a' := ?_) #[qT,qT,qF,qF,qF,qF,qF,qF,qF,qF,qF,qF,qF,qF,qF,qF,qF,qF,qF,qF,qF,qF,qF,qF,qF,qF,qF,qF] rfl rfl (by kernel_rfl) (fun _ _ _ h=>h) (Or.inl ⟨by rfl, ?_⟩) ?_ ?_
   rotate_left
   ·intro w'
    go_simp
    with_reducible rfl
   rotate_left
   ·simp only [Act.put,qs1,qs2,qs3,qAH,qAI]
    rfl
   refine qAL (i:=2) (N:=some 33) (v := ?_) (a' := ?_) #[qT,qT,qT,qF,qF,qF,qF,qF,qF,qF,qF,qF,qF,qF,qF,qF,qF,qF,qF,qF,qF,qF,qF,qF,qF,qF,qF,qF] rfl rfl (by kernel_rfl) (fun _ _ _ h=>h) (Or.inl ⟨by rfl, ?_⟩) ?_ ?_
   rotate_left
   ·intro w'
    go_simp
    with_reducible rfl
   rotate_left
   ·simp only [Act.put,qs1,qs2,qs3,qAH,qAI]
    rfl
   refine qAL (i:=3) (N:=some 34) (v := ?_) (a' := ?_) #[qT,qT,qT,qT,qF,qF,qF,qF,qF,qF,qF,qF,qF,qF,qF,qF,qF,qF,qF,qF,qF,qF,qF,qF,qF,qF,qF,qF] rfl rfl (by kernel_rfl) (fun _ _ _ h=>h) (Or.inl ⟨by rfl, ?_⟩) ?_ ?_
   rotate_left
   ·intro w'
    go_simp
    with_reducible rfl
   rotate_left
   ·simp only [Act.put,qs1,qs2,qs3,qAH,qAI]
    rfl
   refine qAL (i:=4) (N:=some 35) (v := ?_) (a' := ?_) #[qT,qT,qT,qT,qT,qF,qF,qF,qF,qF,qF,qF,qF,qF,qF,qF,qF,qF,qF,qF,qF,qF,qF,qF,qF,qF,qF,qF] rfl rfl (by kernel_rfl) (fun _ _ _ h=>h) (Or.inl ⟨by rfl, ?_⟩) ?_ ?_
   rotate_left
   ·intro w'
    go_simp
    with_reducible rfl
   rotate_left
   ·simp only [Act.put,qs1,qs2,qs3,qAH,qAI]
    rfl
   refine qAL (i:=5) (N:=some 36) (v := ?_) (a' := ?_) #[qT,qT,qT,qT,qT,qT,qF,qF,qF,qF,qF,qF,qF,qF,qF,qF,qF,qF,qF,qF,qF,qF,qF,qF,qF,qF,qF,qF] rfl rfl (by kernel_rfl) (fun _ _ _ h=>h) (Or.inl ⟨by rfl, ?_⟩) ?_ ?_
   rotate_left
   ·intro w'
    go_simp
    with_reducible rfl
   rotate_left
   ·simp only [Act.put,qs1,qs2,qs3,qAH,qAI]
    rfl
   refine qAt (i:=6) (N:=some 37) (v := ?_) (a' := ?_) #[qT,qT,qT,qT,qT,qT,qT,qF,qF,qF,qF,qF,qF,qF,qF,qF,qF,qF,qF,qF,qF,qF,qF,qF,qF,qF,qF,qF] rfl rfl (by kernel_rfl) (fun _ _ _ h=>h) (Or.inl ⟨by rfl, ?_⟩) hHeld ?_ ?_
   rotate_left
   ·intro w' s0
    go_simp
    with_reducible rfl
   rotate_left
   ·simp only [Act.put,qs1,qs2,qs3,qAH,qAI]
    rfl
   refine qAL (i:=7) (N:=some 38) (v := ?_) (a' := ?_) #[qT,qT,qT,qT,qT,qT,qT,qT,qF,qF,qF,qF,qF,qF,qF,qF,qF,qF,qF,qF,qF,qF,qF,qF,qF,qF,qF,qF] rfl rfl (by kernel_rfl) (fun _ _ _ h=>h) (Or.inl ⟨by rfl, ?_⟩) ?_ ?_
   rotate_left
   ·intro w'
    go_simp
    with_reducible rfl
   rotate_left
   ·simp only [Act.put,qs1,qs2,qs3,qAH,qAI]
    rfl
   refine qAL (i:=8) (N:=some 39) (v := ?_) (a' := ?_) #[qT,qT,qT,qT,qT,qT,qT,qT,qT,qF,qF,qF,qF,qF,qF,qF,qF,qF,qF,qF,qF,qF,qF,qF,qF,qF,qF,qF] rfl rfl (by kernel_rfl) (fun _ _ _ h=>h) (Or.inl ⟨by rfl, ?_⟩) ?_ ?_
   rotate_left
   ·intro w'
    go_simp
    with_reducible rfl
   rotate_left
   ·simp only [Act.put,qs1,qs2,qs3,qAH,qAI]
    rfl
   refine qAL (i:=9) (N:=some 40) (v := ?_) (a' := ?_) #[qT,qT,qT,qT,qT,qT,qT,qT,qT,qT,qF,qF,qF,qF,qF,qF,qF,qF,qF,qF,qF,qF,qF,qF,qF,qF,qF,qF] rfl rfl (by kernel_rfl) (fun _ _ _ h=>h) (Or.inl ⟨by rfl, ?_⟩) ?_ ?_
   rotate_left
   ·intro w'
    go_simp
    with_reducible rfl
   rotate_left
   ·simp only [Act.put,qs1,qs2,qs3,qAH,qAI]
    rfl
   refine qAL (i:=10) (N:=some 41) (v:=undef) (a' := ?_) #[qT,qT,qT,qT,qT,qT,qT,qT,qT,qT,qT,qF,qF,qF,qF,qF,qF,qF,qF,qF,qF,qF,qF,qF,qF,qF,qF,qF] rfl rfl (by kernel_rfl) (fun _ _ _ h=>h) (Or.inr ⟨by rfl,rfl⟩) ?_ ?_
   rotate_left
   ·simp only [Act.put,qs1,qs2,qs3,qAH,qAI]
    rfl
   refine qAL (i:=11) (N:=some 42) (v:=undef) (a' := ?_) #[qT,qT,qT,qT,qT,qT,qT,qT,qT,qT,qT,qT,qF,qF,qF,qF,qF,qF,qF,qF,qF,qF,qF,qF,qF,qF,qF,qF] rfl rfl (by kernel_rfl) (fun _ _ _ h=>h) (Or.inr ⟨by rfl,rfl⟩) ?_ ?_
   rotate_left
   ·simp only [Act.put,qs1,qs2,qs3,qAH,qAI]
    rfl
   refine qAL (i:=12) (N:=some 43) (v:=undef) (a' := ?_) #[qT,qT,qT,qT,qT,qT,qT,qT,qT,qT,qT,qT,qT,qF,qF,qF,qF,qF,qF,qF,qF,qF,qF,qF,qF,qF,qF,qF] rfl rfl (by kernel_rfl) (fun _ _ _ h=>h) (Or.inr ⟨by rfl,rfl⟩) ?_ ?_
   rotate_left
   ·simp only [Act.put,qs1,qs2,qs3,qAH,qAI]
    rfl
   refine qAL (i:=13) (N:=some 44) (v:=undef) (a' := ?_) #[qT,qT,qT,qT,qT,qT,qT,qT,qT,qT,qT,qT,qT,qT,qF,qF,qF,qF,qF,qF,qF,qF,qF,qF,qF,qF,qF,qF] rfl rfl (by kernel_rfl) (fun _ _ _ h=>h) (Or.inr ⟨by rfl,rfl⟩) ?_ ?_
   rotate_left
   ·simp only [Act.put,qs1,qs2,qs3,qAH,qAI]
    rfl
   refine qAL (i:=14) (N:=some 45) (v:=undef) (a' := ?_) #[qT,qT,qT,qT,qT,qT,qT,qT,qT,qT,qT,qT,qT,qT,qT,qF,qF,qF,qF,qF,qF,qF,qF,qF,qF,qF,qF,qF] rfl rfl (by kernel_rfl) (fun _ _ _ h=>h) (Or.inr ⟨by rfl,rfl⟩) ?_ ?_
   rotate_left
   ·simp only [Act.put,qs1,qs2,qs3,qAH,qAI]
    rfl
   refine qAL (i:=15) (N:=some 46) (v:=undef) (a' := ?_) #[qT,qT,qT,qT,qT,qT,qT,qT,qT,qT,qT,qT,qT,qT,qT,qT,qF,qF,qF,qF,qF,qF,qF,qF,qF,qF,qF,qF] rfl rfl (by kernel_rfl) (fun _ _ _ h=>h) (Or.inr ⟨by rfl,rfl⟩) ?_ ?_
   rotate_left
   ·simp only [Act.put,qs1,qs2,qs3,qAH,qAI]
    rfl
   refine qAL (i:=16) (N:=some 47) (v:=undef) (a' := ?_) #[qT,qT,qT,qT,qT,qT,qT,qT,qT,qT,qT,qT,qT,qT,qT,qT,qT,qF,qF,qF,qF,qF,qF,qF,qF,qF,qF,qF] rfl rfl (by kernel_rfl) (fun _ _ _ h=>h) (Or.inr ⟨by rfl,rfl⟩) ?_ ?_
   rotate_left
   ·simp only [Act.put,qs1,qs2,qs3,qAH,qAI]
    rfl
   refine qAL (i:=17) (N:=some 48) (v:=undef) (a' := ?_) #[qT,qT,qT,qT,qT,qT,qT,qT,qT,qT,qT,qT,qT,qT,qT,qT,qT,qT,qF,qF,qF,qF,qF,qF,qF,qF,qF,qF] rfl rfl (by kernel_rfl) (fun _ _ _ h=>h) (Or.inr ⟨by rfl,rfl⟩) ?_ ?_
   rotate_left
   ·simp only [Act.put,qs1,qs2,qs3,qAH,qAI]
    rfl
   refine qAL (i:=18) (N:=some 49) (v:=undef) (a' := ?_) #[qT,qT,qT,qT,qT,qT,qT,qT,qT,qT,qT,qT,qT,qT,qT,qT,qT,qT,qT,qF,qF,qF,qF,qF,qF,qF,qF,qF] rfl rfl (by kernel_rfl) (fun _ _ _ h=>h) (Or.inr ⟨by rfl,rfl⟩) ?_ ?_
   rotate_left
   ·simp only [Act.put,qs1,qs2,qs3,qAH,qAI]
    rfl
   refine qAL (i:=19) (N:=some 50) (v:=undef) (a' := ?_) #[qT,qT,qT,qT,qT,qT,qT,qT,qT,qT,qT,qT,qT,qT,qT,qT,qT,qT,qT,qT,qF,qF,qF,qF,qF,qF,qF,qF] rfl rfl (by kernel_rfl) (fun _ _ _ h=>h) (Or.inr ⟨by rfl,rfl⟩) ?_ ?_
   rotate_left
   ·simp only [Act.put,qs1,qs2,qs3,qAH,qAI]
    rfl
   refine qAL (i:=20) (N:=some 51) (v:=undef) (a' := ?_) #[qT,qT,qT,qT,qT,qT,qT,qT,qT,qT,qT,qT,qT,qT,qT,qT,qT,qT,qT,qT,qT,qF,qF,qF,qF,qF,qF,qF] rfl rfl (by kernel_rfl) (fun _ _ _ h=>h) (Or.inr ⟨by rfl,rfl⟩) ?_ ?_
   rotate_left
   ·simp only [Act.put,qs1,qs2,qs3,qAH,qAI]
    rfl
   refine qAL (i:=21) (N:=some 52) (v:=undef) (a' := ?_) #[qT,qT,qT,qT,qT,qT,qT,qT,qT,qT,qT,qT,qT,qT,qT,qT,qT,qT,qT,qT,qT,qT,qF,qF,qF,qF,qF,qF] rfl rfl (by kernel_rfl) (fun _ _ _ h=>h) (Or.inr ⟨by rfl,rfl⟩) ?_ ?_
   rotate_left
   ·simp only [Act.put,qs1,qs2,qs3,qAH,qAI]
    rfl
   refine qAL (i:=22) (N:=some 53) (v:=undef) (a' := ?_) #[qT,qT,qT,qT,qT,qT,qT,qT,qT,qT,qT,qT,qT,qT,qT,qT,qT,qT,qT,qT,qT,qT,qT,qF,qF,qF,qF,qF] rfl rfl (by kernel_rfl) (fun _ _ _ h=>h) (Or.inr ⟨by rfl,rfl⟩) ?_ ?_
   rotate_left
   ·simp only [Act.put,qs1,qs2,qs3,qAH,qAI]
    rfl
   refine qAL (i:=23) (N:=some 54) (v:=undef) (a' := ?_) #[qT,qT,qT,qT,qT,qT,qT,qT,qT,qT,qT,qT,qT,qT,qT,qT,qT,qT,qT,qT,qT,qT,qT,qT,qF,qF,qF,qF] rfl rfl (by kernel_rfl) (fun _ _ _ h=>h) (Or.inr ⟨by rfl,rfl⟩) ?_ ?_
   rotate_left
   ·simp only [Act.put,qs1,qs2,qs3,qAH,qAI]
    rfl
   refine qAL (i:=24) (N:=some 55) (v:=undef) (a' := ?_) #[qT,qT,qT,qT,qT,qT,qT,qT,qT,qT,qT,qT,qT,qT,qT,qT,qT,qT,qT,qT,qT,qT,qT,qT,qT,qF,qF,qF] rfl rfl (by kernel_rfl) (fun _ _ _ h=>h) (Or.inr ⟨by rfl,rfl⟩) ?_ ?_
   rotate_left
   ·simp only [Act.put,qs1,qs2,qs3,qAH,qAI]
    rfl
   refine qAL (i:=25) (N:=some 56) (v := ?_) (a' := ?_) #[qT,qT,qT,qT,qT,qT,qT,qT,qT,qT,qT,qT,qT,qT,qT,qT,qT,qT,qT,qT,qT,qT,qT,qT,qT,qT,qF,qF] rfl rfl (by kernel_rfl) (fun _ _ _ h=>h) (Or.inl ⟨by rfl, ?_⟩) ?_ ?_
   rotate_left
   ·intro w'
    go_simp
    with_reducible rfl
   rotate_left
   ·simp only [Act.put,qs1,qs2,qs3,qAH,qAI]
    rfl
   refine qAL (i:=26) (N:=some 57) (v := ?_) (a' := ?_) #[qT,qT,qT,qT,qT,qT,qT,qT,qT,qT,qT,qT,qT,qT,qT,qT,qT,qT,qT,qT,qT,qT,qT,qT,qT,qT,qT,qF] rfl rfl (by kernel_rfl) (fun _ _ _ h=>h) (Or.inl ⟨by rfl, ?_⟩) ?_ ?_
   rotate_left
   ·intro w'
    go_simp
    with_reducible rfl
   rotate_left
   ·simp only [Act.put,qs1,qs2,qs3,qAH,qAI]
    rfl
   refine qAL (i:=27) (N:=some 30) (v := ?_) (a' := ?_) #[qT,qT,qT,qT,qT,qT,qT,qT,qT,qT,qT,qT,qT,qT,qT,qT,qT,qT,qT,qT,qT,qT,qT,qT,qT,qT,qT,qT] rfl rfl (by kernel_rfl) (fun _ _ _ h=>h) (Or.inl ⟨by rfl, ?_⟩) ?_ ?_
   rotate_left
   ·intro w'
    go_simp
    with_reducible rfl
   rotate_left
   ·simp only [Act.put,qs1,qs2,qs3,qAH,qAI]
    rfl
   refine qBM (by kernel_rfl) ?_
   have z0:wd2.cell? ⟨g,0,none⟩=some (.slice B bs.length cb):=(qAB R2d.out 0).trans rfl
   go_wp2_with (first | (go_at_call 61;refine (TKB.out _ W2d.out).mono ?_;rintro e_ w3 ⟨rfl,hb⟩;have W3:=qAA.mk (qAf W2d.out W2d.out.size hb);clear hb z0))
   go_ret2
   exact ⟨rfl,qAF W3.out _⟩
  case ok =>
   obtain ⟨hv0,_,hrt,p0,p1,p2,_,_⟩:=TOK.out n1 x a2 l2 hr
   obtain ⟨KH,hKH⟩:=sa.heavy_ev s x hv0 hrt H2.out HSZ.out
   have TKO:=qAA.mk (fun (W:World) (hb2:Below w0.heap.size w0 W)=>show Calls Try.prog 61 #[.slice B bs.length cb,.int .i64 n1] W (fun e w'=>∃ v3 v4:Value,e=.returned (.tuple #[.agg #[.int .i64 x.f0,.int .i64 x.f1,.string x.f2,v3,v4],.int .i64 a2,.int .i64 0])∧sa.VRow w' (fun k=>W.heap.size≤k∧k < w'.heap.size) 8 v3 x.f3∧sa.KRow w' (fun k=>W.heap.size≤k∧k < w'.heap.size) v4 x.f4∧Below W.heap.size W w') from by have h:=TK.out W hb2 n1;rw [hr] at h;exact h)
   dsimp only
   have hhv:0≤sa.hv ⟨s,x⟩∧sa.hv ⟨s,x⟩≤4000:=by have:=hrt.2;have:=HSZ.out;unfold sa.hv;dsimp only;omega
   generalize sa.hv ⟨s,x⟩=hw at hKH hhv ⊢
   have HKH:=qAA.mk hKH
   have hwa:wrap64 (all+hw)=all+hw:=by have:=HAL.out;unfold wrap64;omega
   have hwb:IntKind.i64.wrap (all+hw)=all+hw:=(qAH _).trans hwa
   clear hr hKH hv0 hrt p0 p1 p2
   by_cases hbig:all+hw > 32768
   case pos =>
    rw [if_pos hbig]
    have d1:decide (all+hw > 32768)=true:=decide_eq_true (by omega)
    have d2:decide (32768 < all+hw)=true:=decide_eq_true (by omega)
    have HBG:=qAA.mk hbig
    clear hbig hhv
    go_enter Try.func41,Try.ntmps41
    go_wp2
    refine qAy (n:=16) (S:=fun w'=>w'.cell? ⟨g,0,none⟩=some (.slice B bs.length cb)∧w'.cell? ⟨g,1,none⟩=some (.int .i64 at_)) (ds:=[]) #[qF,qF,qF,qF,qF,qF,qF,qF,qF,qF,qF,qF,qF,qF,qF,qF] (by kernel_rfl) rfl rfl ⟨(qAB (show w.drew.heap[g]?=_ from HR.out) 0).trans rfl,(qAB (show w.drew.heap[g]?=_ from HR.out) 1).trans rfl⟩ (fun hHeld => ?_)
    generalize hwd:w.drew=wd at hHeld ⊢
    have Rd:=qAA.mk (hwd▸HR.out.below (qAX (Below.refl _ _)))
    have Wd:=qAA.mk (hwd▸qAX HW.out)
    have Od:=qAA.mk (hwd▸Kd.qA8 HO.out)
    have HGd:=qAA.mk (show g < wd.heap.size from hwd▸HGW.out)
    clear hwd
    refine qAL (i:=0) (N:=some 11) (v := ?_) (a' := ?_) #[qT,qF,qF,qF,qF,qF,qF,qF,qF,qF,qF,qF,qF,qF,qF,qF] rfl rfl (by kernel_rfl) (fun _ _ _ h=>h) (Or.inl ⟨by rfl, ?_⟩) ?_ ?_
    rotate_left
    ·intro w'
     go_simp
     with_reducible rfl
    rotate_left
    ·simp only [Act.put,qs1,qs2,qs3,qAH,qAI]
     rfl
    refine qAL (i:=1) (N:=some 12) (v := ?_) (a' := ?_) #[qT,qT,qF,qF,qF,qF,qF,qF,qF,qF,qF,qF,qF,qF,qF,qF] rfl rfl (by kernel_rfl) (fun _ _ _ h=>h) (Or.inl ⟨by rfl, ?_⟩) ?_ ?_
    rotate_left
    ·intro w'
     go_simp
     with_reducible rfl
    rotate_left
    ·simp only [Act.put,qs1,qs2,qs3,qAH,qAI]
     rfl
    refine qAL (i:=2) (N:=some 13) (v := ?_) (a' := ?_) #[qT,qT,qT,qF,qF,qF,qF,qF,qF,qF,qF,qF,qF,qF,qF,qF] rfl rfl (by kernel_rfl) (fun _ _ _ h=>h) (Or.inl ⟨by rfl, ?_⟩) ?_ ?_
    rotate_left
    ·intro w'
     go_simp
     with_reducible rfl
    rotate_left
    ·simp only [Act.put,qs1,qs2,qs3,qAH,qAI]
     rfl
    refine qAL (i:=4) (N:=some 15) (v := ?_) (a' := ?_) #[qT,qT,qT,qF,qT,qF,qF,qF,qF,qF,qF,qF,qF,qF,qF,qF] rfl rfl (by kernel_rfl) (fun _ _ _ h=>h) (Or.inl ⟨by rfl, ?_⟩) ?_ ?_
    rotate_left
    ·intro w'
     go_simp
     with_reducible rfl
    rotate_left
    ·simp only [Act.put,qs1,qs2,qs3,qAH,qAI]
     rfl
    refine qAL (i:=5) (N:=some 16) (v := ?_) (a' := ?_) #[qT,qT,qT,qF,qT,qT,qF,qF,qF,qF,qF,qF,qF,qF,qF,qF] rfl rfl (by kernel_rfl) (fun _ _ _ h=>h) (Or.inl ⟨by rfl, ?_⟩) ?_ ?_
    rotate_left
    ·intro w'
     go_simp
     with_reducible rfl
    rotate_left
    ·simp only [Act.put,qs1,qs2,qs3,qAH,qAI]
     rfl
    refine qAL (i:=6) (N:=some 17) (v := ?_) (a' := ?_) #[qT,qT,qT,qF,qT,qT,qT,qF,qF,qF,qF,qF,qF,qF,qF,qF] rfl rfl (by kernel_rfl) (fun _ _ _ h=>h) (Or.inl ⟨by rfl, ?_⟩) ?_ ?_
    rotate_left
    ·intro w'
     go_simp
     with_reducible rfl
    rotate_left
    ·simp only [Act.put,qs1,qs2,qs3,qAH,qAI]
     rfl
    refine qAt (i:=3) (N:=some 14) (v := ?_) (a' := ?_) #[qT,qT,qT,qT,qT,qT,qT,qF,qF,qF,qF,qF,qF,qF,qF,qF] rfl rfl (by kernel_rfl) (fun _ _ _ h=>h) (Or.inl ⟨by rfl, ?_⟩) hHeld ?_ ?_
    rotate_left
    ·rintro w' ⟨s0,s1⟩
     go_simp
     with_reducible rfl
    rotate_left
    ·simp only [Act.put,qs1,qs2,qs3,qAH,qAI]
     rfl
    refine qAt (i:=7) (N:=some 18) (v := ?_) (a' := ?_) #[qT,qT,qT,qT,qT,qT,qT,qT,qF,qF,qF,qF,qF,qF,qF,qF] rfl rfl (by kernel_rfl) (fun _ _ _ h=>h) (Or.inl ⟨by rfl, ?_⟩) hHeld ?_ ?_
    rotate_left
    ·rintro w' ⟨s0,s1⟩
     go_simp
     with_reducible rfl
    rotate_left
    ·simp only [Act.put,qs1,qs2,qs3,qAH,qAI]
     rfl
    refine one_ (i:=8) (N:=some 19) #[qT,qT,qT,qT,qT,qT,qT,qT,qT,qF,qF,qF,qF,qF,qF,qF] rfl rfl (by kernel_rfl) (by decide) (fun K hK => ?_)
    refine qBe Try.func60 (by kernel_rfl) rfl #[.slice B bs.length cb,.int .i64 at_,.int .i64 32] (by rfl) rfl rfl (by (try simp only [List.map_toArray,List.map_cons,List.map_nil]);first | done | rfl) ?_
    refine (TX.out wd Wd.out).mono ?_
    rintro e w2 ⟨rfl,hb⟩
    refine ⟨_,rfl, ?_⟩
    have R2:=qAA.mk (Rd.out.below hb.below)
    have W2:=qAA.mk (qAf Wd.out Wd.out.size hb.below)
    have O2:=qAA.mk (Kd.qA3 Od.out hb.below)
    have HG2:=qAA.mk (Nat.lt_of_lt_of_le HGd.out hb.below.size)
    clear hb
    refine hK.out _ _ ⟨(qAB R2.out 0).trans rfl,(qAB R2.out 1).trans rfl⟩ (fun hHeld => ?_)
    clear hK K
    refine qBH (a' := ?_) ?_ ?_
    rotate_left
    ·show Act.put _ (some 19) _=_
     simp only [Act.put,qs1,qs2,qs3,qAH,qAI]
     rfl
    refine qAL (i:=9) (N:=some 10) (v := ?_) (a' := ?_) #[qT,qT,qT,qT,qT,qT,qT,qT,qT,qT,qF,qF,qF,qF,qF,qF] rfl rfl (by kernel_rfl) (fun _ _ _ h=>h) (Or.inl ⟨by rfl, ?_⟩) ?_ ?_
    rotate_left
    ·intro w'
     go_simp
     with_reducible rfl
    rotate_left
    ·simp only [Act.put,qs1,qs2,qs3,qAH,qAI]
     rfl
    refine qAL (i:=10) (N:=some 20) (v := ?_) (a' := ?_) #[qT,qT,qT,qT,qT,qT,qT,qT,qT,qT,qT,qF,qF,qF,qF,qF] rfl rfl (by kernel_rfl) (fun _ _ _ h=>h) (Or.inl ⟨by rfl, ?_⟩) ?_ ?_
    rotate_left
    ·intro w'
     go_simp
     with_reducible rfl
    rotate_left
    ·simp only [Act.put,qs1,qs2,qs3,qAH,qAI]
     rfl
    refine qAL (i:=11) (N:=some 21) (v := ?_) (a' := ?_) #[qT,qT,qT,qT,qT,qT,qT,qT,qT,qT,qT,qT,qF,qF,qF,qF] rfl rfl (by kernel_rfl) (fun _ _ _ h=>h) (Or.inl ⟨by rfl, ?_⟩) ?_ ?_
    rotate_left
    ·intro w'
     go_simp
     with_reducible rfl
    rotate_left
    ·simp only [Act.put,qs1,qs2,qs3,qAH,qAI]
     rfl
    refine qAL (i:=12) (N:=some 22) (v := ?_) (a' := ?_) #[qT,qT,qT,qT,qT,qT,qT,qT,qT,qT,qT,qT,qT,qF,qF,qF] rfl rfl (by kernel_rfl) (fun _ _ _ h=>h) (Or.inl ⟨by rfl, ?_⟩) ?_ ?_
    rotate_left
    ·intro w'
     go_simp
     with_reducible rfl
    rotate_left
    ·simp only [Act.put,qs1,qs2,qs3,qAH,qAI]
     rfl
    refine qAL (i:=13) (N:=some 4) (v := ?_) (a' := ?_) #[qT,qT,qT,qT,qT,qT,qT,qT,qT,qT,qT,qT,qT,qT,qF,qF] rfl rfl (by kernel_rfl) (fun _ _ _ h=>h) (Or.inl ⟨by rfl, ?_⟩) ?_ ?_
    rotate_left
    ·intro w'
     go_simp
     with_reducible rfl
    rotate_left
    ·simp only [Act.put,qs1,qs2,qs3,qAH,qAI]
     rfl
    refine qAL (i:=14) (N:=some 5) (v := ?_) (a' := ?_) #[qT,qT,qT,qT,qT,qT,qT,qT,qT,qT,qT,qT,qT,qT,qT,qF] rfl rfl (by kernel_rfl) (fun _ _ _ h=>h) (Or.inl ⟨by rfl, ?_⟩) ?_ ?_
    rotate_left
    ·intro w'
     go_simp
     with_reducible rfl
    rotate_left
    ·simp only [Act.put,qs1,qs2,qs3,qAH,qAI]
     rfl
    refine qAL (i:=15) (N:=some 6) (v := ?_) (a' := ?_) #[qT,qT,qT,qT,qT,qT,qT,qT,qT,qT,qT,qT,qT,qT,qT,qT] rfl rfl (by kernel_rfl) (fun _ _ _ h=>h) (Or.inl ⟨by rfl, ?_⟩) ?_ ?_
    rotate_left
    ·intro w'
     go_simp
     with_reducible rfl
    rotate_left
    ·simp only [Act.put,qs1,qs2,qs3,qAH,qAI]
     rfl
    refine qBM (by kernel_rfl) ?_
    go_wp2
    refine qAy (n:=28) (S:=fun w'=>w'.cell? ⟨g,3,none⟩=some (.slice AL 0 cl)) (ds:=[]) #[qF,qF,qF,qF,qF,qF,qF,qF,qF,qF,qF,qF,qF,qF,qF,qF,qF,qF,qF,qF,qF,qF,qF,qF,qF,qF,qF,qF] (by kernel_rfl) rfl rfl ((qAB (show w2.drew.heap[g]?=_ from R2.out) 3).trans rfl) (fun hHeld => ?_)
    generalize hwd:w2.drew=wd2 at hHeld ⊢
    have R2d:=qAA.mk (hwd▸R2.out.below (qAX (Below.refl _ _)))
    have W2d:=qAA.mk (hwd▸qAX W2.out)
    have O2d:=qAA.mk (hwd▸Kd.qA8 O2.out)
    have HG2d:=qAA.mk (show g < wd2.heap.size from hwd▸HG2.out)
    have HOB:=qAA.mk (fun k hk=>((Kd.qBf O2d.out).1 k hk).2.2.1)
    clear hwd
    refine qAL (i:=0) (N:=some 31) (v := ?_) (a' := ?_) #[qT,qF,qF,qF,qF,qF,qF,qF,qF,qF,qF,qF,qF,qF,qF,qF,qF,qF,qF,qF,qF,qF,qF,qF,qF,qF,qF,qF] rfl rfl (by kernel_rfl) (fun _ _ _ h=>h) (Or.inl ⟨by rfl, ?_⟩) ?_ ?_
    rotate_left
    ·intro w'
     go_simp
     with_reducible rfl
    rotate_left
    ·simp only [Act.put,qs1,qs2,qs3,qAH,qAI]
     rfl
    refine qAL (i:=1) (N:=some 32) (v := ?_) (a' := ?_) #[qT,qT,qF,qF,qF,qF,qF,qF,qF,qF,qF,qF,qF,qF,qF,qF,qF,qF,qF,qF,qF,qF,qF,qF,qF,qF,qF,qF] rfl rfl (by kernel_rfl) (fun _ _ _ h=>h) (Or.inl ⟨by rfl, ?_⟩) ?_ ?_
    rotate_left
    ·intro w'
     go_simp
     with_reducible rfl
    rotate_left
    ·simp only [Act.put,qs1,qs2,qs3,qAH,qAI]
     rfl
    refine qAL (i:=2) (N:=some 33) (v := ?_) (a' := ?_) #[qT,qT,qT,qF,qF,qF,qF,qF,qF,qF,qF,qF,qF,qF,qF,qF,qF,qF,qF,qF,qF,qF,qF,qF,qF,qF,qF,qF] rfl rfl (by kernel_rfl) (fun _ _ _ h=>h) (Or.inl ⟨by rfl, ?_⟩) ?_ ?_
    rotate_left
    ·intro w'
     go_simp
     with_reducible rfl
    rotate_left
    ·simp only [Act.put,qs1,qs2,qs3,qAH,qAI]
     rfl
    refine qAL (i:=3) (N:=some 34) (v := ?_) (a' := ?_) #[qT,qT,qT,qT,qF,qF,qF,qF,qF,qF,qF,qF,qF,qF,qF,qF,qF,qF,qF,qF,qF,qF,qF,qF,qF,qF,qF,qF] rfl rfl (by kernel_rfl) (fun _ _ _ h=>h) (Or.inl ⟨by rfl, ?_⟩) ?_ ?_
    rotate_left
    ·intro w'
     go_simp
     with_reducible rfl
    rotate_left
    ·simp only [Act.put,qs1,qs2,qs3,qAH,qAI]
     rfl
    refine qAL (i:=4) (N:=some 35) (v := ?_) (a' := ?_) #[qT,qT,qT,qT,qT,qF,qF,qF,qF,qF,qF,qF,qF,qF,qF,qF,qF,qF,qF,qF,qF,qF,qF,qF,qF,qF,qF,qF] rfl rfl (by kernel_rfl) (fun _ _ _ h=>h) (Or.inl ⟨by rfl, ?_⟩) ?_ ?_
    rotate_left
    ·intro w'
     go_simp
     with_reducible rfl
    rotate_left
    ·simp only [Act.put,qs1,qs2,qs3,qAH,qAI]
     rfl
    refine qAL (i:=5) (N:=some 36) (v := ?_) (a' := ?_) #[qT,qT,qT,qT,qT,qT,qF,qF,qF,qF,qF,qF,qF,qF,qF,qF,qF,qF,qF,qF,qF,qF,qF,qF,qF,qF,qF,qF] rfl rfl (by kernel_rfl) (fun _ _ _ h=>h) (Or.inl ⟨by rfl, ?_⟩) ?_ ?_
    rotate_left
    ·intro w'
     go_simp
     with_reducible rfl
    rotate_left
    ·simp only [Act.put,qs1,qs2,qs3,qAH,qAI]
     rfl
    refine qAt (i:=6) (N:=some 37) (v := ?_) (a' := ?_) #[qT,qT,qT,qT,qT,qT,qT,qF,qF,qF,qF,qF,qF,qF,qF,qF,qF,qF,qF,qF,qF,qF,qF,qF,qF,qF,qF,qF] rfl rfl (by kernel_rfl) (fun _ _ _ h=>h) (Or.inl ⟨by rfl, ?_⟩) hHeld ?_ ?_
    rotate_left
    ·intro w' s0
     go_simp
     with_reducible rfl
    rotate_left
    ·simp only [Act.put,qs1,qs2,qs3,qAH,qAI]
     rfl
    refine qAL (i:=7) (N:=some 38) (v := ?_) (a' := ?_) #[qT,qT,qT,qT,qT,qT,qT,qT,qF,qF,qF,qF,qF,qF,qF,qF,qF,qF,qF,qF,qF,qF,qF,qF,qF,qF,qF,qF] rfl rfl (by kernel_rfl) (fun _ _ _ h=>h) (Or.inl ⟨by rfl, ?_⟩) ?_ ?_
    rotate_left
    ·intro w'
     go_simp
     with_reducible rfl
    rotate_left
    ·simp only [Act.put,qs1,qs2,qs3,qAH,qAI]
     rfl
    refine qAL (i:=8) (N:=some 39) (v := ?_) (a' := ?_) #[qT,qT,qT,qT,qT,qT,qT,qT,qT,qF,qF,qF,qF,qF,qF,qF,qF,qF,qF,qF,qF,qF,qF,qF,qF,qF,qF,qF] rfl rfl (by kernel_rfl) (fun _ _ _ h=>h) (Or.inl ⟨by rfl, ?_⟩) ?_ ?_
    rotate_left
    ·intro w'
     go_simp
     with_reducible rfl
    rotate_left
    ·simp only [Act.put,qs1,qs2,qs3,qAH,qAI]
     rfl
    refine qAL (i:=9) (N:=some 40) (v := ?_) (a' := ?_) #[qT,qT,qT,qT,qT,qT,qT,qT,qT,qT,qF,qF,qF,qF,qF,qF,qF,qF,qF,qF,qF,qF,qF,qF,qF,qF,qF,qF] rfl rfl (by kernel_rfl) (fun _ _ _ h=>h) (Or.inl ⟨by rfl, ?_⟩) ?_ ?_
    rotate_left
    ·intro w'
     go_simp
     with_reducible rfl
    rotate_left
    ·simp only [Act.put,qs1,qs2,qs3,qAH,qAI]
     rfl
    refine qAL (i:=10) (N:=some 41) (v:=undef) (a' := ?_) #[qT,qT,qT,qT,qT,qT,qT,qT,qT,qT,qT,qF,qF,qF,qF,qF,qF,qF,qF,qF,qF,qF,qF,qF,qF,qF,qF,qF] rfl rfl (by kernel_rfl) (fun _ _ _ h=>h) (Or.inr ⟨by rfl,rfl⟩) ?_ ?_
    rotate_left
    ·simp only [Act.put,qs1,qs2,qs3,qAH,qAI]
     rfl
    refine qAL (i:=11) (N:=some 42) (v:=undef) (a' := ?_) #[qT,qT,qT,qT,qT,qT,qT,qT,qT,qT,qT,qT,qF,qF,qF,qF,qF,qF,qF,qF,qF,qF,qF,qF,qF,qF,qF,qF] rfl rfl (by kernel_rfl) (fun _ _ _ h=>h) (Or.inr ⟨by rfl,rfl⟩) ?_ ?_
    rotate_left
    ·simp only [Act.put,qs1,qs2,qs3,qAH,qAI]
     rfl
    refine qAL (i:=12) (N:=some 43) (v:=undef) (a' := ?_) #[qT,qT,qT,qT,qT,qT,qT,qT,qT,qT,qT,qT,qT,qF,qF,qF,qF,qF,qF,qF,qF,qF,qF,qF,qF,qF,qF,qF] rfl rfl (by kernel_rfl) (fun _ _ _ h=>h) (Or.inr ⟨by rfl,rfl⟩) ?_ ?_
    rotate_left
    ·simp only [Act.put,qs1,qs2,qs3,qAH,qAI]
     rfl
    refine qAL (i:=13) (N:=some 44) (v:=undef) (a' := ?_) #[qT,qT,qT,qT,qT,qT,qT,qT,qT,qT,qT,qT,qT,qT,qF,qF,qF,qF,qF,qF,qF,qF,qF,qF,qF,qF,qF,qF] rfl rfl (by kernel_rfl) (fun _ _ _ h=>h) (Or.inr ⟨by rfl,rfl⟩) ?_ ?_
    rotate_left
    ·simp only [Act.put,qs1,qs2,qs3,qAH,qAI]
     rfl
    refine qAL (i:=14) (N:=some 45) (v:=undef) (a' := ?_) #[qT,qT,qT,qT,qT,qT,qT,qT,qT,qT,qT,qT,qT,qT,qT,qF,qF,qF,qF,qF,qF,qF,qF,qF,qF,qF,qF,qF] rfl rfl (by kernel_rfl) (fun _ _ _ h=>h) (Or.inr ⟨by rfl,rfl⟩) ?_ ?_
    rotate_left
    ·simp only [Act.put,qs1,qs2,qs3,qAH,qAI]
     rfl
    refine qAL (i:=15) (N:=some 46) (v:=undef) (a' := ?_) #[qT,qT,qT,qT,qT,qT,qT,qT,qT,qT,qT,qT,qT,qT,qT,qT,qF,qF,qF,qF,qF,qF,qF,qF,qF,qF,qF,qF] rfl rfl (by kernel_rfl) (fun _ _ _ h=>h) (Or.inr ⟨by rfl,rfl⟩) ?_ ?_
    rotate_left
    ·simp only [Act.put,qs1,qs2,qs3,qAH,qAI]
     rfl
    refine qAL (i:=16) (N:=some 47) (v:=undef) (a' := ?_) #[qT,qT,qT,qT,qT,qT,qT,qT,qT,qT,qT,qT,qT,qT,qT,qT,qT,qF,qF,qF,qF,qF,qF,qF,qF,qF,qF,qF] rfl rfl (by kernel_rfl) (fun _ _ _ h=>h) (Or.inr ⟨by rfl,rfl⟩) ?_ ?_
    rotate_left
    ·simp only [Act.put,qs1,qs2,qs3,qAH,qAI]
     rfl
    refine qAL (i:=17) (N:=some 48) (v:=undef) (a' := ?_) #[qT,qT,qT,qT,qT,qT,qT,qT,qT,qT,qT,qT,qT,qT,qT,qT,qT,qT,qF,qF,qF,qF,qF,qF,qF,qF,qF,qF] rfl rfl (by kernel_rfl) (fun _ _ _ h=>h) (Or.inr ⟨by rfl,rfl⟩) ?_ ?_
    rotate_left
    ·simp only [Act.put,qs1,qs2,qs3,qAH,qAI]
     rfl
    refine qAL (i:=18) (N:=some 49) (v:=undef) (a' := ?_) #[qT,qT,qT,qT,qT,qT,qT,qT,qT,qT,qT,qT,qT,qT,qT,qT,qT,qT,qT,qF,qF,qF,qF,qF,qF,qF,qF,qF] rfl rfl (by kernel_rfl) (fun _ _ _ h=>h) (Or.inr ⟨by rfl,rfl⟩) ?_ ?_
    rotate_left
    ·simp only [Act.put,qs1,qs2,qs3,qAH,qAI]
     rfl
    refine qAL (i:=19) (N:=some 50) (v:=undef) (a' := ?_) #[qT,qT,qT,qT,qT,qT,qT,qT,qT,qT,qT,qT,qT,qT,qT,qT,qT,qT,qT,qT,qF,qF,qF,qF,qF,qF,qF,qF] rfl rfl (by kernel_rfl) (fun _ _ _ h=>h) (Or.inr ⟨by rfl,rfl⟩) ?_ ?_
    rotate_left
    ·simp only [Act.put,qs1,qs2,qs3,qAH,qAI]
     rfl
    refine qAL (i:=20) (N:=some 51) (v:=undef) (a' := ?_) #[qT,qT,qT,qT,qT,qT,qT,qT,qT,qT,qT,qT,qT,qT,qT,qT,qT,qT,qT,qT,qT,qF,qF,qF,qF,qF,qF,qF] rfl rfl (by kernel_rfl) (fun _ _ _ h=>h) (Or.inr ⟨by rfl,rfl⟩) ?_ ?_
    rotate_left
    ·simp only [Act.put,qs1,qs2,qs3,qAH,qAI]
     rfl
    refine qAL (i:=21) (N:=some 52) (v:=undef) (a' := ?_) #[qT,qT,qT,qT,qT,qT,qT,qT,qT,qT,qT,qT,qT,qT,qT,qT,qT,qT,qT,qT,qT,qT,qF,qF,qF,qF,qF,qF] rfl rfl (by kernel_rfl) (fun _ _ _ h=>h) (Or.inr ⟨by rfl,rfl⟩) ?_ ?_
    rotate_left
    ·simp only [Act.put,qs1,qs2,qs3,qAH,qAI]
     rfl
    refine qAL (i:=22) (N:=some 53) (v:=undef) (a' := ?_) #[qT,qT,qT,qT,qT,qT,qT,qT,qT,qT,qT,qT,qT,qT,qT,qT,qT,qT,qT,qT,qT,qT,qT,qF,qF,qF,qF,qF] rfl rfl (by kernel_rfl) (fun _ _ _ h=>h) (Or.inr ⟨by rfl,rfl⟩) ?_ ?_
    rotate_left
    ·simp only [Act.put,qs1,qs2,qs3,qAH,qAI]
     rfl
    refine qAL (i:=23) (N:=some 54) (v:=undef) (a' := ?_) #[qT,qT,qT,qT,qT,qT,qT,qT,qT,qT,qT,qT,qT,qT,qT,qT,qT,qT,qT,qT,qT,qT,qT,qT,qF,qF,qF,qF] rfl rfl (by kernel_rfl) (fun _ _ _ h=>h) (Or.inr ⟨by rfl,rfl⟩) ?_ ?_
    rotate_left
    ·simp only [Act.put,qs1,qs2,qs3,qAH,qAI]
     rfl
    refine qAL (i:=24) (N:=some 55) (v:=undef) (a' := ?_) #[qT,qT,qT,qT,qT,qT,qT,qT,qT,qT,qT,qT,qT,qT,qT,qT,qT,qT,qT,qT,qT,qT,qT,qT,qT,qF,qF,qF] rfl rfl (by kernel_rfl) (fun _ _ _ h=>h) (Or.inr ⟨by rfl,rfl⟩) ?_ ?_
    rotate_left
    ·simp only [Act.put,qs1,qs2,qs3,qAH,qAI]
     rfl
    refine qAL (i:=25) (N:=some 56) (v := ?_) (a' := ?_) #[qT,qT,qT,qT,qT,qT,qT,qT,qT,qT,qT,qT,qT,qT,qT,qT,qT,qT,qT,qT,qT,qT,qT,qT,qT,qT,qF,qF] rfl rfl (by kernel_rfl) (fun _ _ _ h=>h) (Or.inl ⟨by rfl, ?_⟩) ?_ ?_
    rotate_left
    ·intro w'
     go_simp
     with_reducible rfl
    rotate_left
    ·simp only [Act.put,qs1,qs2,qs3,qAH,qAI]
     rfl
    refine qAL (i:=26) (N:=some 57) (v := ?_) (a' := ?_) #[qT,qT,qT,qT,qT,qT,qT,qT,qT,qT,qT,qT,qT,qT,qT,qT,qT,qT,qT,qT,qT,qT,qT,qT,qT,qT,qT,qF] rfl rfl (by kernel_rfl) (fun _ _ _ h=>h) (Or.inl ⟨by rfl, ?_⟩) ?_ ?_
    rotate_left
    ·intro w'
     go_simp
     with_reducible rfl
    rotate_left
    ·simp only [Act.put,qs1,qs2,qs3,qAH,qAI]
     rfl
    refine qAL (i:=27) (N:=some 30) (v := ?_) (a' := ?_) #[qT,qT,qT,qT,qT,qT,qT,qT,qT,qT,qT,qT,qT,qT,qT,qT,qT,qT,qT,qT,qT,qT,qT,qT,qT,qT,qT,qT] rfl rfl (by kernel_rfl) (fun _ _ _ h=>h) (Or.inl ⟨by rfl, ?_⟩) ?_ ?_
    rotate_left
    ·intro w'
     go_simp
     with_reducible rfl
    rotate_left
    ·simp only [Act.put,qs1,qs2,qs3,qAH,qAI]
     rfl
    refine qBM (by kernel_rfl) ?_
    have z0:wd2.cell? ⟨g,0,none⟩=some (.slice B bs.length cb):=(qAB R2d.out 0).trans rfl
    go_wp2_with (first | (go_at_call 61;refine (TKO.out _ W2d.out).mono ?_;rintro e_ w3 ⟨v3,v4,rfl,h3,h4,hb⟩;obtain ⟨A3,c3,e3,l3,C3⟩:=h3.C 8;obtain ⟨A4,c4,e4,l4,C4⟩:=h4.C;subst e3;subst e4;have KT3:=qAA.mk (sa.kt_got2 W2d.out.size h3 h4);have HS3:=qAA.mk hb.size;have K3:=qAA.mk C3;have K4:=qAA.mk C4;have L3:=qAA.mk l3;have L4:=qAA.mk l4;have W3:=qAA.mk (qAf W2d.out W2d.out.size hb);have R3:=qAA.mk (R2d.out.below hb);have O3:=qAA.mk (Kd.qA3 O2d.out hb);clear hb h3 h4 C3 C4 l3 l4 z0))
    have B5:=qAA.mk (show Below w3.heap.size w3 ((w3.alloc (.cells #[.int .i64 x.f0,.int .i64 x.f1,.string x.f2,.slice A3 x.f3.length c3,.slice A4 x.f4.length c4] 34)).alloc (.cells #[.string s,.int .i64 x.f0,.int .i64 x.f1,.string x.f2,.slice A3 x.f3.length c3,.slice A4 x.f4.length c4] 51)) from qAF (qAF (Below.refl _ _) _) _)
    have X5:=qAA.mk (show ((w3.alloc (.cells #[.int .i64 x.f0,.int .i64 x.f1,.string x.f2,.slice A3 x.f3.length c3,.slice A4 x.f4.length c4] 34)).alloc (.cells #[.string s,.int .i64 x.f0,.int .i64 x.f1,.string x.f2,.slice A3 x.f3.length c3,.slice A4 x.f4.length c4] 51)).heap[w3.heap.size+1]?=some (.cells #[.string s,.int .i64 x.f0,.int .i64 x.f1,.string x.f2,.slice A3 x.f3.length c3,.slice A4 x.f4.length c4] 51 (0,0)) from by simpa using heap_alloc_new (w3.alloc (.cells #[.int .i64 x.f0,.int .i64 x.f1,.string x.f2,.slice A3 x.f3.length c3,.slice A4 x.f4.length c4] 34)) (.cells #[.string s,.int .i64 x.f0,.int .i64 x.f1,.string x.f2,.slice A3 x.f3.length c3,.slice A4 x.f4.length c4] 51))
    generalize (w3.alloc (.cells #[.int .i64 x.f0,.int .i64 x.f1,.string x.f2,.slice A3 x.f3.length c3,.slice A4 x.f4.length c4] 34)).alloc (.cells #[.string s,.int .i64 x.f0,.int .i64 x.f1,.string x.f2,.slice A3 x.f3.length c3,.slice A4 x.f4.length c4] 51)=w5 at *
    have W5:=qAA.mk (qAf W3.out W3.out.size B5.out)
    have R5:=qAA.mk (R3.out.below B5.out)
    have Q5:=qAA.mk (Kd.qA3 O3.out B5.out)
    have KT5:=qAA.mk (Kd.qBg KT3.out B5.out)
    have J3:=qAA.mk (Kd.qAZ K3.out B5.out)
    have J4:=qAA.mk (Kd.qAZ K4.out B5.out)
    have HGX:=qAA.mk (show w3.heap.size+1 ≠ g from by have:=HG2d.out;have:=HS3.out;omega)
    have HGX2:=qAA.mk (show wd2.heap.size≤w3.heap.size+1 from by have:=HS3.out;omega)
    generalize w3.heap.size+1=gx at *
    clear K3 K4 R3 O3 KT3 B5 HS3 W3
    refine qAy (n:=10) (S:=fun w'=>w'.cell? ⟨g,2,none⟩=some (.int .i64 all)∧w'.cell? ⟨gx,0,none⟩=some (.string s)∧w'.cell? ⟨gx,1,none⟩=some (.int .i64 x.f0)∧w'.cell? ⟨gx,2,none⟩=some (.int .i64 x.f1)∧w'.cell? ⟨gx,3,none⟩=some (.string x.f2)∧w'.cell? ⟨gx,4,none⟩=some (.slice A3 x.f3.length c3)∧w'.cell? ⟨gx,5,none⟩=some (.slice A4 x.f4.length c4)) (ds:=[9]) #[qF,qF,qF,qF,qF,qF,qF,qF,qF,qF] (by kernel_rfl) rfl rfl ⟨(qAB (show w5.drew.heap[g]?=_ from R5.out) 2).trans rfl,(qAB (qAO X5.out) 0).trans rfl,(qAB (qAO X5.out) 1).trans rfl,(qAB (qAO X5.out) 2).trans rfl,(qAB (qAO X5.out) 3).trans rfl,(qAB (qAO X5.out) 4).trans rfl,(qAB (qAO X5.out) 5).trans rfl⟩ (fun hHeld => ?_)
    generalize hwd:w5.drew=wd5 at hHeld ⊢
    have R6:=qAA.mk (hwd▸R5.out.below (qAX (Below.refl _ _)))
    have W6:=qAA.mk (hwd▸qAX W5.out)
    have Q6:=qAA.mk (hwd▸Kd.qA8 Q5.out)
    have KT6:=qAA.mk (hwd▸Kd.qBg KT5.out (qAX (Below.refl _ _)))
    have X6:=qAA.mk (hwd▸qAO X5.out)
    have I3:=qAA.mk (hwd▸Kd.qAo J3.out)
    have I4:=qAA.mk (hwd▸Kd.qAo J4.out)
    clear hwd R5 W5 Q5 KT5 X5 J3 J4
    refine qAL (i:=0) (N:=some 78) (v := ?_) (a' := ?_) #[qT,qF,qF,qF,qF,qF,qF,qF,qF,qF] rfl rfl (by kernel_rfl) (fun _ _ _ h=>h) (Or.inl ⟨by rfl, ?_⟩) ?_ ?_
    rotate_left
    ·intro w'
     go_simp
     with_reducible rfl
    rotate_left
    ·simp only [Act.put,qs1,qs2,qs3,qAH,qAI]
     rfl
    refine qAL (i:=1) (N:=some 79) (v := ?_) (a' := ?_) #[qT,qT,qF,qF,qF,qF,qF,qF,qF,qF] rfl rfl (by kernel_rfl) (fun _ _ _ h=>h) (Or.inl ⟨by rfl, ?_⟩) ?_ ?_
    rotate_left
    ·intro w'
     go_simp
     with_reducible rfl
    rotate_left
    ·simp only [Act.put,qs1,qs2,qs3,qAH,qAI]
     rfl
    refine qAL (i:=2) (N:=some 80) (v := ?_) (a' := ?_) #[qT,qT,qT,qF,qF,qF,qF,qF,qF,qF] rfl rfl (by kernel_rfl) (fun _ _ _ h=>h) (Or.inl ⟨by rfl, ?_⟩) ?_ ?_
    rotate_left
    ·intro w'
     go_simp
     with_reducible rfl
    rotate_left
    ·simp only [Act.put,qs1,qs2,qs3,qAH,qAI]
     rfl
    refine qAt (i:=3) (N:=some 81) (v := ?_) (a' := ?_) #[qT,qT,qT,qT,qF,qF,qF,qF,qF,qF] rfl rfl (by kernel_rfl) (fun _ _ _ h=>h) (Or.inl ⟨by rfl, ?_⟩) hHeld ?_ ?_
    rotate_left
    ·rintro w' ⟨s0,s1,s2,s3,s4,s5,s6⟩
     go_simp
     with_reducible rfl
    rotate_left
    ·simp only [Act.put,qs1,qs2,qs3,qAH,qAI]
     rfl
    refine qAt (i:=4) (N:=some 82) (v := ?_) (a' := ?_) #[qT,qT,qT,qT,qT,qF,qF,qF,qF,qF] rfl rfl (by kernel_rfl) (fun _ _ _ h=>h) (Or.inl ⟨by rfl, ?_⟩) hHeld ?_ ?_
    rotate_left
    ·rintro w' ⟨s0,s1,s2,s3,s4,s5,s6⟩
     go_simp
     with_reducible rfl
    rotate_left
    ·simp only [Act.put,qs1,qs2,qs3,qAH,qAI]
     rfl
    refine one_ (i:=5) (N:=some 83) #[qT,qT,qT,qT,qT,qT,qF,qF,qF,qF] rfl rfl (by kernel_rfl) (by decide) (fun K hK => ?_)
    refine qBe Try.func49 (by kernel_rfl) rfl #[.agg #[.string s,.int .i64 x.f0,.int .i64 x.f1,.string x.f2,.slice A3 x.f3.length c3,.slice A4 x.f4.length c4]] (by rfl) rfl rfl (by (try simp only [List.map_toArray,List.map_cons,List.map_nil]);first | done | rfl) ?_
    refine (qAu.calls KH s x.f0 x.f1 x.f2 A3 c3 x.f3 A4 c4 x.f4 hw wd5 I3.out L3.out I4.out L4.out HKH.out).mono ?_
    rintro e w7 ⟨rfl,hb⟩
    refine ⟨_,rfl, ?_⟩
    have R7:=qAA.mk (R6.out.below hb)
    have W7:=qAA.mk (qAf W6.out W6.out.size hb)
    have Q7:=qAA.mk (Kd.qA3 Q6.out hb)
    have KT7:=qAA.mk (Kd.qBg KT6.out hb)
    have X7:=qAA.mk (qAb X6.out hb)
    clear hb
    have s2:=(qAB R7.out 2).trans rfl
    have s2f:=qAC R7.out 2
    refine hK.out _ _ ⟨(qAB R7.out 2).trans rfl,(qAB X7.out 0).trans rfl,(qAB X7.out 1).trans rfl,(qAB X7.out 2).trans rfl,(qAB X7.out 3).trans rfl,(qAB X7.out 4).trans rfl,(qAB X7.out 5).trans rfl⟩ (fun hHeld => ?_)
    clear hK K
    refine qBH (a' := ?_) ?_ ?_
    rotate_left
    ·show Act.put _ (some 83) _=_
     simp only [Act.put,qs1,qs2,qs3,qAH,qAI]
     rfl
    refine qAL (i:=6) (N:=some 84) (v := ?_) (a' := ?_) #[qT,qT,qT,qT,qT,qT,qT,qF,qF,qF] rfl rfl (by kernel_rfl) (fun _ _ _ h=>h) (Or.inl ⟨by rfl, ?_⟩) ?_ ?_
    rotate_left
    ·intro w'
     go_simp
     with_reducible rfl
    rotate_left
    ·simp only [Act.put,qs1,qs2,qs3,qAH,qAI]
     rfl
    refine qAL (i:=7) (N:=some 85) (v := ?_) (a' := ?_) #[qT,qT,qT,qT,qT,qT,qT,qT,qF,qF] rfl rfl (by kernel_rfl) (fun _ _ _ h=>h) (Or.inl ⟨by rfl, ?_⟩) ?_ ?_
    rotate_left
    ·intro w'
     go_simp
     with_reducible rfl
    rotate_left
    ·simp only [Act.put,qs1,qs2,qs3,qAH,qAI]
     rfl
    refine qAL (i:=8) (N:=some 86) (v := ?_) (a' := ?_) #[qT,qT,qT,qT,qT,qT,qT,qT,qT,qF] rfl rfl (by kernel_rfl) (fun _ _ _ h=>h) (Or.inl ⟨by rfl, ?_⟩) ?_ ?_
    rotate_left
    ·intro w'
     go_simp
     with_reducible rfl
    rotate_left
    ·simp only [Act.put,qs1,qs2,qs3,qAH,qAI]
     rfl
    refine last_ (i:=9) (N:=none) #[qT,qT,qT,qT,qT,qT,qT,qT,qT,qT] rfl rfl (by kernel_rfl) (by decide) (fun K hK => ?_)
    refine skip_ (w1 := ?_) (by rfl) rfl ?_ ?_
    rotate_left
    ·go_simp
     rfl
    clear s2 s2f
    refine hK.out _ _ ?_
    clear hK K
    refine qBM (by kernel_rfl) ?_
    have R8:=qAA.mk (show sa.RB7 (w7.setCell ⟨g,2,none⟩ (.int .i64 (all+hw))) g B bs.length cb at_ (all+hw) (.slice AL 0 cl) from qAz R7.out 2 _ rfl)
    have W8:=qAA.mk (show Below w0.heap.size w0 (w7.setCell ⟨g,2,none⟩ (.int .i64 (all+hw))) from qAP W7.out HG.out)
    have Q8:=qAA.mk (Kd.R_far Q7.out (p:=⟨g,2,none⟩) (fun k hk=>hk) (.int .i64 (all+hw)))
    have KT8:=qAA.mk (Kd.M_far KT7.out (p:=⟨g,2,none⟩) (fun k hk=>by have:=HG2d.out;dsimp only;omega) (.int .i64 (all+hw)))
    have X8:=qAA.mk ((Below.heap_setCell w7 ⟨g,2,none⟩ (.int .i64 (all+hw)) gx HGX.out).trans X7.out)
    generalize w7.setCell ⟨g,2,none⟩ (.int .i64 (all+hw))=w8 at *
    have z2:w8.cell? ⟨g,2,none⟩=some (.int .i64 (all+hw)):=(qAB R8.out 2).trans rfl
    have z1:w8.cell? ⟨g,1,none⟩=some (.int .i64 at_):=(qAB R8.out 1).trans rfl
    go_wp2
    go_ret2
    exact ⟨rfl,W8.out⟩
   case neg =>
    rw [if_neg hbig]
    have d1:decide (all+hw > 32768)=false:=decide_eq_false (by omega)
    have d2:decide (32768 < all+hw)=false:=decide_eq_false (by omega)
    have HBG:=qAA.mk hbig
    clear hbig hhv
    go_enter Try.func41,Try.ntmps41
    go_wp2
    refine qAy (n:=16) (S:=fun w'=>w'.cell? ⟨g,0,none⟩=some (.slice B bs.length cb)∧w'.cell? ⟨g,1,none⟩=some (.int .i64 at_)) (ds:=[]) #[qF,qF,qF,qF,qF,qF,qF,qF,qF,qF,qF,qF,qF,qF,qF,qF] (by kernel_rfl) rfl rfl ⟨(qAB (show w.drew.heap[g]?=_ from HR.out) 0).trans rfl,(qAB (show w.drew.heap[g]?=_ from HR.out) 1).trans rfl⟩ (fun hHeld => ?_)
    generalize hwd:w.drew=wd at hHeld ⊢
    have Rd:=qAA.mk (hwd▸HR.out.below (qAX (Below.refl _ _)))
    have Wd:=qAA.mk (hwd▸qAX HW.out)
    have Od:=qAA.mk (hwd▸Kd.qA8 HO.out)
    have HGd:=qAA.mk (show g < wd.heap.size from hwd▸HGW.out)
    clear hwd
    refine qAL (i:=0) (N:=some 11) (v := ?_) (a' := ?_) #[qT,qF,qF,qF,qF,qF,qF,qF,qF,qF,qF,qF,qF,qF,qF,qF] rfl rfl (by kernel_rfl) (fun _ _ _ h=>h) (Or.inl ⟨by rfl, ?_⟩) ?_ ?_
    rotate_left
    ·intro w'
     go_simp
     with_reducible rfl
    rotate_left
    ·simp only [Act.put,qs1,qs2,qs3,qAH,qAI]
     rfl
    refine qAL (i:=1) (N:=some 12) (v := ?_) (a' := ?_) #[qT,qT,qF,qF,qF,qF,qF,qF,qF,qF,qF,qF,qF,qF,qF,qF] rfl rfl (by kernel_rfl) (fun _ _ _ h=>h) (Or.inl ⟨by rfl, ?_⟩) ?_ ?_
    rotate_left
    ·intro w'
     go_simp
     with_reducible rfl
    rotate_left
    ·simp only [Act.put,qs1,qs2,qs3,qAH,qAI]
     rfl
    refine qAL (i:=2) (N:=some 13) (v := ?_) (a' := ?_) #[qT,qT,qT,qF,qF,qF,qF,qF,qF,qF,qF,qF,qF,qF,qF,qF] rfl rfl (by kernel_rfl) (fun _ _ _ h=>h) (Or.inl ⟨by rfl, ?_⟩) ?_ ?_
    rotate_left
    ·intro w'
     go_simp
     with_reducible rfl
    rotate_left
    ·simp only [Act.put,qs1,qs2,qs3,qAH,qAI]
     rfl
    refine qAL (i:=4) (N:=some 15) (v := ?_) (a' := ?_) #[qT,qT,qT,qF,qT,qF,qF,qF,qF,qF,qF,qF,qF,qF,qF,qF] rfl rfl (by kernel_rfl) (fun _ _ _ h=>h) (Or.inl ⟨by rfl, ?_⟩) ?_ ?_
    rotate_left
    ·intro w'
     go_simp
     with_reducible rfl
    rotate_left
    ·simp only [Act.put,qs1,qs2,qs3,qAH,qAI]
     rfl
    refine qAL (i:=5) (N:=some 16) (v := ?_) (a' := ?_) #[qT,qT,qT,qF,qT,qT,qF,qF,qF,qF,qF,qF,qF,qF,qF,qF] rfl rfl (by kernel_rfl) (fun _ _ _ h=>h) (Or.inl ⟨by rfl, ?_⟩) ?_ ?_
    rotate_left
    ·intro w'
     go_simp
     with_reducible rfl
    rotate_left
    ·simp only [Act.put,qs1,qs2,qs3,qAH,qAI]
     rfl
    refine qAL (i:=6) (N:=some 17) (v := ?_) (a' := ?_) #[qT,qT,qT,qF,qT,qT,qT,qF,qF,qF,qF,qF,qF,qF,qF,qF] rfl rfl (by kernel_rfl) (fun _ _ _ h=>h) (Or.inl ⟨by rfl, ?_⟩) ?_ ?_
    rotate_left
    ·intro w'
     go_simp
     with_reducible rfl
    rotate_left
    ·simp only [Act.put,qs1,qs2,qs3,qAH,qAI]
     rfl
    refine qAt (i:=3) (N:=some 14) (v := ?_) (a' := ?_) #[qT,qT,qT,qT,qT,qT,qT,qF,qF,qF,qF,qF,qF,qF,qF,qF] rfl rfl (by kernel_rfl) (fun _ _ _ h=>h) (Or.inl ⟨by rfl, ?_⟩) hHeld ?_ ?_
    rotate_left
    ·rintro w' ⟨s0,s1⟩
     go_simp
     with_reducible rfl
    rotate_left
    ·simp only [Act.put,qs1,qs2,qs3,qAH,qAI]
     rfl
    refine qAt (i:=7) (N:=some 18) (v := ?_) (a' := ?_) #[qT,qT,qT,qT,qT,qT,qT,qT,qF,qF,qF,qF,qF,qF,qF,qF] rfl rfl (by kernel_rfl) (fun _ _ _ h=>h) (Or.inl ⟨by rfl, ?_⟩) hHeld ?_ ?_
    rotate_left
    ·rintro w' ⟨s0,s1⟩
     go_simp
     with_reducible rfl
    rotate_left
    ·simp only [Act.put,qs1,qs2,qs3,qAH,qAI]
     rfl
    refine one_ (i:=8) (N:=some 19) #[qT,qT,qT,qT,qT,qT,qT,qT,qT,qF,qF,qF,qF,qF,qF,qF] rfl rfl (by kernel_rfl) (by decide) (fun K hK => ?_)
    refine qBe Try.func60 (by kernel_rfl) rfl #[.slice B bs.length cb,.int .i64 at_,.int .i64 32] (by rfl) rfl rfl (by (try simp only [List.map_toArray,List.map_cons,List.map_nil]);first | done | rfl) ?_
    refine (TX.out wd Wd.out).mono ?_
    rintro e w2 ⟨rfl,hb⟩
    refine ⟨_,rfl, ?_⟩
    have R2:=qAA.mk (Rd.out.below hb.below)
    have W2:=qAA.mk (qAf Wd.out Wd.out.size hb.below)
    have O2:=qAA.mk (Kd.qA3 Od.out hb.below)
    have HG2:=qAA.mk (Nat.lt_of_lt_of_le HGd.out hb.below.size)
    clear hb
    refine hK.out _ _ ⟨(qAB R2.out 0).trans rfl,(qAB R2.out 1).trans rfl⟩ (fun hHeld => ?_)
    clear hK K
    refine qBH (a' := ?_) ?_ ?_
    rotate_left
    ·show Act.put _ (some 19) _=_
     simp only [Act.put,qs1,qs2,qs3,qAH,qAI]
     rfl
    refine qAL (i:=9) (N:=some 10) (v := ?_) (a' := ?_) #[qT,qT,qT,qT,qT,qT,qT,qT,qT,qT,qF,qF,qF,qF,qF,qF] rfl rfl (by kernel_rfl) (fun _ _ _ h=>h) (Or.inl ⟨by rfl, ?_⟩) ?_ ?_
    rotate_left
    ·intro w'
     go_simp
     with_reducible rfl
    rotate_left
    ·simp only [Act.put,qs1,qs2,qs3,qAH,qAI]
     rfl
    refine qAL (i:=10) (N:=some 20) (v := ?_) (a' := ?_) #[qT,qT,qT,qT,qT,qT,qT,qT,qT,qT,qT,qF,qF,qF,qF,qF] rfl rfl (by kernel_rfl) (fun _ _ _ h=>h) (Or.inl ⟨by rfl, ?_⟩) ?_ ?_
    rotate_left
    ·intro w'
     go_simp
     with_reducible rfl
    rotate_left
    ·simp only [Act.put,qs1,qs2,qs3,qAH,qAI]
     rfl
    refine qAL (i:=11) (N:=some 21) (v := ?_) (a' := ?_) #[qT,qT,qT,qT,qT,qT,qT,qT,qT,qT,qT,qT,qF,qF,qF,qF] rfl rfl (by kernel_rfl) (fun _ _ _ h=>h) (Or.inl ⟨by rfl, ?_⟩) ?_ ?_
    rotate_left
    ·intro w'
     go_simp
     with_reducible rfl
    rotate_left
    ·simp only [Act.put,qs1,qs2,qs3,qAH,qAI]
     rfl
    refine qAL (i:=12) (N:=some 22) (v := ?_) (a' := ?_) #[qT,qT,qT,qT,qT,qT,qT,qT,qT,qT,qT,qT,qT,qF,qF,qF] rfl rfl (by kernel_rfl) (fun _ _ _ h=>h) (Or.inl ⟨by rfl, ?_⟩) ?_ ?_
    rotate_left
    ·intro w'
     go_simp
     with_reducible rfl
    rotate_left
    ·simp only [Act.put,qs1,qs2,qs3,qAH,qAI]
     rfl
    refine qAL (i:=13) (N:=some 4) (v := ?_) (a' := ?_) #[qT,qT,qT,qT,qT,qT,qT,qT,qT,qT,qT,qT,qT,qT,qF,qF] rfl rfl (by kernel_rfl) (fun _ _ _ h=>h) (Or.inl ⟨by rfl, ?_⟩) ?_ ?_
    rotate_left
    ·intro w'
     go_simp
     with_reducible rfl
    rotate_left
    ·simp only [Act.put,qs1,qs2,qs3,qAH,qAI]
     rfl
    refine qAL (i:=14) (N:=some 5) (v := ?_) (a' := ?_) #[qT,qT,qT,qT,qT,qT,qT,qT,qT,qT,qT,qT,qT,qT,qT,qF] rfl rfl (by kernel_rfl) (fun _ _ _ h=>h) (Or.inl ⟨by rfl, ?_⟩) ?_ ?_
    rotate_left
    ·intro w'
     go_simp
     with_reducible rfl
    rotate_left
    ·simp only [Act.put,qs1,qs2,qs3,qAH,qAI]
     rfl
    refine qAL (i:=15) (N:=some 6) (v := ?_) (a' := ?_) #[qT,qT,qT,qT,qT,qT,qT,qT,qT,qT,qT,qT,qT,qT,qT,qT] rfl rfl (by kernel_rfl) (fun _ _ _ h=>h) (Or.inl ⟨by rfl, ?_⟩) ?_ ?_
    rotate_left
    ·intro w'
     go_simp
     with_reducible rfl
    rotate_left
    ·simp only [Act.put,qs1,qs2,qs3,qAH,qAI]
     rfl
    refine qBM (by kernel_rfl) ?_
    go_wp2
    refine qAy (n:=28) (S:=fun w'=>w'.cell? ⟨g,3,none⟩=some (.slice AL 0 cl)) (ds:=[]) #[qF,qF,qF,qF,qF,qF,qF,qF,qF,qF,qF,qF,qF,qF,qF,qF,qF,qF,qF,qF,qF,qF,qF,qF,qF,qF,qF,qF] (by kernel_rfl) rfl rfl ((qAB (show w2.drew.heap[g]?=_ from R2.out) 3).trans rfl) (fun hHeld => ?_)
    generalize hwd:w2.drew=wd2 at hHeld ⊢
    have R2d:=qAA.mk (hwd▸R2.out.below (qAX (Below.refl _ _)))
    have W2d:=qAA.mk (hwd▸qAX W2.out)
    have O2d:=qAA.mk (hwd▸Kd.qA8 O2.out)
    have HG2d:=qAA.mk (show g < wd2.heap.size from hwd▸HG2.out)
    have HOB:=qAA.mk (fun k hk=>((Kd.qBf O2d.out).1 k hk).2.2.1)
    clear hwd
    refine qAL (i:=0) (N:=some 31) (v := ?_) (a' := ?_) #[qT,qF,qF,qF,qF,qF,qF,qF,qF,qF,qF,qF,qF,qF,qF,qF,qF,qF,qF,qF,qF,qF,qF,qF,qF,qF,qF,qF] rfl rfl (by kernel_rfl) (fun _ _ _ h=>h) (Or.inl ⟨by rfl, ?_⟩) ?_ ?_
    rotate_left
    ·intro w'
     go_simp
     with_reducible rfl
    rotate_left
    ·simp only [Act.put,qs1,qs2,qs3,qAH,qAI]
     rfl
    refine qAL (i:=1) (N:=some 32) (v := ?_) (a' := ?_) #[qT,qT,qF,qF,qF,qF,qF,qF,qF,qF,qF,qF,qF,qF,qF,qF,qF,qF,qF,qF,qF,qF,qF,qF,qF,qF,qF,qF] rfl rfl (by kernel_rfl) (fun _ _ _ h=>h) (Or.inl ⟨by rfl, ?_⟩) ?_ ?_
    rotate_left
    ·intro w'
     go_simp
     with_reducible rfl
    rotate_left
    ·simp only [Act.put,qs1,qs2,qs3,qAH,qAI]
     rfl
    refine qAL (i:=2) (N:=some 33) (v := ?_) (a' := ?_) #[qT,qT,qT,qF,qF,qF,qF,qF,qF,qF,qF,qF,qF,qF,qF,qF,qF,qF,qF,qF,qF,qF,qF,qF,qF,qF,qF,qF] rfl rfl (by kernel_rfl) (fun _ _ _ h=>h) (Or.inl ⟨by rfl, ?_⟩) ?_ ?_
    rotate_left
    ·intro w'
     go_simp
     with_reducible rfl
    rotate_left
    ·simp only [Act.put,qs1,qs2,qs3,qAH,qAI]
     rfl
    refine qAL (i:=3) (N:=some 34) (v := ?_) (a' := ?_) #[qT,qT,qT,qT,qF,qF,qF,qF,qF,qF,qF,qF,qF,qF,qF,qF,qF,qF,qF,qF,qF,qF,qF,qF,qF,qF,qF,qF] rfl rfl (by kernel_rfl) (fun _ _ _ h=>h) (Or.inl ⟨by rfl, ?_⟩) ?_ ?_
    rotate_left
    ·intro w'
     go_simp
     with_reducible rfl
    rotate_left
    ·simp only [Act.put,qs1,qs2,qs3,qAH,qAI]
     rfl
    refine qAL (i:=4) (N:=some 35) (v := ?_) (a' := ?_) #[qT,qT,qT,qT,qT,qF,qF,qF,qF,qF,qF,qF,qF,qF,qF,qF,qF,qF,qF,qF,qF,qF,qF,qF,qF,qF,qF,qF] rfl rfl (by kernel_rfl) (fun _ _ _ h=>h) (Or.inl ⟨by rfl, ?_⟩) ?_ ?_
    rotate_left
    ·intro w'
     go_simp
     with_reducible rfl
    rotate_left
    ·simp only [Act.put,qs1,qs2,qs3,qAH,qAI]
     rfl
    refine qAL (i:=5) (N:=some 36) (v := ?_) (a' := ?_) #[qT,qT,qT,qT,qT,qT,qF,qF,qF,qF,qF,qF,qF,qF,qF,qF,qF,qF,qF,qF,qF,qF,qF,qF,qF,qF,qF,qF] rfl rfl (by kernel_rfl) (fun _ _ _ h=>h) (Or.inl ⟨by rfl, ?_⟩) ?_ ?_
    rotate_left
    ·intro w'
     go_simp
     with_reducible rfl
    rotate_left
    ·simp only [Act.put,qs1,qs2,qs3,qAH,qAI]
     rfl
    refine qAt (i:=6) (N:=some 37) (v := ?_) (a' := ?_) #[qT,qT,qT,qT,qT,qT,qT,qF,qF,qF,qF,qF,qF,qF,qF,qF,qF,qF,qF,qF,qF,qF,qF,qF,qF,qF,qF,qF] rfl rfl (by kernel_rfl) (fun _ _ _ h=>h) (Or.inl ⟨by rfl, ?_⟩) hHeld ?_ ?_
    rotate_left
    ·intro w' s0
     go_simp
     with_reducible rfl
    rotate_left
    ·simp only [Act.put,qs1,qs2,qs3,qAH,qAI]
     rfl
    refine qAL (i:=7) (N:=some 38) (v := ?_) (a' := ?_) #[qT,qT,qT,qT,qT,qT,qT,qT,qF,qF,qF,qF,qF,qF,qF,qF,qF,qF,qF,qF,qF,qF,qF,qF,qF,qF,qF,qF] rfl rfl (by kernel_rfl) (fun _ _ _ h=>h) (Or.inl ⟨by rfl, ?_⟩) ?_ ?_
    rotate_left
    ·intro w'
     go_simp
     with_reducible rfl
    rotate_left
    ·simp only [Act.put,qs1,qs2,qs3,qAH,qAI]
     rfl
    refine qAL (i:=8) (N:=some 39) (v := ?_) (a' := ?_) #[qT,qT,qT,qT,qT,qT,qT,qT,qT,qF,qF,qF,qF,qF,qF,qF,qF,qF,qF,qF,qF,qF,qF,qF,qF,qF,qF,qF] rfl rfl (by kernel_rfl) (fun _ _ _ h=>h) (Or.inl ⟨by rfl, ?_⟩) ?_ ?_
    rotate_left
    ·intro w'
     go_simp
     with_reducible rfl
    rotate_left
    ·simp only [Act.put,qs1,qs2,qs3,qAH,qAI]
     rfl
    refine qAL (i:=9) (N:=some 40) (v := ?_) (a' := ?_) #[qT,qT,qT,qT,qT,qT,qT,qT,qT,qT,qF,qF,qF,qF,qF,qF,qF,qF,qF,qF,qF,qF,qF,qF,qF,qF,qF,qF] rfl rfl (by kernel_rfl) (fun _ _ _ h=>h) (Or.inl ⟨by rfl, ?_⟩) ?_ ?_
    rotate_left
    ·intro w'
     go_simp
     with_reducible rfl
    rotate_left
    ·simp only [Act.put,qs1,qs2,qs3,qAH,qAI]
     rfl
    refine qAL (i:=10) (N:=some 41) (v:=undef) (a' := ?_) #[qT,qT,qT,qT,qT,qT,qT,qT,qT,qT,qT,qF,qF,qF,qF,qF,qF,qF,qF,qF,qF,qF,qF,qF,qF,qF,qF,qF] rfl rfl (by kernel_rfl) (fun _ _ _ h=>h) (Or.inr ⟨by rfl,rfl⟩) ?_ ?_
    rotate_left
    ·simp only [Act.put,qs1,qs2,qs3,qAH,qAI]
     rfl
    refine qAL (i:=11) (N:=some 42) (v:=undef) (a' := ?_) #[qT,qT,qT,qT,qT,qT,qT,qT,qT,qT,qT,qT,qF,qF,qF,qF,qF,qF,qF,qF,qF,qF,qF,qF,qF,qF,qF,qF] rfl rfl (by kernel_rfl) (fun _ _ _ h=>h) (Or.inr ⟨by rfl,rfl⟩) ?_ ?_
    rotate_left
    ·simp only [Act.put,qs1,qs2,qs3,qAH,qAI]
     rfl
    refine qAL (i:=12) (N:=some 43) (v:=undef) (a' := ?_) #[qT,qT,qT,qT,qT,qT,qT,qT,qT,qT,qT,qT,qT,qF,qF,qF,qF,qF,qF,qF,qF,qF,qF,qF,qF,qF,qF,qF] rfl rfl (by kernel_rfl) (fun _ _ _ h=>h) (Or.inr ⟨by rfl,rfl⟩) ?_ ?_
    rotate_left
    ·simp only [Act.put,qs1,qs2,qs3,qAH,qAI]
     rfl
    refine qAL (i:=13) (N:=some 44) (v:=undef) (a' := ?_) #[qT,qT,qT,qT,qT,qT,qT,qT,qT,qT,qT,qT,qT,qT,qF,qF,qF,qF,qF,qF,qF,qF,qF,qF,qF,qF,qF,qF] rfl rfl (by kernel_rfl) (fun _ _ _ h=>h) (Or.inr ⟨by rfl,rfl⟩) ?_ ?_
    rotate_left
    ·simp only [Act.put,qs1,qs2,qs3,qAH,qAI]
     rfl
    refine qAL (i:=14) (N:=some 45) (v:=undef) (a' := ?_) #[qT,qT,qT,qT,qT,qT,qT,qT,qT,qT,qT,qT,qT,qT,qT,qF,qF,qF,qF,qF,qF,qF,qF,qF,qF,qF,qF,qF] rfl rfl (by kernel_rfl) (fun _ _ _ h=>h) (Or.inr ⟨by rfl,rfl⟩) ?_ ?_
    rotate_left
    ·simp only [Act.put,qs1,qs2,qs3,qAH,qAI]
     rfl
    refine qAL (i:=15) (N:=some 46) (v:=undef) (a' := ?_) #[qT,qT,qT,qT,qT,qT,qT,qT,qT,qT,qT,qT,qT,qT,qT,qT,qF,qF,qF,qF,qF,qF,qF,qF,qF,qF,qF,qF] rfl rfl (by kernel_rfl) (fun _ _ _ h=>h) (Or.inr ⟨by rfl,rfl⟩) ?_ ?_
    rotate_left
    ·simp only [Act.put,qs1,qs2,qs3,qAH,qAI]
     rfl
    refine qAL (i:=16) (N:=some 47) (v:=undef) (a' := ?_) #[qT,qT,qT,qT,qT,qT,qT,qT,qT,qT,qT,qT,qT,qT,qT,qT,qT,qF,qF,qF,qF,qF,qF,qF,qF,qF,qF,qF] rfl rfl (by kernel_rfl) (fun _ _ _ h=>h) (Or.inr ⟨by rfl,rfl⟩) ?_ ?_
    rotate_left
    ·simp only [Act.put,qs1,qs2,qs3,qAH,qAI]
     rfl
    refine qAL (i:=17) (N:=some 48) (v:=undef) (a' := ?_) #[qT,qT,qT,qT,qT,qT,qT,qT,qT,qT,qT,qT,qT,qT,qT,qT,qT,qT,qF,qF,qF,qF,qF,qF,qF,qF,qF,qF] rfl rfl (by kernel_rfl) (fun _ _ _ h=>h) (Or.inr ⟨by rfl,rfl⟩) ?_ ?_
    rotate_left
    ·simp only [Act.put,qs1,qs2,qs3,qAH,qAI]
     rfl
    refine qAL (i:=18) (N:=some 49) (v:=undef) (a' := ?_) #[qT,qT,qT,qT,qT,qT,qT,qT,qT,qT,qT,qT,qT,qT,qT,qT,qT,qT,qT,qF,qF,qF,qF,qF,qF,qF,qF,qF] rfl rfl (by kernel_rfl) (fun _ _ _ h=>h) (Or.inr ⟨by rfl,rfl⟩) ?_ ?_
    rotate_left
    ·simp only [Act.put,qs1,qs2,qs3,qAH,qAI]
     rfl
    refine qAL (i:=19) (N:=some 50) (v:=undef) (a' := ?_) #[qT,qT,qT,qT,qT,qT,qT,qT,qT,qT,qT,qT,qT,qT,qT,qT,qT,qT,qT,qT,qF,qF,qF,qF,qF,qF,qF,qF] rfl rfl (by kernel_rfl) (fun _ _ _ h=>h) (Or.inr ⟨by rfl,rfl⟩) ?_ ?_
    rotate_left
    ·simp only [Act.put,qs1,qs2,qs3,qAH,qAI]
     rfl
    refine qAL (i:=20) (N:=some 51) (v:=undef) (a' := ?_) #[qT,qT,qT,qT,qT,qT,qT,qT,qT,qT,qT,qT,qT,qT,qT,qT,qT,qT,qT,qT,qT,qF,qF,qF,qF,qF,qF,qF] rfl rfl (by kernel_rfl) (fun _ _ _ h=>h) (Or.inr ⟨by rfl,rfl⟩) ?_ ?_
    rotate_left
    ·simp only [Act.put,qs1,qs2,qs3,qAH,qAI]
     rfl
    refine qAL (i:=21) (N:=some 52) (v:=undef) (a' := ?_) #[qT,qT,qT,qT,qT,qT,qT,qT,qT,qT,qT,qT,qT,qT,qT,qT,qT,qT,qT,qT,qT,qT,qF,qF,qF,qF,qF,qF] rfl rfl (by kernel_rfl) (fun _ _ _ h=>h) (Or.inr ⟨by rfl,rfl⟩) ?_ ?_
    rotate_left
    ·simp only [Act.put,qs1,qs2,qs3,qAH,qAI]
     rfl
    refine qAL (i:=22) (N:=some 53) (v:=undef) (a' := ?_) #[qT,qT,qT,qT,qT,qT,qT,qT,qT,qT,qT,qT,qT,qT,qT,qT,qT,qT,qT,qT,qT,qT,qT,qF,qF,qF,qF,qF] rfl rfl (by kernel_rfl) (fun _ _ _ h=>h) (Or.inr ⟨by rfl,rfl⟩) ?_ ?_
    rotate_left
    ·simp only [Act.put,qs1,qs2,qs3,qAH,qAI]
     rfl
    refine qAL (i:=23) (N:=some 54) (v:=undef) (a' := ?_) #[qT,qT,qT,qT,qT,qT,qT,qT,qT,qT,qT,qT,qT,qT,qT,qT,qT,qT,qT,qT,qT,qT,qT,qT,qF,qF,qF,qF] rfl rfl (by kernel_rfl) (fun _ _ _ h=>h) (Or.inr ⟨by rfl,rfl⟩) ?_ ?_
    rotate_left
    ·simp only [Act.put,qs1,qs2,qs3,qAH,qAI]
     rfl
    refine qAL (i:=24) (N:=some 55) (v:=undef) (a' := ?_) #[qT,qT,qT,qT,qT,qT,qT,qT,qT,qT,qT,qT,qT,qT,qT,qT,qT,qT,qT,qT,qT,qT,qT,qT,qT,qF,qF,qF] rfl rfl (by kernel_rfl) (fun _ _ _ h=>h) (Or.inr ⟨by rfl,rfl⟩) ?_ ?_
    rotate_left
    ·simp only [Act.put,qs1,qs2,qs3,qAH,qAI]
     rfl
    refine qAL (i:=25) (N:=some 56) (v := ?_) (a' := ?_) #[qT,qT,qT,qT,qT,qT,qT,qT,qT,qT,qT,qT,qT,qT,qT,qT,qT,qT,qT,qT,qT,qT,qT,qT,qT,qT,qF,qF] rfl rfl (by kernel_rfl) (fun _ _ _ h=>h) (Or.inl ⟨by rfl, ?_⟩) ?_ ?_
    rotate_left
    ·intro w'
     go_simp
     with_reducible rfl
    rotate_left
    ·simp only [Act.put,qs1,qs2,qs3,qAH,qAI]
     rfl
    refine qAL (i:=26) (N:=some 57) (v := ?_) (a' := ?_) #[qT,qT,qT,qT,qT,qT,qT,qT,qT,qT,qT,qT,qT,qT,qT,qT,qT,qT,qT,qT,qT,qT,qT,qT,qT,qT,qT,qF] rfl rfl (by kernel_rfl) (fun _ _ _ h=>h) (Or.inl ⟨by rfl, ?_⟩) ?_ ?_
    rotate_left
    ·intro w'
     go_simp
     with_reducible rfl
    rotate_left
    ·simp only [Act.put,qs1,qs2,qs3,qAH,qAI]
     rfl
    refine qAL (i:=27) (N:=some 30) (v := ?_) (a' := ?_) #[qT,qT,qT,qT,qT,qT,qT,qT,qT,qT,qT,qT,qT,qT,qT,qT,qT,qT,qT,qT,qT,qT,qT,qT,qT,qT,qT,qT] rfl rfl (by kernel_rfl) (fun _ _ _ h=>h) (Or.inl ⟨by rfl, ?_⟩) ?_ ?_
    rotate_left
    ·intro w'
     go_simp
     with_reducible rfl
    rotate_left
    ·simp only [Act.put,qs1,qs2,qs3,qAH,qAI]
     rfl
    refine qBM (by kernel_rfl) ?_
    have z0:wd2.cell? ⟨g,0,none⟩=some (.slice B bs.length cb):=(qAB R2d.out 0).trans rfl
    go_wp2_with (first | (go_at_call 61;refine (TKO.out _ W2d.out).mono ?_;rintro e_ w3 ⟨v3,v4,rfl,h3,h4,hb⟩;obtain ⟨A3,c3,e3,l3,C3⟩:=h3.C 8;obtain ⟨A4,c4,e4,l4,C4⟩:=h4.C;subst e3;subst e4;have KT3:=qAA.mk (sa.kt_got2 W2d.out.size h3 h4);have HS3:=qAA.mk hb.size;have K3:=qAA.mk C3;have K4:=qAA.mk C4;have L3:=qAA.mk l3;have L4:=qAA.mk l4;have W3:=qAA.mk (qAf W2d.out W2d.out.size hb);have R3:=qAA.mk (R2d.out.below hb);have O3:=qAA.mk (Kd.qA3 O2d.out hb);clear hb h3 h4 C3 C4 l3 l4 z0))
    have B5:=qAA.mk (show Below w3.heap.size w3 ((w3.alloc (.cells #[.int .i64 x.f0,.int .i64 x.f1,.string x.f2,.slice A3 x.f3.length c3,.slice A4 x.f4.length c4] 34)).alloc (.cells #[.string s,.int .i64 x.f0,.int .i64 x.f1,.string x.f2,.slice A3 x.f3.length c3,.slice A4 x.f4.length c4] 51)) from qAF (qAF (Below.refl _ _) _) _)
    have X5:=qAA.mk (show ((w3.alloc (.cells #[.int .i64 x.f0,.int .i64 x.f1,.string x.f2,.slice A3 x.f3.length c3,.slice A4 x.f4.length c4] 34)).alloc (.cells #[.string s,.int .i64 x.f0,.int .i64 x.f1,.string x.f2,.slice A3 x.f3.length c3,.slice A4 x.f4.length c4] 51)).heap[w3.heap.size+1]?=some (.cells #[.string s,.int .i64 x.f0,.int .i64 x.f1,.string x.f2,.slice A3 x.f3.length c3,.slice A4 x.f4.length c4] 51 (0,0)) from by simpa using heap_alloc_new (w3.alloc (.cells #[.int .i64 x.f0,.int .i64 x.f1,.string x.f2,.slice A3 x.f3.length c3,.slice A4 x.f4.length c4] 34)) (.cells #[.string s,.int .i64 x.f0,.int .i64 x.f1,.string x.f2,.slice A3 x.f3.length c3,.slice A4 x.f4.length c4] 51))
    generalize (w3.alloc (.cells #[.int .i64 x.f0,.int .i64 x.f1,.string x.f2,.slice A3 x.f3.length c3,.slice A4 x.f4.length c4] 34)).alloc (.cells #[.string s,.int .i64 x.f0,.int .i64 x.f1,.string x.f2,.slice A3 x.f3.length c3,.slice A4 x.f4.length c4] 51)=w5 at *
    have W5:=qAA.mk (qAf W3.out W3.out.size B5.out)
    have R5:=qAA.mk (R3.out.below B5.out)
    have Q5:=qAA.mk (Kd.qA3 O3.out B5.out)
    have KT5:=qAA.mk (Kd.qBg KT3.out B5.out)
    have J3:=qAA.mk (Kd.qAZ K3.out B5.out)
    have J4:=qAA.mk (Kd.qAZ K4.out B5.out)
    have HGX:=qAA.mk (show w3.heap.size+1 ≠ g from by have:=HG2d.out;have:=HS3.out;omega)
    have HGX2:=qAA.mk (show wd2.heap.size≤w3.heap.size+1 from by have:=HS3.out;omega)
    generalize w3.heap.size+1=gx at *
    clear K3 K4 R3 O3 KT3 B5 HS3 W3
    refine qAy (n:=10) (S:=fun w'=>w'.cell? ⟨g,2,none⟩=some (.int .i64 all)∧w'.cell? ⟨gx,0,none⟩=some (.string s)∧w'.cell? ⟨gx,1,none⟩=some (.int .i64 x.f0)∧w'.cell? ⟨gx,2,none⟩=some (.int .i64 x.f1)∧w'.cell? ⟨gx,3,none⟩=some (.string x.f2)∧w'.cell? ⟨gx,4,none⟩=some (.slice A3 x.f3.length c3)∧w'.cell? ⟨gx,5,none⟩=some (.slice A4 x.f4.length c4)) (ds:=[9]) #[qF,qF,qF,qF,qF,qF,qF,qF,qF,qF] (by kernel_rfl) rfl rfl ⟨(qAB (show w5.drew.heap[g]?=_ from R5.out) 2).trans rfl,(qAB (qAO X5.out) 0).trans rfl,(qAB (qAO X5.out) 1).trans rfl,(qAB (qAO X5.out) 2).trans rfl,(qAB (qAO X5.out) 3).trans rfl,(qAB (qAO X5.out) 4).trans rfl,(qAB (qAO X5.out) 5).trans rfl⟩ (fun hHeld => ?_)
    generalize hwd:w5.drew=wd5 at hHeld ⊢
    have R6:=qAA.mk (hwd▸R5.out.below (qAX (Below.refl _ _)))
    have W6:=qAA.mk (hwd▸qAX W5.out)
    have Q6:=qAA.mk (hwd▸Kd.qA8 Q5.out)
    have KT6:=qAA.mk (hwd▸Kd.qBg KT5.out (qAX (Below.refl _ _)))
    have X6:=qAA.mk (hwd▸qAO X5.out)
    have I3:=qAA.mk (hwd▸Kd.qAo J3.out)
    have I4:=qAA.mk (hwd▸Kd.qAo J4.out)
    clear hwd R5 W5 Q5 KT5 X5 J3 J4
    refine qAL (i:=0) (N:=some 78) (v := ?_) (a' := ?_) #[qT,qF,qF,qF,qF,qF,qF,qF,qF,qF] rfl rfl (by kernel_rfl) (fun _ _ _ h=>h) (Or.inl ⟨by rfl, ?_⟩) ?_ ?_
    rotate_left
    ·intro w'
     go_simp
     with_reducible rfl
    rotate_left
    ·simp only [Act.put,qs1,qs2,qs3,qAH,qAI]
     rfl
    refine qAL (i:=1) (N:=some 79) (v := ?_) (a' := ?_) #[qT,qT,qF,qF,qF,qF,qF,qF,qF,qF] rfl rfl (by kernel_rfl) (fun _ _ _ h=>h) (Or.inl ⟨by rfl, ?_⟩) ?_ ?_
    rotate_left
    ·intro w'
     go_simp
     with_reducible rfl
    rotate_left
    ·simp only [Act.put,qs1,qs2,qs3,qAH,qAI]
     rfl
    refine qAL (i:=2) (N:=some 80) (v := ?_) (a' := ?_) #[qT,qT,qT,qF,qF,qF,qF,qF,qF,qF] rfl rfl (by kernel_rfl) (fun _ _ _ h=>h) (Or.inl ⟨by rfl, ?_⟩) ?_ ?_
    rotate_left
    ·intro w'
     go_simp
     with_reducible rfl
    rotate_left
    ·simp only [Act.put,qs1,qs2,qs3,qAH,qAI]
     rfl
    refine qAt (i:=3) (N:=some 81) (v := ?_) (a' := ?_) #[qT,qT,qT,qT,qF,qF,qF,qF,qF,qF] rfl rfl (by kernel_rfl) (fun _ _ _ h=>h) (Or.inl ⟨by rfl, ?_⟩) hHeld ?_ ?_
    rotate_left
    ·rintro w' ⟨s0,s1,s2,s3,s4,s5,s6⟩
     go_simp
     with_reducible rfl
    rotate_left
    ·simp only [Act.put,qs1,qs2,qs3,qAH,qAI]
     rfl
    refine qAt (i:=4) (N:=some 82) (v := ?_) (a' := ?_) #[qT,qT,qT,qT,qT,qF,qF,qF,qF,qF] rfl rfl (by kernel_rfl) (fun _ _ _ h=>h) (Or.inl ⟨by rfl, ?_⟩) hHeld ?_ ?_
    rotate_left
    ·rintro w' ⟨s0,s1,s2,s3,s4,s5,s6⟩
     go_simp
     with_reducible rfl
    rotate_left
    ·simp only [Act.put,qs1,qs2,qs3,qAH,qAI]
     rfl
    refine one_ (i:=5) (N:=some 83) #[qT,qT,qT,qT,qT,qT,qF,qF,qF,qF] rfl rfl (by kernel_rfl) (by decide) (fun K hK => ?_)
    refine qBe Try.func49 (by kernel_rfl) rfl #[.agg #[.string s,.int .i64 x.f0,.int .i64 x.f1,.string x.f2,.slice A3 x.f3.length c3,.slice A4 x.f4.length c4]] (by rfl) rfl rfl (by (try simp only [List.map_toArray,List.map_cons,List.map_nil]);first | done | rfl) ?_
    refine (qAu.calls KH s x.f0 x.f1 x.f2 A3 c3 x.f3 A4 c4 x.f4 hw wd5 I3.out L3.out I4.out L4.out HKH.out).mono ?_
    rintro e w7 ⟨rfl,hb⟩
    refine ⟨_,rfl, ?_⟩
    have R7:=qAA.mk (R6.out.below hb)
    have W7:=qAA.mk (qAf W6.out W6.out.size hb)
    have Q7:=qAA.mk (Kd.qA3 Q6.out hb)
    have KT7:=qAA.mk (Kd.qBg KT6.out hb)
    have X7:=qAA.mk (qAb X6.out hb)
    clear hb
    have s2:=(qAB R7.out 2).trans rfl
    have s2f:=qAC R7.out 2
    refine hK.out _ _ ⟨(qAB R7.out 2).trans rfl,(qAB X7.out 0).trans rfl,(qAB X7.out 1).trans rfl,(qAB X7.out 2).trans rfl,(qAB X7.out 3).trans rfl,(qAB X7.out 4).trans rfl,(qAB X7.out 5).trans rfl⟩ (fun hHeld => ?_)
    clear hK K
    refine qBH (a' := ?_) ?_ ?_
    rotate_left
    ·show Act.put _ (some 83) _=_
     simp only [Act.put,qs1,qs2,qs3,qAH,qAI]
     rfl
    refine qAL (i:=6) (N:=some 84) (v := ?_) (a' := ?_) #[qT,qT,qT,qT,qT,qT,qT,qF,qF,qF] rfl rfl (by kernel_rfl) (fun _ _ _ h=>h) (Or.inl ⟨by rfl, ?_⟩) ?_ ?_
    rotate_left
    ·intro w'
     go_simp
     with_reducible rfl
    rotate_left
    ·simp only [Act.put,qs1,qs2,qs3,qAH,qAI]
     rfl
    refine qAL (i:=7) (N:=some 85) (v := ?_) (a' := ?_) #[qT,qT,qT,qT,qT,qT,qT,qT,qF,qF] rfl rfl (by kernel_rfl) (fun _ _ _ h=>h) (Or.inl ⟨by rfl, ?_⟩) ?_ ?_
    rotate_left
    ·intro w'
     go_simp
     with_reducible rfl
    rotate_left
    ·simp only [Act.put,qs1,qs2,qs3,qAH,qAI]
     rfl
    refine qAL (i:=8) (N:=some 86) (v := ?_) (a' := ?_) #[qT,qT,qT,qT,qT,qT,qT,qT,qT,qF] rfl rfl (by kernel_rfl) (fun _ _ _ h=>h) (Or.inl ⟨by rfl, ?_⟩) ?_ ?_
    rotate_left
    ·intro w'
     go_simp
     with_reducible rfl
    rotate_left
    ·simp only [Act.put,qs1,qs2,qs3,qAH,qAI]
     rfl
    refine last_ (i:=9) (N:=none) #[qT,qT,qT,qT,qT,qT,qT,qT,qT,qT] rfl rfl (by kernel_rfl) (by decide) (fun K hK => ?_)
    refine skip_ (w1 := ?_) (by rfl) rfl ?_ ?_
    rotate_left
    ·go_simp
     rfl
    clear s2 s2f
    refine hK.out _ _ ?_
    clear hK K
    refine qBM (by kernel_rfl) ?_
    have R8:=qAA.mk (show sa.RB7 (w7.setCell ⟨g,2,none⟩ (.int .i64 (all+hw))) g B bs.length cb at_ (all+hw) (.slice AL 0 cl) from qAz R7.out 2 _ rfl)
    have W8:=qAA.mk (show Below w0.heap.size w0 (w7.setCell ⟨g,2,none⟩ (.int .i64 (all+hw))) from qAP W7.out HG.out)
    have Q8:=qAA.mk (Kd.R_far Q7.out (p:=⟨g,2,none⟩) (fun k hk=>hk) (.int .i64 (all+hw)))
    have KT8:=qAA.mk (Kd.M_far KT7.out (p:=⟨g,2,none⟩) (fun k hk=>by have:=HG2d.out;dsimp only;omega) (.int .i64 (all+hw)))
    have X8:=qAA.mk ((Below.heap_setCell w7 ⟨g,2,none⟩ (.int .i64 (all+hw)) gx HGX.out).trans X7.out)
    generalize w7.setCell ⟨g,2,none⟩ (.int .i64 (all+hw))=w8 at *
    have z2:w8.cell? ⟨g,2,none⟩=some (.int .i64 (all+hw)):=(qAB R8.out 2).trans rfl
    go_wp2
    clear z2
    refine qAy (n:=11) (S:=fun w'=>w'.cell? ⟨g,3,none⟩=some (.slice AL 0 cl)∧w'.cell? ⟨gx,0,none⟩=some (.string s)∧w'.cell? ⟨gx,1,none⟩=some (.int .i64 x.f0)∧w'.cell? ⟨gx,2,none⟩=some (.int .i64 x.f1)∧w'.cell? ⟨gx,3,none⟩=some (.string x.f2)∧w'.cell? ⟨gx,4,none⟩=some (.slice A3 x.f3.length c3)∧w'.cell? ⟨gx,5,none⟩=some (.slice A4 x.f4.length c4)) (ds:=[10]) #[qF,qF,qF,qF,qF,qF,qF,qF,qF,qF,qF] (by kernel_rfl) rfl rfl ⟨(qAB (show w8.drew.heap[g]?=_ from R8.out) 3).trans rfl,(qAB (qAO X8.out) 0).trans rfl,(qAB (qAO X8.out) 1).trans rfl,(qAB (qAO X8.out) 2).trans rfl,(qAB (qAO X8.out) 3).trans rfl,(qAB (qAO X8.out) 4).trans rfl,(qAB (qAO X8.out) 5).trans rfl⟩ (fun hHeld => ?_)
    generalize hwd:w8.drew=wd8 at hHeld ⊢
    have R9:=qAA.mk (hwd▸R8.out.below (qAX (Below.refl _ _)))
    have W9:=qAA.mk (hwd▸qAX W8.out)
    have Q9:=qAA.mk (hwd▸Kd.qA8 Q8.out)
    have KT9:=qAA.mk (hwd▸Kd.qBg KT8.out (qAX (Below.refl _ _)))
    have X9:=qAA.mk (hwd▸qAO X8.out)
    clear hwd R8 W8 Q8 KT8 X8
    refine qAL (i:=0) (N:=some 96) (v := ?_) (a' := ?_) #[qT,qF,qF,qF,qF,qF,qF,qF,qF,qF,qF] rfl rfl (by kernel_rfl) (fun _ _ _ h=>h) (Or.inl ⟨by rfl, ?_⟩) ?_ ?_
    rotate_left
    ·intro w'
     go_simp
     with_reducible rfl
    rotate_left
    ·simp only [Act.put,qs1,qs2,qs3,qAH,qAI]
     rfl
    refine qAL (i:=1) (N:=some 97) (v := ?_) (a' := ?_) #[qT,qT,qF,qF,qF,qF,qF,qF,qF,qF,qF] rfl rfl (by kernel_rfl) (fun _ _ _ h=>h) (Or.inl ⟨by rfl, ?_⟩) ?_ ?_
    rotate_left
    ·intro w'
     go_simp
     with_reducible rfl
    rotate_left
    ·simp only [Act.put,qs1,qs2,qs3,qAH,qAI]
     rfl
    refine qAL (i:=2) (N:=some 98) (v := ?_) (a' := ?_) #[qT,qT,qT,qF,qF,qF,qF,qF,qF,qF,qF] rfl rfl (by kernel_rfl) (fun _ _ _ h=>h) (Or.inl ⟨by rfl, ?_⟩) ?_ ?_
    rotate_left
    ·intro w'
     go_simp
     with_reducible rfl
    rotate_left
    ·simp only [Act.put,qs1,qs2,qs3,qAH,qAI]
     rfl
    refine qAL (i:=3) (N:=some 99) (v := ?_) (a' := ?_) #[qT,qT,qT,qT,qF,qF,qF,qF,qF,qF,qF] rfl rfl (by kernel_rfl) (fun _ _ _ h=>h) (Or.inl ⟨by rfl, ?_⟩) ?_ ?_
    rotate_left
    ·intro w'
     go_simp
     with_reducible rfl
    rotate_left
    ·simp only [Act.put,qs1,qs2,qs3,qAH,qAI]
     rfl
    refine qAt (i:=4) (N:=some 100) (v := ?_) (a' := ?_) #[qT,qT,qT,qT,qT,qF,qF,qF,qF,qF,qF] rfl rfl (by kernel_rfl) (fun _ _ _ h=>h) (Or.inl ⟨by rfl, ?_⟩) hHeld ?_ ?_
    rotate_left
    ·rintro w' ⟨s0,s1,s2,s3,s4,s5,s6⟩
     go_simp
     with_reducible rfl
    rotate_left
    ·simp only [Act.put,qs1,qs2,qs3,qAH,qAI]
     rfl
    refine qAt (i:=5) (N:=some 101) (v := ?_) (a' := ?_) #[qT,qT,qT,qT,qT,qT,qF,qF,qF,qF,qF] rfl rfl (by kernel_rfl) (fun _ _ _ h=>h) (Or.inl ⟨by rfl, ?_⟩) hHeld ?_ ?_
    rotate_left
    ·rintro w' ⟨s0,s1,s2,s3,s4,s5,s6⟩
     go_simp
     with_reducible rfl
    rotate_left
    ·simp only [Act.put,qs1,qs2,qs3,qAH,qAI]
     rfl
    refine one_ (i:=6) (N:=some 102) #[qT,qT,qT,qT,qT,qT,qT,qF,qF,qF,qF] rfl rfl (by kernel_rfl) (by decide) (fun K hK => ?_)
    refine value_ (w1 := ?_) (v := ?_) (by rfl) rfl ?_ ?_
    rotate_left 2
    ·go_simp
     constructor
     ·rfl
     ·rfl
    refine hK.out _ _ ⟨(qAB (qAR R9.out _) 3).trans rfl,(qAB (qAR X9.out _) 0).trans rfl,(qAB (qAR X9.out _) 1).trans rfl,(qAB (qAR X9.out _) 2).trans rfl,(qAB (qAR X9.out _) 3).trans rfl,(qAB (qAR X9.out _) 4).trans rfl,(qAB (qAR X9.out _) 5).trans rfl⟩ (fun hHeld => ?_)
    clear hK K
    refine qBH (a' := ?_) ?_ ?_
    rotate_left
    ·show Act.put _ (some 102) _=_
     simp only [Act.put,qs1,qs2,qs3,qAH,qAI]
     rfl
    refine one_ (i:=7) (N:=some 103) #[qT,qT,qT,qT,qT,qT,qT,qT,qF,qF,qF] rfl rfl (by kernel_rfl) (by decide) (fun K hK => ?_)
    refine Kd.qBR sa.ke (w0:=w0) w0.heap.size (by rfl) (.tmp 100) (.tmp 102) 22 51 (.agg #[.string ⟨#[]⟩,.int .i64 0,.int .i64 0,.string ⟨#[]⟩,.slice none 0 0,.slice none 0 0]) 96 rfl Try.underlying22 info51 rfl (by decide) (by omega) _ l ⟨s,x⟩ [.string s,.int .i64 x.f0,.int .i64 x.f1,.string x.f2,.slice A3 x.f3.length c3,.slice A4 x.f4.length c4] (fun k=>k ≠ g) (fun k=>wd2.heap.size≤k) rfl rfl ?aM ?aF ?aN ?aO ?aB ?aS ?aL ?_
    (case aM=>exact sa.ke_M KT9.out)
    (case aF=>exact fun k hk=>⟨by have:=HG2d.out;omega,fun e=>by have:=HOB.out k e.symm;omega⟩)
    (case aN=>exact fun k hk=>by have:=qAp (show wd8.heap[g]?=some _ from R9.out);omega)
    (case aO=>exact Q9.out)
    (case aB=>exact W9.out)
    (case aS=>exact W9.out.size)
    (case aL=>have:=HLL.out;omega)
    intro v11 w11 hr hb hg hat
    obtain ⟨A11,c11,e11⟩:=Kd.qBE hr
    subst e11
    rw [show (l ++ [(⟨s,x⟩:S51)]).length=l.length+1 from by simp] at hr
    have R11:=qAA.mk (qBI R9.out hg (Kd.R_away Q9.out (fun _ hk=>hk)))
    have X11:=qAA.mk (qBI X9.out hg (fun e=>by have:=HOB.out gx e.symm;have:=HGX2.out;omega))
    have Q11:=qAA.mk hr
    have W11:=qAA.mk hb
    clear hr hb hg hat
    have s3:=(qAB R11.out 3).trans rfl
    have s3f:=qAC R11.out 3
    refine hK.out _ _ ⟨(qAB R11.out 3).trans rfl,(qAB X11.out 0).trans rfl,(qAB X11.out 1).trans rfl,(qAB X11.out 2).trans rfl,(qAB X11.out 3).trans rfl,(qAB X11.out 4).trans rfl,(qAB X11.out 5).trans rfl⟩ (fun hHeld => ?_)
    clear hK K
    refine qBH (a' := ?_) ?_ ?_
    rotate_left
    ·show Act.put _ (some 103) _=_
     simp only [Act.put,qs1,qs2,qs3,qAH,qAI]
     rfl
    refine qAL (i:=8) (N:=some 104) (v := ?_) (a' := ?_) #[qT,qT,qT,qT,qT,qT,qT,qT,qT,qF,qF] rfl rfl (by kernel_rfl) (fun _ _ _ h=>h) (Or.inl ⟨by rfl, ?_⟩) ?_ ?_
    rotate_left
    ·intro w'
     go_simp
     with_reducible rfl
    rotate_left
    ·simp only [Act.put,qs1,qs2,qs3,qAH,qAI]
     rfl
    refine qAL (i:=9) (N:=some 105) (v := ?_) (a' := ?_) #[qT,qT,qT,qT,qT,qT,qT,qT,qT,qT,qF] rfl rfl (by kernel_rfl) (fun _ _ _ h=>h) (Or.inl ⟨by rfl, ?_⟩) ?_ ?_
    rotate_left
    ·intro w'
     go_simp
     with_reducible rfl
    rotate_left
    ·simp only [Act.put,qs1,qs2,qs3,qAH,qAI]
     rfl
    refine last_ (i:=10) (N:=none) #[qT,qT,qT,qT,qT,qT,qT,qT,qT,qT,qT] rfl rfl (by kernel_rfl) (by decide) (fun K hK => ?_)
    refine skip_ (w1 := ?_) (by rfl) rfl ?_ ?_
    rotate_left
    ·go_simp
     rfl
    clear s3 s3f
    refine hK.out _ _ ?_
    clear hK K
    refine qBM (by kernel_rfl) ?_
    have R12:=qAA.mk (show sa.RB7 (w11.setCell ⟨g,3,none⟩ (.slice A11 (l.length+1) c11)) g B bs.length cb at_ (all+hw) (.slice A11 (l.length+1) c11) from qAz R11.out 3 _ rfl)
    have W12:=qAA.mk (show Below w0.heap.size w0 (w11.setCell ⟨g,3,none⟩ (.slice A11 (l.length+1) c11)) from qAP W11.out HG.out)
    have Q12:=qAA.mk (Kd.R_far Q11.out (p:=⟨g,3,none⟩) (fun k hk=>hk) (.slice A11 (l.length+1) c11))
    generalize w11.setCell ⟨g,3,none⟩ (.slice A11 (l.length+1) c11)=w12 at *
    have z1:w12.cell? ⟨g,1,none⟩=some (.int .i64 at_):=(qAB R12.out 1).trans rfl
    have z1f:=qAC R12.out 1
    go_wp2
    go_ret2
    exact ⟨rfl,qAP W12.out HG.out,_,qAz R12.out 1 _ rfl,Kd.R_far Q12.out (p:=⟨g,1,none⟩) (fun k hk=>hk) _⟩
 obtain ⟨k,rfl⟩:∃ k,n=k+1:=⟨n - 1,by omega⟩
 have hkl:(k:Int)=(l.length:Int) - 1:=by have:=HN.out;omega
 rw [← hkl]
 have hk0:(0:Int)≤(k:Int):=by omega
 have hk1:wrap64 (((k+1:Nat):Int) - 1)=(k:Int):=by have:=HN.out;have:=HLL.out;unfold wrap64;omega
 have hk5:wrap64 (k:Int)=(k:Int):=by have:=HN.out;have:=HLL.out;unfold wrap64;omega
 have hk6:IntKind.i64.wrap (k:Int)=(k:Int):=(qAH _).trans hk5
 have hk2:(((k+1:Nat):Int)) > 0:=by omega
 have hk3:decide ((((k+1:Nat):Int)) > 0)=true:=decide_eq_true hk2
 have hk4:(k:Int) < ((k+1:Nat):Int):=by omega
 have hk8:(k:Int) < (k:Int)+1:=by omega
 have hk9:((k:Int) < (k:Int)+1)=True:=eq_true hk8
 have hk7:0 < l.length:=by have:=HN.out;omega
 have HAT:=qAA.mk (fun (W:World) (hC:sa.ke.C W AL l.length l)=>qB9 (sa.ke_C hC) (k:Int) (by omega) (by have:=HN.out;omega))
 generalize qAN l (k:Int)=y at HAT ⊢
 clear hkl hn0
 cases p3:Op.bytesLess y.f0.toList s.toList with
 | false =>
  rw [if_pos (Or.inr ⟨hk7,by simp⟩)]
  clear h2 hk7
  go_enter Try.func41,Try.ntmps41
  go_wp2
  refine qAy (n:=16) (S:=fun w'=>w'.cell? ⟨g,0,none⟩=some (.slice B bs.length cb)∧w'.cell? ⟨g,1,none⟩=some (.int .i64 at_)) (ds:=[]) #[qF,qF,qF,qF,qF,qF,qF,qF,qF,qF,qF,qF,qF,qF,qF,qF] (by kernel_rfl) rfl rfl ⟨(qAB (show w.drew.heap[g]?=_ from HR.out) 0).trans rfl,(qAB (show w.drew.heap[g]?=_ from HR.out) 1).trans rfl⟩ (fun hHeld => ?_)
  generalize hwd:w.drew=wd at hHeld ⊢
  have Rd:=qAA.mk (hwd▸HR.out.below (qAX (Below.refl _ _)))
  have Wd:=qAA.mk (hwd▸qAX HW.out)
  have Od:=qAA.mk (hwd▸Kd.qA8 HO.out)
  have HGd:=qAA.mk (show g < wd.heap.size from hwd▸HGW.out)
  clear hwd
  refine qAL (i:=0) (N:=some 11) (v := ?_) (a' := ?_) #[qT,qF,qF,qF,qF,qF,qF,qF,qF,qF,qF,qF,qF,qF,qF,qF] rfl rfl (by kernel_rfl) (fun _ _ _ h=>h) (Or.inl ⟨by rfl, ?_⟩) ?_ ?_
  rotate_left
  ·intro w'
   go_simp
   with_reducible rfl
  rotate_left
  ·simp only [Act.put,qs1,qs2,qs3,qAH,qAI]
   rfl
  refine qAL (i:=1) (N:=some 12) (v := ?_) (a' := ?_) #[qT,qT,qF,qF,qF,qF,qF,qF,qF,qF,qF,qF,qF,qF,qF,qF] rfl rfl (by kernel_rfl) (fun _ _ _ h=>h) (Or.inl ⟨by rfl, ?_⟩) ?_ ?_
  rotate_left
  ·intro w'
   go_simp
   with_reducible rfl
  rotate_left
  ·simp only [Act.put,qs1,qs2,qs3,qAH,qAI]
   rfl
  refine qAL (i:=2) (N:=some 13) (v := ?_) (a' := ?_) #[qT,qT,qT,qF,qF,qF,qF,qF,qF,qF,qF,qF,qF,qF,qF,qF] rfl rfl (by kernel_rfl) (fun _ _ _ h=>h) (Or.inl ⟨by rfl, ?_⟩) ?_ ?_
  rotate_left
  ·intro w'
   go_simp
   with_reducible rfl
  rotate_left
  ·simp only [Act.put,qs1,qs2,qs3,qAH,qAI]
   rfl
  refine qAL (i:=4) (N:=some 15) (v := ?_) (a' := ?_) #[qT,qT,qT,qF,qT,qF,qF,qF,qF,qF,qF,qF,qF,qF,qF,qF] rfl rfl (by kernel_rfl) (fun _ _ _ h=>h) (Or.inl ⟨by rfl, ?_⟩) ?_ ?_
  rotate_left
  ·intro w'
   go_simp
   with_reducible rfl
  rotate_left
  ·simp only [Act.put,qs1,qs2,qs3,qAH,qAI]
   rfl
  refine qAL (i:=5) (N:=some 16) (v := ?_) (a' := ?_) #[qT,qT,qT,qF,qT,qT,qF,qF,qF,qF,qF,qF,qF,qF,qF,qF] rfl rfl (by kernel_rfl) (fun _ _ _ h=>h) (Or.inl ⟨by rfl, ?_⟩) ?_ ?_
  rotate_left
  ·intro w'
   go_simp
   with_reducible rfl
  rotate_left
  ·simp only [Act.put,qs1,qs2,qs3,qAH,qAI]
   rfl
  refine qAL (i:=6) (N:=some 17) (v := ?_) (a' := ?_) #[qT,qT,qT,qF,qT,qT,qT,qF,qF,qF,qF,qF,qF,qF,qF,qF] rfl rfl (by kernel_rfl) (fun _ _ _ h=>h) (Or.inl ⟨by rfl, ?_⟩) ?_ ?_
  rotate_left
  ·intro w'
   go_simp
   with_reducible rfl
  rotate_left
  ·simp only [Act.put,qs1,qs2,qs3,qAH,qAI]
   rfl
  refine qAt (i:=3) (N:=some 14) (v := ?_) (a' := ?_) #[qT,qT,qT,qT,qT,qT,qT,qF,qF,qF,qF,qF,qF,qF,qF,qF] rfl rfl (by kernel_rfl) (fun _ _ _ h=>h) (Or.inl ⟨by rfl, ?_⟩) hHeld ?_ ?_
  rotate_left
  ·rintro w' ⟨s0,s1⟩
   go_simp
   with_reducible rfl
  rotate_left
  ·simp only [Act.put,qs1,qs2,qs3,qAH,qAI]
   rfl
  refine qAt (i:=7) (N:=some 18) (v := ?_) (a' := ?_) #[qT,qT,qT,qT,qT,qT,qT,qT,qF,qF,qF,qF,qF,qF,qF,qF] rfl rfl (by kernel_rfl) (fun _ _ _ h=>h) (Or.inl ⟨by rfl, ?_⟩) hHeld ?_ ?_
  rotate_left
  ·rintro w' ⟨s0,s1⟩
   go_simp
   with_reducible rfl
  rotate_left
  ·simp only [Act.put,qs1,qs2,qs3,qAH,qAI]
   rfl
  refine one_ (i:=8) (N:=some 19) #[qT,qT,qT,qT,qT,qT,qT,qT,qT,qF,qF,qF,qF,qF,qF,qF] rfl rfl (by kernel_rfl) (by decide) (fun K hK => ?_)
  refine qBe Try.func60 (by kernel_rfl) rfl #[.slice B bs.length cb,.int .i64 at_,.int .i64 32] (by rfl) rfl rfl (by (try simp only [List.map_toArray,List.map_cons,List.map_nil]);first | done | rfl) ?_
  refine (TX.out wd Wd.out).mono ?_
  rintro e w2 ⟨rfl,hb⟩
  refine ⟨_,rfl, ?_⟩
  have R2:=qAA.mk (Rd.out.below hb.below)
  have W2:=qAA.mk (qAf Wd.out Wd.out.size hb.below)
  have O2:=qAA.mk (Kd.qA3 Od.out hb.below)
  have HG2:=qAA.mk (Nat.lt_of_lt_of_le HGd.out hb.below.size)
  clear hb
  refine hK.out _ _ ⟨(qAB R2.out 0).trans rfl,(qAB R2.out 1).trans rfl⟩ (fun hHeld => ?_)
  clear hK K
  refine qBH (a' := ?_) ?_ ?_
  rotate_left
  ·show Act.put _ (some 19) _=_
   simp only [Act.put,qs1,qs2,qs3,qAH,qAI]
   rfl
  refine qAL (i:=9) (N:=some 10) (v := ?_) (a' := ?_) #[qT,qT,qT,qT,qT,qT,qT,qT,qT,qT,qF,qF,qF,qF,qF,qF] rfl rfl (by kernel_rfl) (fun _ _ _ h=>h) (Or.inl ⟨by rfl, ?_⟩) ?_ ?_
  rotate_left
  ·intro w'
   go_simp
   with_reducible rfl
  rotate_left
  ·simp only [Act.put,qs1,qs2,qs3,qAH,qAI]
   rfl
  refine qAL (i:=10) (N:=some 20) (v := ?_) (a' := ?_) #[qT,qT,qT,qT,qT,qT,qT,qT,qT,qT,qT,qF,qF,qF,qF,qF] rfl rfl (by kernel_rfl) (fun _ _ _ h=>h) (Or.inl ⟨by rfl, ?_⟩) ?_ ?_
  rotate_left
  ·intro w'
   go_simp
   with_reducible rfl
  rotate_left
  ·simp only [Act.put,qs1,qs2,qs3,qAH,qAI]
   rfl
  refine qAL (i:=11) (N:=some 21) (v := ?_) (a' := ?_) #[qT,qT,qT,qT,qT,qT,qT,qT,qT,qT,qT,qT,qF,qF,qF,qF] rfl rfl (by kernel_rfl) (fun _ _ _ h=>h) (Or.inl ⟨by rfl, ?_⟩) ?_ ?_
  rotate_left
  ·intro w'
   go_simp
   with_reducible rfl
  rotate_left
  ·simp only [Act.put,qs1,qs2,qs3,qAH,qAI]
   rfl
  refine qAL (i:=12) (N:=some 22) (v := ?_) (a' := ?_) #[qT,qT,qT,qT,qT,qT,qT,qT,qT,qT,qT,qT,qT,qF,qF,qF] rfl rfl (by kernel_rfl) (fun _ _ _ h=>h) (Or.inl ⟨by rfl, ?_⟩) ?_ ?_
  rotate_left
  ·intro w'
   go_simp
   with_reducible rfl
  rotate_left
  ·simp only [Act.put,qs1,qs2,qs3,qAH,qAI]
   rfl
  refine qAL (i:=13) (N:=some 4) (v := ?_) (a' := ?_) #[qT,qT,qT,qT,qT,qT,qT,qT,qT,qT,qT,qT,qT,qT,qF,qF] rfl rfl (by kernel_rfl) (fun _ _ _ h=>h) (Or.inl ⟨by rfl, ?_⟩) ?_ ?_
  rotate_left
  ·intro w'
   go_simp
   with_reducible rfl
  rotate_left
  ·simp only [Act.put,qs1,qs2,qs3,qAH,qAI]
   rfl
  refine qAL (i:=14) (N:=some 5) (v := ?_) (a' := ?_) #[qT,qT,qT,qT,qT,qT,qT,qT,qT,qT,qT,qT,qT,qT,qT,qF] rfl rfl (by kernel_rfl) (fun _ _ _ h=>h) (Or.inl ⟨by rfl, ?_⟩) ?_ ?_
  rotate_left
  ·intro w'
   go_simp
   with_reducible rfl
  rotate_left
  ·simp only [Act.put,qs1,qs2,qs3,qAH,qAI]
   rfl
  refine qAL (i:=15) (N:=some 6) (v := ?_) (a' := ?_) #[qT,qT,qT,qT,qT,qT,qT,qT,qT,qT,qT,qT,qT,qT,qT,qT] rfl rfl (by kernel_rfl) (fun _ _ _ h=>h) (Or.inl ⟨by rfl, ?_⟩) ?_ ?_
  rotate_left
  ·intro w'
   go_simp
   with_reducible rfl
  rotate_left
  ·simp only [Act.put,qs1,qs2,qs3,qAH,qAI]
   rfl
  refine qBM (by kernel_rfl) ?_
  go_wp2
  obtain ⟨ad,a4_,b4_,a5_,b5_,eA,h0,_⟩:=HAT.out w2.drew (Kd.R_reads' (Kd.qA8 O2.out)).2.2;subst eA;rw [Int.toNat_natCast] at h0
  refine qAy (n:=28) (S:=fun w'=>w'.cell? ⟨g,3,none⟩=some (.slice (some ad) (k+1) cl)∧w'.cell? (ad.add (k * 6))=some (.string y.f0)) (ds:=[]) #[qF,qF,qF,qF,qF,qF,qF,qF,qF,qF,qF,qF,qF,qF,qF,qF,qF,qF,qF,qF,qF,qF,qF,qF,qF,qF,qF,qF] (by kernel_rfl) rfl rfl ⟨(qAB (show w2.drew.heap[g]?=_ from R2.out) 3).trans rfl,h0⟩ (fun hHeld => ?_)
  generalize hwd:w2.drew=wd2 at hHeld ⊢
  have R2d:=qAA.mk (hwd▸R2.out.below (qAX (Below.refl _ _)))
  have W2d:=qAA.mk (hwd▸qAX W2.out)
  have O2d:=qAA.mk (hwd▸Kd.qA8 O2.out)
  have HG2d:=qAA.mk (show g < wd2.heap.size from hwd▸HG2.out)
  have HOB:=qAA.mk (fun k hk=>((Kd.qBf O2d.out).1 k hk).2.2.1)
  clear hwd
  refine qAL (i:=0) (N:=some 31) (v := ?_) (a' := ?_) #[qT,qF,qF,qF,qF,qF,qF,qF,qF,qF,qF,qF,qF,qF,qF,qF,qF,qF,qF,qF,qF,qF,qF,qF,qF,qF,qF,qF] rfl rfl (by kernel_rfl) (fun _ _ _ h=>h) (Or.inl ⟨by rfl, ?_⟩) ?_ ?_
  rotate_left
  ·intro w'
   go_simp
   with_reducible rfl
  rotate_left
  ·simp only [Act.put,qs1,qs2,qs3,qAH,qAI]
   rfl
  refine qAL (i:=1) (N:=some 32) (v := ?_) (a' := ?_) #[qT,qT,qF,qF,qF,qF,qF,qF,qF,qF,qF,qF,qF,qF,qF,qF,qF,qF,qF,qF,qF,qF,qF,qF,qF,qF,qF,qF] rfl rfl (by kernel_rfl) (fun _ _ _ h=>h) (Or.inl ⟨by rfl, ?_⟩) ?_ ?_
  rotate_left
  ·intro w'
   go_simp
   with_reducible rfl
  rotate_left
  ·simp only [Act.put,qs1,qs2,qs3,qAH,qAI]
   rfl
  refine qAL (i:=2) (N:=some 33) (v := ?_) (a' := ?_) #[qT,qT,qT,qF,qF,qF,qF,qF,qF,qF,qF,qF,qF,qF,qF,qF,qF,qF,qF,qF,qF,qF,qF,qF,qF,qF,qF,qF] rfl rfl (by kernel_rfl) (fun _ _ _ h=>h) (Or.inl ⟨by rfl, ?_⟩) ?_ ?_
  rotate_left
  ·intro w'
   go_simp
   with_reducible rfl
  rotate_left
  ·simp only [Act.put,qs1,qs2,qs3,qAH,qAI]
   rfl
  refine qAL (i:=3) (N:=some 34) (v := ?_) (a' := ?_) #[qT,qT,qT,qT,qF,qF,qF,qF,qF,qF,qF,qF,qF,qF,qF,qF,qF,qF,qF,qF,qF,qF,qF,qF,qF,qF,qF,qF] rfl rfl (by kernel_rfl) (fun _ _ _ h=>h) (Or.inl ⟨by rfl, ?_⟩) ?_ ?_
  rotate_left
  ·intro w'
   go_simp
   with_reducible rfl
  rotate_left
  ·simp only [Act.put,qs1,qs2,qs3,qAH,qAI]
   rfl
  refine qAL (i:=4) (N:=some 35) (v := ?_) (a' := ?_) #[qT,qT,qT,qT,qT,qF,qF,qF,qF,qF,qF,qF,qF,qF,qF,qF,qF,qF,qF,qF,qF,qF,qF,qF,qF,qF,qF,qF] rfl rfl (by kernel_rfl) (fun _ _ _ h=>h) (Or.inl ⟨by rfl, ?_⟩) ?_ ?_
  rotate_left
  ·intro w'
   go_simp
   with_reducible rfl
  rotate_left
  ·simp only [Act.put,qs1,qs2,qs3,qAH,qAI]
   rfl
  refine qAL (i:=5) (N:=some 36) (v := ?_) (a' := ?_) #[qT,qT,qT,qT,qT,qT,qF,qF,qF,qF,qF,qF,qF,qF,qF,qF,qF,qF,qF,qF,qF,qF,qF,qF,qF,qF,qF,qF] rfl rfl (by kernel_rfl) (fun _ _ _ h=>h) (Or.inl ⟨by rfl, ?_⟩) ?_ ?_
  rotate_left
  ·intro w'
   go_simp
   with_reducible rfl
  rotate_left
  ·simp only [Act.put,qs1,qs2,qs3,qAH,qAI]
   rfl
  refine qAt (i:=6) (N:=some 37) (v := ?_) (a' := ?_) #[qT,qT,qT,qT,qT,qT,qT,qF,qF,qF,qF,qF,qF,qF,qF,qF,qF,qF,qF,qF,qF,qF,qF,qF,qF,qF,qF,qF] rfl rfl (by kernel_rfl) (fun _ _ _ h=>h) (Or.inl ⟨by rfl, ?_⟩) hHeld ?_ ?_
  rotate_left
  ·rintro w' ⟨s0,s1⟩
   go_simp
   with_reducible rfl
  rotate_left
  ·simp only [Act.put,qs1,qs2,qs3,qAH,qAI]
   rfl
  refine qAL (i:=7) (N:=some 38) (v := ?_) (a' := ?_) #[qT,qT,qT,qT,qT,qT,qT,qT,qF,qF,qF,qF,qF,qF,qF,qF,qF,qF,qF,qF,qF,qF,qF,qF,qF,qF,qF,qF] rfl rfl (by kernel_rfl) (fun _ _ _ h=>h) (Or.inl ⟨by rfl, ?_⟩) ?_ ?_
  rotate_left
  ·intro w'
   go_simp
   with_reducible rfl
  rotate_left
  ·simp only [Act.put,qs1,qs2,qs3,qAH,qAI]
   rfl
  refine qAL (i:=8) (N:=some 39) (v := ?_) (a' := ?_) #[qT,qT,qT,qT,qT,qT,qT,qT,qT,qF,qF,qF,qF,qF,qF,qF,qF,qF,qF,qF,qF,qF,qF,qF,qF,qF,qF,qF] rfl rfl (by kernel_rfl) (fun _ _ _ h=>h) (Or.inl ⟨by rfl, ?_⟩) ?_ ?_
  rotate_left
  ·intro w'
   go_simp
   with_reducible rfl
  rotate_left
  ·simp only [Act.put,qs1,qs2,qs3,qAH,qAI]
   rfl
  refine qAL (i:=9) (N:=some 40) (v := ?_) (a' := ?_) #[qT,qT,qT,qT,qT,qT,qT,qT,qT,qT,qF,qF,qF,qF,qF,qF,qF,qF,qF,qF,qF,qF,qF,qF,qF,qF,qF,qF] rfl rfl (by kernel_rfl) (fun _ _ _ h=>h) (Or.inl ⟨by rfl, ?_⟩) ?_ ?_
  rotate_left
  ·intro w'
   go_simp
   with_reducible rfl
  rotate_left
  ·simp only [Act.put,qs1,qs2,qs3,qAH,qAI]
   rfl
  refine qAL (i:=10) (N:=some 41) (v := ?_) (a' := ?_) #[qT,qT,qT,qT,qT,qT,qT,qT,qT,qT,qT,qF,qF,qF,qF,qF,qF,qF,qF,qF,qF,qF,qF,qF,qF,qF,qF,qF] rfl rfl (by kernel_rfl) (fun _ _ _ h=>h) (Or.inl ⟨by rfl, ?_⟩) ?_ ?_
  rotate_left
  ·intro w'
   go_simp
   with_reducible rfl
  rotate_left
  ·simp only [Act.put,qs1,qs2,qs3,qAH,qAI]
   rfl
  refine qAL (i:=11) (N:=some 42) (v := ?_) (a' := ?_) #[qT,qT,qT,qT,qT,qT,qT,qT,qT,qT,qT,qT,qF,qF,qF,qF,qF,qF,qF,qF,qF,qF,qF,qF,qF,qF,qF,qF] rfl rfl (by kernel_rfl) (fun _ _ _ h=>h) (Or.inl ⟨by rfl, ?_⟩) ?_ ?_
  rotate_left
  ·intro w'
   go_simp
   with_reducible rfl
  rotate_left
  ·simp only [Act.put,qs1,qs2,qs3,qAH,qAI]
   rfl
  refine qAL (i:=12) (N:=some 43) (v := ?_) (a' := ?_) #[qT,qT,qT,qT,qT,qT,qT,qT,qT,qT,qT,qT,qT,qF,qF,qF,qF,qF,qF,qF,qF,qF,qF,qF,qF,qF,qF,qF] rfl rfl (by kernel_rfl) (fun _ _ _ h=>h) (Or.inl ⟨by rfl, ?_⟩) ?_ ?_
  rotate_left
  ·intro w'
   go_simp
   with_reducible rfl
  rotate_left
  ·simp only [Act.put,qs1,qs2,qs3,qAH,qAI]
   rfl
  refine qAL (i:=14) (N:=some 45) (v := ?_) (a' := ?_) #[qT,qT,qT,qT,qT,qT,qT,qT,qT,qT,qT,qT,qT,qF,qT,qF,qF,qF,qF,qF,qF,qF,qF,qF,qF,qF,qF,qF] rfl rfl (by kernel_rfl) (fun _ _ _ h=>h) (Or.inl ⟨by rfl, ?_⟩) ?_ ?_
  rotate_left
  ·intro w'
   go_simp
   with_reducible rfl
  rotate_left
  ·simp only [Act.put,qs1,qs2,qs3,qAH,qAI]
   rfl
  refine qAL (i:=15) (N:=some 46) (v := ?_) (a' := ?_) #[qT,qT,qT,qT,qT,qT,qT,qT,qT,qT,qT,qT,qT,qF,qT,qT,qF,qF,qF,qF,qF,qF,qF,qF,qF,qF,qF,qF] rfl rfl (by kernel_rfl) (fun _ _ _ h=>h) (Or.inl ⟨by rfl, ?_⟩) ?_ ?_
  rotate_left
  ·intro w'
   go_simp
   with_reducible rfl
  rotate_left
  ·simp only [Act.put,qs1,qs2,qs3,qAH,qAI]
   rfl
  refine qAL (i:=16) (N:=some 47) (v := ?_) (a' := ?_) #[qT,qT,qT,qT,qT,qT,qT,qT,qT,qT,qT,qT,qT,qF,qT,qT,qT,qF,qF,qF,qF,qF,qF,qF,qF,qF,qF,qF] rfl rfl (by kernel_rfl) (fun _ _ _ h=>h) (Or.inl ⟨by rfl, ?_⟩) ?_ ?_
  rotate_left
  ·intro w'
   go_simp
   with_reducible rfl
  rotate_left
  ·simp only [Act.put,qs1,qs2,qs3,qAH,qAI]
   rfl
  refine qAL (i:=23) (N:=some 54) (v := ?_) (a' := ?_) #[qT,qT,qT,qT,qT,qT,qT,qT,qT,qT,qT,qT,qT,qF,qT,qT,qT,qF,qF,qF,qF,qF,qF,qT,qF,qF,qF,qF] rfl rfl (by kernel_rfl) (fun _ _ _ h=>h) (Or.inl ⟨by rfl, ?_⟩) ?_ ?_
  rotate_left
  ·intro w'
   go_simp
   with_reducible rfl
  rotate_left
  ·simp only [Act.put,qs1,qs2,qs3,qAH,qAI]
   rfl
  refine qAt (i:=13) (N:=some 44) (v := ?_) (a' := ?_) #[qT,qT,qT,qT,qT,qT,qT,qT,qT,qT,qT,qT,qT,qT,qT,qT,qT,qF,qF,qF,qF,qF,qF,qT,qF,qF,qF,qF] rfl rfl (by kernel_rfl) (fun _ _ _ h=>h) (Or.inl ⟨by rfl, ?_⟩) hHeld ?_ ?_
  rotate_left
  ·rintro w' ⟨s0,s1⟩
   go_simp
   with_reducible rfl
  rotate_left
  ·simp only [Act.put,qs1,qs2,qs3,qAH,qAI]
   rfl
  refine qAt (i:=17) (N:=some 48) (v := ?_) (a' := ?_) #[qT,qT,qT,qT,qT,qT,qT,qT,qT,qT,qT,qT,qT,qT,qT,qT,qT,qT,qF,qF,qF,qF,qF,qT,qF,qF,qF,qF] rfl rfl (by kernel_rfl) (fun _ _ _ h=>h) (Or.inl ⟨by rfl, ?_⟩) hHeld ?_ ?_
  rotate_left
  ·rintro w' ⟨s0,s1⟩
   go_simp
   with_reducible rfl
  rotate_left
  ·simp only [Act.put,qs1,qs2,qs3,qAH,qAI]
   rfl
  refine qAL (i:=18) (N:=some 49) (v := ?_) (a' := ?_) #[qT,qT,qT,qT,qT,qT,qT,qT,qT,qT,qT,qT,qT,qT,qT,qT,qT,qT,qT,qF,qF,qF,qF,qT,qF,qF,qF,qF] rfl rfl (by kernel_rfl) (fun _ _ _ h=>h) (Or.inl ⟨by rfl, ?_⟩) ?_ ?_
  rotate_left
  ·intro w'
   go_simp
   with_reducible rfl
  rotate_left
  ·simp only [Act.put,qs1,qs2,qs3,qAH,qAI]
   rfl
  refine qAL (i:=19) (N:=some 50) (v := ?_) (a' := ?_) #[qT,qT,qT,qT,qT,qT,qT,qT,qT,qT,qT,qT,qT,qT,qT,qT,qT,qT,qT,qT,qF,qF,qF,qT,qF,qF,qF,qF] rfl rfl (by kernel_rfl) (fun _ _ _ h=>h) (Or.inl ⟨by rfl, ?_⟩) ?_ ?_
  rotate_left
  ·intro w'
   go_simp
   with_reducible rfl
  rotate_left
  ·simp only [Act.put,qs1,qs2,qs3,qAH,qAI]
   rfl
  refine qAL (i:=20) (N:=some 51) (v := ?_) (a' := ?_) #[qT,qT,qT,qT,qT,qT,qT,qT,qT,qT,qT,qT,qT,qT,qT,qT,qT,qT,qT,qT,qT,qF,qF,qT,qF,qF,qF,qF] rfl rfl (by kernel_rfl) (fun _ _ _ h=>h) (Or.inl ⟨by rfl, ?_⟩) ?_ ?_
  rotate_left
  ·intro w'
   go_simp
   with_reducible rfl
  rotate_left
  ·simp only [Act.put,qs1,qs2,qs3,qAH,qAI]
   rfl
  refine qAL (i:=21) (N:=some 52) (v := ?_) (a' := ?_) #[qT,qT,qT,qT,qT,qT,qT,qT,qT,qT,qT,qT,qT,qT,qT,qT,qT,qT,qT,qT,qT,qT,qF,qT,qF,qF,qF,qF] rfl rfl (by kernel_rfl) (fun _ _ _ h=>h) (Or.inl ⟨by rfl, ?_⟩) ?_ ?_
  rotate_left
  ·intro w'
   go_simp
   with_reducible rfl
  rotate_left
  ·simp only [Act.put,qs1,qs2,qs3,qAH,qAI]
   rfl
  refine qAt (i:=22) (N:=some 53) (v := ?_) (a' := ?_) #[qT,qT,qT,qT,qT,qT,qT,qT,qT,qT,qT,qT,qT,qT,qT,qT,qT,qT,qT,qT,qT,qT,qT,qT,qF,qF,qF,qF] rfl rfl (by kernel_rfl) (fun _ _ _ h=>h) (Or.inl ⟨by rfl, ?_⟩) hHeld ?_ ?_
  rotate_left
  ·rintro w' ⟨s0,s1⟩
   go_simp
   with_reducible rfl
  rotate_left
  ·simp only [Act.put,qs1,qs2,qs3,qAH,qAI]
   rfl
  refine qAL (i:=24) (N:=some 55) (v := ?_) (a' := ?_) #[qT,qT,qT,qT,qT,qT,qT,qT,qT,qT,qT,qT,qT,qT,qT,qT,qT,qT,qT,qT,qT,qT,qT,qT,qT,qF,qF,qF] rfl rfl (by kernel_rfl) (fun _ _ _ h=>h) (Or.inl ⟨by rfl, ?_⟩) ?_ ?_
  rotate_left
  ·intro w'
   go_simp
   with_reducible rfl
  rotate_left
  ·simp only [Act.put,qs1,qs2,qs3,qAH,qAI]
   rfl
  refine qAL (i:=25) (N:=some 56) (v := ?_) (a' := ?_) #[qT,qT,qT,qT,qT,qT,qT,qT,qT,qT,qT,qT,qT,qT,qT,qT,qT,qT,qT,qT,qT,qT,qT,qT,qT,qT,qF,qF] rfl rfl (by kernel_rfl) (fun _ _ _ h=>h) (Or.inl ⟨by rfl, ?_⟩) ?_ ?_
  rotate_left
  ·intro w'
   go_simp
   with_reducible rfl
  rotate_left
  ·simp only [Act.put,qs1,qs2,qs3,qAH,qAI]
   rfl
  refine qAL (i:=26) (N:=some 57) (v := ?_) (a' := ?_) #[qT,qT,qT,qT,qT,qT,qT,qT,qT,qT,qT,qT,qT,qT,qT,qT,qT,qT,qT,qT,qT,qT,qT,qT,qT,qT,qT,qF] rfl rfl (by kernel_rfl) (fun _ _ _ h=>h) (Or.inl ⟨by rfl, ?_⟩) ?_ ?_
  rotate_left
  ·intro w'
   go_simp
   with_reducible rfl
  rotate_left
  ·simp only [Act.put,qs1,qs2,qs3,qAH,qAI]
   rfl
  refine qAL (i:=27) (N:=some 30) (v := ?_) (a' := ?_) #[qT,qT,qT,qT,qT,qT,qT,qT,qT,qT,qT,qT,qT,qT,qT,qT,qT,qT,qT,qT,qT,qT,qT,qT,qT,qT,qT,qT] rfl rfl (by kernel_rfl) (fun _ _ _ h=>h) (Or.inl ⟨by rfl, ?_⟩) ?_ ?_
  rotate_left
  ·intro w'
   go_simp
   with_reducible rfl
  rotate_left
  ·simp only [Act.put,qs1,qs2,qs3,qAH,qAI]
   rfl
  refine qBM (by kernel_rfl) ?_
  have z1:wd2.cell? ⟨g,1,none⟩=some (.int .i64 at_):=(qAB R2d.out 1).trans rfl
  go_wp2
  go_ret2
  exact ⟨rfl,W2d.out⟩
 | true =>
  rw [if_neg (by
    rintro (h | ⟨_,h⟩);· exact h2 h
    ·exact h rfl)]
  clear h2 hk7
  rcases hr:sa.takeS bs (qAk bs) (qCL bs) n1 with ⟨x,a2,l2⟩ | ⟨ee,pp⟩
  case bad =>
   have TB:=qAA.mk (sa.takeS_bad HBB.out.1 HBB.out.2 hr)
   have TKB:=qAA.mk (fun (W:World) (hb2:Below w0.heap.size w0 W)=>show Calls Try.prog 61 #[.slice B bs.length cb,.int .i64 n1] W (fun e w'=>e=.returned (.tuple #[.agg #[.int .i64 0,.int .i64 0,.string ⟨#[]⟩,.slice none 0 0,.slice none 0 0],.int .i64 pp,.int .i64 ee])∧Below W.heap.size W w') from by have h:=TK.out W hb2 n1;rw [hr] at h;exact h)
   dsimp only
   have hee:ee ≠ 0:=by have:=TB.out.1;omega
   have d1:(ee != 0)=true:=bne_iff_ne.2 hee
   have d2:(ee == 0)=false:=beq_eq_false_iff_ne.2 hee
   have d3:decide (ee=0)=false:=decide_eq_false hee
   clear hr hee
   go_enter Try.func41,Try.ntmps41
   go_wp2
   refine qAy (n:=16) (S:=fun w'=>w'.cell? ⟨g,0,none⟩=some (.slice B bs.length cb)∧w'.cell? ⟨g,1,none⟩=some (.int .i64 at_)) (ds:=[]) #[qF,qF,qF,qF,qF,qF,qF,qF,qF,qF,qF,qF,qF,qF,qF,qF] (by kernel_rfl) rfl rfl ⟨(qAB (show w.drew.heap[g]?=_ from HR.out) 0).trans rfl,(qAB (show w.drew.heap[g]?=_ from HR.out) 1).trans rfl⟩ (fun hHeld => ?_)
   generalize hwd:w.drew=wd at hHeld ⊢
   have Rd:=qAA.mk (hwd▸HR.out.below (qAX (Below.refl _ _)))
   have Wd:=qAA.mk (hwd▸qAX HW.out)
   have Od:=qAA.mk (hwd▸Kd.qA8 HO.out)
   have HGd:=qAA.mk (show g < wd.heap.size from hwd▸HGW.out)
   clear hwd
   refine qAL (i:=0) (N:=some 11) (v := ?_) (a' := ?_) #[qT,qF,qF,qF,qF,qF,qF,qF,qF,qF,qF,qF,qF,qF,qF,qF] rfl rfl (by kernel_rfl) (fun _ _ _ h=>h) (Or.inl ⟨by rfl, ?_⟩) ?_ ?_
   rotate_left
   ·intro w'
    go_simp
    with_reducible rfl
   rotate_left
   ·simp only [Act.put,qs1,qs2,qs3,qAH,qAI]
    rfl
   refine qAL (i:=1) (N:=some 12) (v := ?_) (a' := ?_) #[qT,qT,qF,qF,qF,qF,qF,qF,qF,qF,qF,qF,qF,qF,qF,qF] rfl rfl (by kernel_rfl) (fun _ _ _ h=>h) (Or.inl ⟨by rfl, ?_⟩) ?_ ?_
   rotate_left
   ·intro w'
    go_simp
    with_reducible rfl
   rotate_left
   ·simp only [Act.put,qs1,qs2,qs3,qAH,qAI]
    rfl
   refine qAL (i:=2) (N:=some 13) (v := ?_) (a' := ?_) #[qT,qT,qT,qF,qF,qF,qF,qF,qF,qF,qF,qF,qF,qF,qF,qF] rfl rfl (by kernel_rfl) (fun _ _ _ h=>h) (Or.inl ⟨by rfl, ?_⟩) ?_ ?_
   rotate_left
   ·intro w'
    go_simp
    with_reducible rfl
   rotate_left
   ·simp only [Act.put,qs1,qs2,qs3,qAH,qAI]
    rfl
   refine qAL (i:=4) (N:=some 15) (v := ?_) (a' := ?_) #[qT,qT,qT,qF,qT,qF,qF,qF,qF,qF,qF,qF,qF,qF,qF,qF] rfl rfl (by kernel_rfl) (fun _ _ _ h=>h) (Or.inl ⟨by rfl, ?_⟩) ?_ ?_
   rotate_left
   ·intro w'
    go_simp
    with_reducible rfl
   rotate_left
   ·simp only [Act.put,qs1,qs2,qs3,qAH,qAI]
    rfl
   refine qAL (i:=5) (N:=some 16) (v := ?_) (a' := ?_) #[qT,qT,qT,qF,qT,qT,qF,qF,qF,qF,qF,qF,qF,qF,qF,qF] rfl rfl (by kernel_rfl) (fun _ _ _ h=>h) (Or.inl ⟨by rfl, ?_⟩) ?_ ?_
   rotate_left
   ·intro w'
    go_simp
    with_reducible rfl
   rotate_left
   ·simp only [Act.put,qs1,qs2,qs3,qAH,qAI]
    rfl
   refine qAL (i:=6) (N:=some 17) (v := ?_) (a' := ?_) #[qT,qT,qT,qF,qT,qT,qT,qF,qF,qF,qF,qF,qF,qF,qF,qF] rfl rfl (by kernel_rfl) (fun _ _ _ h=>h) (Or.inl ⟨by rfl, ?_⟩) ?_ ?_
   rotate_left
   ·intro w'
    go_simp
    with_reducible rfl
   rotate_left
   ·simp only [Act.put,qs1,qs2,qs3,qAH,qAI]
    rfl
   refine qAt (i:=3) (N:=some 14) (v := ?_) (a' := ?_) #[qT,qT,qT,qT,qT,qT,qT,qF,qF,qF,qF,qF,qF,qF,qF,qF] rfl rfl (by kernel_rfl) (fun _ _ _ h=>h) (Or.inl ⟨by rfl, ?_⟩) hHeld ?_ ?_
   rotate_left
   ·rintro w' ⟨s0,s1⟩
    go_simp
    with_reducible rfl
   rotate_left
   ·simp only [Act.put,qs1,qs2,qs3,qAH,qAI]
    rfl
   refine qAt (i:=7) (N:=some 18) (v := ?_) (a' := ?_) #[qT,qT,qT,qT,qT,qT,qT,qT,qF,qF,qF,qF,qF,qF,qF,qF] rfl rfl (by kernel_rfl) (fun _ _ _ h=>h) (Or.inl ⟨by rfl, ?_⟩) hHeld ?_ ?_
   rotate_left
   ·rintro w' ⟨s0,s1⟩
    go_simp
    with_reducible rfl
   rotate_left
   ·simp only [Act.put,qs1,qs2,qs3,qAH,qAI]
    rfl
   refine one_ (i:=8) (N:=some 19) #[qT,qT,qT,qT,qT,qT,qT,qT,qT,qF,qF,qF,qF,qF,qF,qF] rfl rfl (by kernel_rfl) (by decide) (fun K hK => ?_)
   refine qBe Try.func60 (by kernel_rfl) rfl #[.slice B bs.length cb,.int .i64 at_,.int .i64 32] (by rfl) rfl rfl (by (try simp only [List.map_toArray,List.map_cons,List.map_nil]);first | done | rfl) ?_
   refine (TX.out wd Wd.out).mono ?_
   rintro e w2 ⟨rfl,hb⟩
   refine ⟨_,rfl, ?_⟩
   have R2:=qAA.mk (Rd.out.below hb.below)
   have W2:=qAA.mk (qAf Wd.out Wd.out.size hb.below)
   have O2:=qAA.mk (Kd.qA3 Od.out hb.below)
   have HG2:=qAA.mk (Nat.lt_of_lt_of_le HGd.out hb.below.size)
   clear hb
   refine hK.out _ _ ⟨(qAB R2.out 0).trans rfl,(qAB R2.out 1).trans rfl⟩ (fun hHeld => ?_)
   clear hK K
   refine qBH (a' := ?_) ?_ ?_
   rotate_left
   ·show Act.put _ (some 19) _=_
    simp only [Act.put,qs1,qs2,qs3,qAH,qAI]
    rfl
   refine qAL (i:=9) (N:=some 10) (v := ?_) (a' := ?_) #[qT,qT,qT,qT,qT,qT,qT,qT,qT,qT,qF,qF,qF,qF,qF,qF] rfl rfl (by kernel_rfl) (fun _ _ _ h=>h) (Or.inl ⟨by rfl, ?_⟩) ?_ ?_
   rotate_left
   ·intro w'
    go_simp
    with_reducible rfl
   rotate_left
   ·simp only [Act.put,qs1,qs2,qs3,qAH,qAI]
    rfl
   refine qAL (i:=10) (N:=some 20) (v := ?_) (a' := ?_) #[qT,qT,qT,qT,qT,qT,qT,qT,qT,qT,qT,qF,qF,qF,qF,qF] rfl rfl (by kernel_rfl) (fun _ _ _ h=>h) (Or.inl ⟨by rfl, ?_⟩) ?_ ?_
   rotate_left
   ·intro w'
    go_simp
    with_reducible rfl
   rotate_left
   ·simp only [Act.put,qs1,qs2,qs3,qAH,qAI]
    rfl
   refine qAL (i:=11) (N:=some 21) (v := ?_) (a' := ?_) #[qT,qT,qT,qT,qT,qT,qT,qT,qT,qT,qT,qT,qF,qF,qF,qF] rfl rfl (by kernel_rfl) (fun _ _ _ h=>h) (Or.inl ⟨by rfl, ?_⟩) ?_ ?_
   rotate_left
   ·intro w'
    go_simp
    with_reducible rfl
   rotate_left
   ·simp only [Act.put,qs1,qs2,qs3,qAH,qAI]
    rfl
   refine qAL (i:=12) (N:=some 22) (v := ?_) (a' := ?_) #[qT,qT,qT,qT,qT,qT,qT,qT,qT,qT,qT,qT,qT,qF,qF,qF] rfl rfl (by kernel_rfl) (fun _ _ _ h=>h) (Or.inl ⟨by rfl, ?_⟩) ?_ ?_
   rotate_left
   ·intro w'
    go_simp
    with_reducible rfl
   rotate_left
   ·simp only [Act.put,qs1,qs2,qs3,qAH,qAI]
    rfl
   refine qAL (i:=13) (N:=some 4) (v := ?_) (a' := ?_) #[qT,qT,qT,qT,qT,qT,qT,qT,qT,qT,qT,qT,qT,qT,qF,qF] rfl rfl (by kernel_rfl) (fun _ _ _ h=>h) (Or.inl ⟨by rfl, ?_⟩) ?_ ?_
   rotate_left
   ·intro w'
    go_simp
    with_reducible rfl
   rotate_left
   ·simp only [Act.put,qs1,qs2,qs3,qAH,qAI]
    rfl
   refine qAL (i:=14) (N:=some 5) (v := ?_) (a' := ?_) #[qT,qT,qT,qT,qT,qT,qT,qT,qT,qT,qT,qT,qT,qT,qT,qF] rfl rfl (by kernel_rfl) (fun _ _ _ h=>h) (Or.inl ⟨by rfl, ?_⟩) ?_ ?_
   rotate_left
   ·intro w'
    go_simp
    with_reducible rfl
   rotate_left
   ·simp only [Act.put,qs1,qs2,qs3,qAH,qAI]
    rfl
   refine qAL (i:=15) (N:=some 6) (v := ?_) (a' := ?_) #[qT,qT,qT,qT,qT,qT,qT,qT,qT,qT,qT,qT,qT,qT,qT,qT] rfl rfl (by kernel_rfl) (fun _ _ _ h=>h) (Or.inl ⟨by rfl, ?_⟩) ?_ ?_
   rotate_left
   ·intro w'
    go_simp
    with_reducible rfl
   rotate_left
   ·simp only [Act.put,qs1,qs2,qs3,qAH,qAI]
    rfl
   refine qBM (by kernel_rfl) ?_
   go_wp2
   obtain ⟨ad,a4_,b4_,a5_,b5_,eA,h0,_⟩:=HAT.out w2.drew (Kd.R_reads' (Kd.qA8 O2.out)).2.2;subst eA;rw [Int.toNat_natCast] at h0
   refine qAy (n:=28) (S:=fun w'=>w'.cell? ⟨g,3,none⟩=some (.slice (some ad) (k+1) cl)∧w'.cell? (ad.add (k * 6))=some (.string y.f0)) (ds:=[]) #[qF,qF,qF,qF,qF,qF,qF,qF,qF,qF,qF,qF,qF,qF,qF,qF,qF,qF,qF,qF,qF,qF,qF,qF,qF,qF,qF,qF] (by kernel_rfl) rfl rfl ⟨(qAB (show w2.drew.heap[g]?=_ from R2.out) 3).trans rfl,h0⟩ (fun hHeld => ?_)
   generalize hwd:w2.drew=wd2 at hHeld ⊢
   have R2d:=qAA.mk (hwd▸R2.out.below (qAX (Below.refl _ _)))
   have W2d:=qAA.mk (hwd▸qAX W2.out)
   have O2d:=qAA.mk (hwd▸Kd.qA8 O2.out)
   have HG2d:=qAA.mk (show g < wd2.heap.size from hwd▸HG2.out)
   have HOB:=qAA.mk (fun k hk=>((Kd.qBf O2d.out).1 k hk).2.2.1)
   clear hwd
   refine qAL (i:=0) (N:=some 31) (v := ?_) (a' := ?_) #[qT,qF,qF,qF,qF,qF,qF,qF,qF,qF,qF,qF,qF,qF,qF,qF,qF,qF,qF,qF,qF,qF,qF,qF,qF,qF,qF,qF] rfl rfl (by kernel_rfl) (fun _ _ _ h=>h) (Or.inl ⟨by rfl, ?_⟩) ?_ ?_
   rotate_left
   ·intro w'
    go_simp
    with_reducible rfl
   rotate_left
   ·simp only [Act.put,qs1,qs2,qs3,qAH,qAI]
    rfl
   refine qAL (i:=1) (N:=some 32) (v := ?_) (a' := ?_) #[qT,qT,qF,qF,qF,qF,qF,qF,qF,qF,qF,qF,qF,qF,qF,qF,qF,qF,qF,qF,qF,qF,qF,qF,qF,qF,qF,qF] rfl rfl (by kernel_rfl) (fun _ _ _ h=>h) (Or.inl ⟨by rfl, ?_⟩) ?_ ?_
   rotate_left
   ·intro w'
    go_simp
    with_reducible rfl
   rotate_left
   ·simp only [Act.put,qs1,qs2,qs3,qAH,qAI]
    rfl
   refine qAL (i:=2) (N:=some 33) (v := ?_) (a' := ?_) #[qT,qT,qT,qF,qF,qF,qF,qF,qF,qF,qF,qF,qF,qF,qF,qF,qF,qF,qF,qF,qF,qF,qF,qF,qF,qF,qF,qF] rfl rfl (by kernel_rfl) (fun _ _ _ h=>h) (Or.inl ⟨by rfl, ?_⟩) ?_ ?_
   rotate_left
   ·intro w'
    go_simp
    with_reducible rfl
   rotate_left
   ·simp only [Act.put,qs1,qs2,qs3,qAH,qAI]
    rfl
   refine qAL (i:=3) (N:=some 34) (v := ?_) (a' := ?_) #[qT,qT,qT,qT,qF,qF,qF,qF,qF,qF,qF,qF,qF,qF,qF,qF,qF,qF,qF,qF,qF,qF,qF,qF,qF,qF,qF,qF] rfl rfl (by kernel_rfl) (fun _ _ _ h=>h) (Or.inl ⟨by rfl, ?_⟩) ?_ ?_
   rotate_left
   ·intro w'
    go_simp
    with_reducible rfl
   rotate_left
   ·simp only [Act.put,qs1,qs2,qs3,qAH,qAI]
    rfl
   refine qAL (i:=4) (N:=some 35) (v := ?_) (a' := ?_) #[qT,qT,qT,qT,qT,qF,qF,qF,qF,qF,qF,qF,qF,qF,qF,qF,qF,qF,qF,qF,qF,qF,qF,qF,qF,qF,qF,qF] rfl rfl (by kernel_rfl) (fun _ _ _ h=>h) (Or.inl ⟨by rfl, ?_⟩) ?_ ?_
   rotate_left
   ·intro w'
    go_simp
    with_reducible rfl
   rotate_left
   ·simp only [Act.put,qs1,qs2,qs3,qAH,qAI]
    rfl
   refine qAL (i:=5) (N:=some 36) (v := ?_) (a' := ?_) #[qT,qT,qT,qT,qT,qT,qF,qF,qF,qF,qF,qF,qF,qF,qF,qF,qF,qF,qF,qF,qF,qF,qF,qF,qF,qF,qF,qF] rfl rfl (by kernel_rfl) (fun _ _ _ h=>h) (Or.inl ⟨by rfl, ?_⟩) ?_ ?_
   rotate_left
   ·intro w'
    go_simp
    with_reducible rfl
   rotate_left
   ·simp only [Act.put,qs1,qs2,qs3,qAH,qAI]
    rfl
   refine qAt (i:=6) (N:=some 37) (v := ?_) (a' := ?_) #[qT,qT,qT,qT,qT,qT,qT,qF,qF,qF,qF,qF,qF,qF,qF,qF,qF,qF,qF,qF,qF,qF,qF,qF,qF,qF,qF,qF] rfl rfl (by kernel_rfl) (fun _ _ _ h=>h) (Or.inl ⟨by rfl, ?_⟩) hHeld ?_ ?_
   rotate_left
   ·rintro w' ⟨s0,s1⟩
    go_simp
    with_reducible rfl
   rotate_left
   ·simp only [Act.put,qs1,qs2,qs3,qAH,qAI]
    rfl
   refine qAL (i:=7) (N:=some 38) (v := ?_) (a' := ?_) #[qT,qT,qT,qT,qT,qT,qT,qT,qF,qF,qF,qF,qF,qF,qF,qF,qF,qF,qF,qF,qF,qF,qF,qF,qF,qF,qF,qF] rfl rfl (by kernel_rfl) (fun _ _ _ h=>h) (Or.inl ⟨by rfl, ?_⟩) ?_ ?_
   rotate_left
   ·intro w'
    go_simp
    with_reducible rfl
   rotate_left
   ·simp only [Act.put,qs1,qs2,qs3,qAH,qAI]
    rfl
   refine qAL (i:=8) (N:=some 39) (v := ?_) (a' := ?_) #[qT,qT,qT,qT,qT,qT,qT,qT,qT,qF,qF,qF,qF,qF,qF,qF,qF,qF,qF,qF,qF,qF,qF,qF,qF,qF,qF,qF] rfl rfl (by kernel_rfl) (fun _ _ _ h=>h) (Or.inl ⟨by rfl, ?_⟩) ?_ ?_
   rotate_left
   ·intro w'
    go_simp
    with_reducible rfl
   rotate_left
   ·simp only [Act.put,qs1,qs2,qs3,qAH,qAI]
    rfl
   refine qAL (i:=9) (N:=some 40) (v := ?_) (a' := ?_) #[qT,qT,qT,qT,qT,qT,qT,qT,qT,qT,qF,qF,qF,qF,qF,qF,qF,qF,qF,qF,qF,qF,qF,qF,qF,qF,qF,qF] rfl rfl (by kernel_rfl) (fun _ _ _ h=>h) (Or.inl ⟨by rfl, ?_⟩) ?_ ?_
   rotate_left
   ·intro w'
    go_simp
    with_reducible rfl
   rotate_left
   ·simp only [Act.put,qs1,qs2,qs3,qAH,qAI]
    rfl
   refine qAL (i:=10) (N:=some 41) (v := ?_) (a' := ?_) #[qT,qT,qT,qT,qT,qT,qT,qT,qT,qT,qT,qF,qF,qF,qF,qF,qF,qF,qF,qF,qF,qF,qF,qF,qF,qF,qF,qF] rfl rfl (by kernel_rfl) (fun _ _ _ h=>h) (Or.inl ⟨by rfl, ?_⟩) ?_ ?_
   rotate_left
   ·intro w'
    go_simp
    with_reducible rfl
   rotate_left
   ·simp only [Act.put,qs1,qs2,qs3,qAH,qAI]
    rfl
   refine qAL (i:=11) (N:=some 42) (v := ?_) (a' := ?_) #[qT,qT,qT,qT,qT,qT,qT,qT,qT,qT,qT,qT,qF,qF,qF,qF,qF,qF,qF,qF,qF,qF,qF,qF,qF,qF,qF,qF] rfl rfl (by kernel_rfl) (fun _ _ _ h=>h) (Or.inl ⟨by rfl, ?_⟩) ?_ ?_
   rotate_left
   ·intro w'
    go_simp
    with_reducible rfl
   rotate_left
   ·simp only [Act.put,qs1,qs2,qs3,qAH,qAI]
    rfl
   refine qAL (i:=12) (N:=some 43) (v := ?_) (a' := ?_) #[qT,qT,qT,qT,qT,qT,qT,qT,qT,qT,qT,qT,qT,qF,qF,qF,qF,qF,qF,qF,qF,qF,qF,qF,qF,qF,qF,qF] rfl rfl (by kernel_rfl) (fun _ _ _ h=>h) (Or.inl ⟨by rfl, ?_⟩) ?_ ?_
   rotate_left
   ·intro w'
    go_simp
    with_reducible rfl
   rotate_left
   ·simp only [Act.put,qs1,qs2,qs3,qAH,qAI]
    rfl
   refine qAL (i:=14) (N:=some 45) (v := ?_) (a' := ?_) #[qT,qT,qT,qT,qT,qT,qT,qT,qT,qT,qT,qT,qT,qF,qT,qF,qF,qF,qF,qF,qF,qF,qF,qF,qF,qF,qF,qF] rfl rfl (by kernel_rfl) (fun _ _ _ h=>h) (Or.inl ⟨by rfl, ?_⟩) ?_ ?_
   rotate_left
   ·intro w'
    go_simp
    with_reducible rfl
   rotate_left
   ·simp only [Act.put,qs1,qs2,qs3,qAH,qAI]
    rfl
   refine qAL (i:=15) (N:=some 46) (v := ?_) (a' := ?_) #[qT,qT,qT,qT,qT,qT,qT,qT,qT,qT,qT,qT,qT,qF,qT,qT,qF,qF,qF,qF,qF,qF,qF,qF,qF,qF,qF,qF] rfl rfl (by kernel_rfl) (fun _ _ _ h=>h) (Or.inl ⟨by rfl, ?_⟩) ?_ ?_
   rotate_left
   ·intro w'
    go_simp
    with_reducible rfl
   rotate_left
   ·simp only [Act.put,qs1,qs2,qs3,qAH,qAI]
    rfl
   refine qAL (i:=16) (N:=some 47) (v := ?_) (a' := ?_) #[qT,qT,qT,qT,qT,qT,qT,qT,qT,qT,qT,qT,qT,qF,qT,qT,qT,qF,qF,qF,qF,qF,qF,qF,qF,qF,qF,qF] rfl rfl (by kernel_rfl) (fun _ _ _ h=>h) (Or.inl ⟨by rfl, ?_⟩) ?_ ?_
   rotate_left
   ·intro w'
    go_simp
    with_reducible rfl
   rotate_left
   ·simp only [Act.put,qs1,qs2,qs3,qAH,qAI]
    rfl
   refine qAL (i:=23) (N:=some 54) (v := ?_) (a' := ?_) #[qT,qT,qT,qT,qT,qT,qT,qT,qT,qT,qT,qT,qT,qF,qT,qT,qT,qF,qF,qF,qF,qF,qF,qT,qF,qF,qF,qF] rfl rfl (by kernel_rfl) (fun _ _ _ h=>h) (Or.inl ⟨by rfl, ?_⟩) ?_ ?_
   rotate_left
   ·intro w'
    go_simp
    with_reducible rfl
   rotate_left
   ·simp only [Act.put,qs1,qs2,qs3,qAH,qAI]
    rfl
   refine qAt (i:=13) (N:=some 44) (v := ?_) (a' := ?_) #[qT,qT,qT,qT,qT,qT,qT,qT,qT,qT,qT,qT,qT,qT,qT,qT,qT,qF,qF,qF,qF,qF,qF,qT,qF,qF,qF,qF] rfl rfl (by kernel_rfl) (fun _ _ _ h=>h) (Or.inl ⟨by rfl, ?_⟩) hHeld ?_ ?_
   rotate_left
   ·rintro w' ⟨s0,s1⟩
    go_simp
    with_reducible rfl
   rotate_left
   ·simp only [Act.put,qs1,qs2,qs3,qAH,qAI]
    rfl
   refine qAt (i:=17) (N:=some 48) (v := ?_) (a' := ?_) #[qT,qT,qT,qT,qT,qT,qT,qT,qT,qT,qT,qT,qT,qT,qT,qT,qT,qT,qF,qF,qF,qF,qF,qT,qF,qF,qF,qF] rfl rfl (by kernel_rfl) (fun _ _ _ h=>h) (Or.inl ⟨by rfl, ?_⟩) hHeld ?_ ?_
   rotate_left
   ·rintro w' ⟨s0,s1⟩
    go_simp
    with_reducible rfl
   rotate_left
   ·simp only [Act.put,qs1,qs2,qs3,qAH,qAI]
    rfl
   refine qAL (i:=18) (N:=some 49) (v := ?_) (a' := ?_) #[qT,qT,qT,qT,qT,qT,qT,qT,qT,qT,qT,qT,qT,qT,qT,qT,qT,qT,qT,qF,qF,qF,qF,qT,qF,qF,qF,qF] rfl rfl (by kernel_rfl) (fun _ _ _ h=>h) (Or.inl ⟨by rfl, ?_⟩) ?_ ?_
   rotate_left
   ·intro w'
    go_simp
    with_reducible rfl
   rotate_left
   ·simp only [Act.put,qs1,qs2,qs3,qAH,qAI]
    rfl
   refine qAL (i:=19) (N:=some 50) (v := ?_) (a' := ?_) #[qT,qT,qT,qT,qT,qT,qT,qT,qT,qT,qT,qT,qT,qT,qT,qT,qT,qT,qT,qT,qF,qF,qF,qT,qF,qF,qF,qF] rfl rfl (by kernel_rfl) (fun _ _ _ h=>h) (Or.inl ⟨by rfl, ?_⟩) ?_ ?_
   rotate_left
   ·intro w'
    go_simp
    with_reducible rfl
   rotate_left
   ·simp only [Act.put,qs1,qs2,qs3,qAH,qAI]
    rfl
   refine qAL (i:=20) (N:=some 51) (v := ?_) (a' := ?_) #[qT,qT,qT,qT,qT,qT,qT,qT,qT,qT,qT,qT,qT,qT,qT,qT,qT,qT,qT,qT,qT,qF,qF,qT,qF,qF,qF,qF] rfl rfl (by kernel_rfl) (fun _ _ _ h=>h) (Or.inl ⟨by rfl, ?_⟩) ?_ ?_
   rotate_left
   ·intro w'
    go_simp
    with_reducible rfl
   rotate_left
   ·simp only [Act.put,qs1,qs2,qs3,qAH,qAI]
    rfl
   refine qAL (i:=21) (N:=some 52) (v := ?_) (a' := ?_) #[qT,qT,qT,qT,qT,qT,qT,qT,qT,qT,qT,qT,qT,qT,qT,qT,qT,qT,qT,qT,qT,qT,qF,qT,qF,qF,qF,qF] rfl rfl (by kernel_rfl) (fun _ _ _ h=>h) (Or.inl ⟨by rfl, ?_⟩) ?_ ?_
   rotate_left
   ·intro w'
    go_simp
    with_reducible rfl
   rotate_left
   ·simp only [Act.put,qs1,qs2,qs3,qAH,qAI]
    rfl
   refine qAt (i:=22) (N:=some 53) (v := ?_) (a' := ?_) #[qT,qT,qT,qT,qT,qT,qT,qT,qT,qT,qT,qT,qT,qT,qT,qT,qT,qT,qT,qT,qT,qT,qT,qT,qF,qF,qF,qF] rfl rfl (by kernel_rfl) (fun _ _ _ h=>h) (Or.inl ⟨by rfl, ?_⟩) hHeld ?_ ?_
   rotate_left
   ·rintro w' ⟨s0,s1⟩
    go_simp
    with_reducible rfl
   rotate_left
   ·simp only [Act.put,qs1,qs2,qs3,qAH,qAI]
    rfl
   refine qAL (i:=24) (N:=some 55) (v := ?_) (a' := ?_) #[qT,qT,qT,qT,qT,qT,qT,qT,qT,qT,qT,qT,qT,qT,qT,qT,qT,qT,qT,qT,qT,qT,qT,qT,qT,qF,qF,qF] rfl rfl (by kernel_rfl) (fun _ _ _ h=>h) (Or.inl ⟨by rfl, ?_⟩) ?_ ?_
   rotate_left
   ·intro w'
    go_simp
    with_reducible rfl
   rotate_left
   ·simp only [Act.put,qs1,qs2,qs3,qAH,qAI]
    rfl
   refine qAL (i:=25) (N:=some 56) (v := ?_) (a' := ?_) #[qT,qT,qT,qT,qT,qT,qT,qT,qT,qT,qT,qT,qT,qT,qT,qT,qT,qT,qT,qT,qT,qT,qT,qT,qT,qT,qF,qF] rfl rfl (by kernel_rfl) (fun _ _ _ h=>h) (Or.inl ⟨by rfl, ?_⟩) ?_ ?_
   rotate_left
   ·intro w'
    go_simp
    with_reducible rfl
   rotate_left
   ·simp only [Act.put,qs1,qs2,qs3,qAH,qAI]
    rfl
   refine qAL (i:=26) (N:=some 57) (v := ?_) (a' := ?_) #[qT,qT,qT,qT,qT,qT,qT,qT,qT,qT,qT,qT,qT,qT,qT,qT,qT,qT,qT,qT,qT,qT,qT,qT,qT,qT,qT,qF] rfl rfl (by kernel_rfl) (fun _ _ _ h=>h) (Or.inl ⟨by rfl, ?_⟩) ?_ ?_
   rotate_left
   ·intro w'
    go_simp
    with_reducible rfl
   rotate_left
   ·simp only [Act.put,qs1,qs2,qs3,qAH,qAI]
    rfl
   refine qAL (i:=27) (N:=some 30) (v := ?_) (a' := ?_) #[qT,qT,qT,qT,qT,qT,qT,qT,qT,qT,qT,qT,qT,qT,qT,qT,qT,qT,qT,qT,qT,qT,qT,qT,qT,qT,qT,qT] rfl rfl (by kernel_rfl) (fun _ _ _ h=>h) (Or.inl ⟨by rfl, ?_⟩) ?_ ?_
   rotate_left
   ·intro w'
    go_simp
    with_reducible rfl
   rotate_left
   ·simp only [Act.put,qs1,qs2,qs3,qAH,qAI]
    rfl
   refine qBM (by kernel_rfl) ?_
   have z0:wd2.cell? ⟨g,0,none⟩=some (.slice B bs.length cb):=(qAB R2d.out 0).trans rfl
   go_wp2_with (first | (go_at_call 61;refine (TKB.out _ W2d.out).mono ?_;rintro e_ w3 ⟨rfl,hb⟩;have W3:=qAA.mk (qAf W2d.out W2d.out.size hb);clear hb z0))
   go_ret2
   exact ⟨rfl,qAF W3.out _⟩
  case ok =>
   obtain ⟨hv0,_,hrt,p0,p1,p2,_,_⟩:=TOK.out n1 x a2 l2 hr
   obtain ⟨KH,hKH⟩:=sa.heavy_ev s x hv0 hrt H2.out HSZ.out
   have TKO:=qAA.mk (fun (W:World) (hb2:Below w0.heap.size w0 W)=>show Calls Try.prog 61 #[.slice B bs.length cb,.int .i64 n1] W (fun e w'=>∃ v3 v4:Value,e=.returned (.tuple #[.agg #[.int .i64 x.f0,.int .i64 x.f1,.string x.f2,v3,v4],.int .i64 a2,.int .i64 0])∧sa.VRow w' (fun k=>W.heap.size≤k∧k < w'.heap.size) 8 v3 x.f3∧sa.KRow w' (fun k=>W.heap.size≤k∧k < w'.heap.size) v4 x.f4∧Below W.heap.size W w') from by have h:=TK.out W hb2 n1;rw [hr] at h;exact h)
   dsimp only
   have hhv:0≤sa.hv ⟨s,x⟩∧sa.hv ⟨s,x⟩≤4000:=by have:=hrt.2;have:=HSZ.out;unfold sa.hv;dsimp only;omega
   generalize sa.hv ⟨s,x⟩=hw at hKH hhv ⊢
   have HKH:=qAA.mk hKH
   have hwa:wrap64 (all+hw)=all+hw:=by have:=HAL.out;unfold wrap64;omega
   have hwb:IntKind.i64.wrap (all+hw)=all+hw:=(qAH _).trans hwa
   clear hr hKH hv0 hrt p0 p1 p2
   by_cases hbig:all+hw > 32768
   case pos =>
    rw [if_pos hbig]
    have d1:decide (all+hw > 32768)=true:=decide_eq_true (by omega)
    have d2:decide (32768 < all+hw)=true:=decide_eq_true (by omega)
    have HBG:=qAA.mk hbig
    clear hbig hhv
    go_enter Try.func41,Try.ntmps41
    go_wp2
    refine qAy (n:=16) (S:=fun w'=>w'.cell? ⟨g,0,none⟩=some (.slice B bs.length cb)∧w'.cell? ⟨g,1,none⟩=some (.int .i64 at_)) (ds:=[]) #[qF,qF,qF,qF,qF,qF,qF,qF,qF,qF,qF,qF,qF,qF,qF,qF] (by kernel_rfl) rfl rfl ⟨(qAB (show w.drew.heap[g]?=_ from HR.out) 0).trans rfl,(qAB (show w.drew.heap[g]?=_ from HR.out) 1).trans rfl⟩ (fun hHeld => ?_)
    generalize hwd:w.drew=wd at hHeld ⊢
    have Rd:=qAA.mk (hwd▸HR.out.below (qAX (Below.refl _ _)))
    have Wd:=qAA.mk (hwd▸qAX HW.out)
    have Od:=qAA.mk (hwd▸Kd.qA8 HO.out)
    have HGd:=qAA.mk (show g < wd.heap.size from hwd▸HGW.out)
    clear hwd
    refine qAL (i:=0) (N:=some 11) (v := ?_) (a' := ?_) #[qT,qF,qF,qF,qF,qF,qF,qF,qF,qF,qF,qF,qF,qF,qF,qF] rfl rfl (by kernel_rfl) (fun _ _ _ h=>h) (Or.inl ⟨by rfl, ?_⟩) ?_ ?_
    rotate_left
    ·intro w'
     go_simp
     with_reducible rfl
    rotate_left
    ·simp only [Act.put,qs1,qs2,qs3,qAH,qAI]
     rfl
    refine qAL (i:=1) (N:=some 12) (v := ?_) (a' := ?_) #[qT,qT,qF,qF,qF,qF,qF,qF,qF,qF,qF,qF,qF,qF,qF,qF] rfl rfl (by kernel_rfl) (fun _ _ _ h=>h) (Or.inl ⟨by rfl, ?_⟩) ?_ ?_
    rotate_left
    ·intro w'
     go_simp
     with_reducible rfl
    rotate_left
    ·simp only [Act.put,qs1,qs2,qs3,qAH,qAI]
     rfl
    refine qAL (i:=2) (N:=some 13) (v := ?_) (a' := ?_) #[qT,qT,qT,qF,qF,qF,qF,qF,qF,qF,qF,qF,qF,qF,qF,qF] rfl rfl (by kernel_rfl) (fun _ _ _ h=>h) (Or.inl ⟨by rfl, ?_⟩) ?_ ?_
    rotate_left
    ·intro w'
     go_simp
     with_reducible rfl
    rotate_left
    ·simp only [Act.put,qs1,qs2,qs3,qAH,qAI]
     rfl
    refine qAL (i:=4) (N:=some 15) (v := ?_) (a' := ?_) #[qT,qT,qT,qF,qT,qF,qF,qF,qF,qF,qF,qF,qF,qF,qF,qF] rfl rfl (by kernel_rfl) (fun _ _ _ h=>h) (Or.inl ⟨by rfl, ?_⟩) ?_ ?_
    rotate_left
    ·intro w'
     go_simp
     with_reducible rfl
    rotate_left
    ·simp only [Act.put,qs1,qs2,qs3,qAH,qAI]
     rfl
    refine qAL (i:=5) (N:=some 16) (v := ?_) (a' := ?_) #[qT,qT,qT,qF,qT,qT,qF,qF,qF,qF,qF,qF,qF,qF,qF,qF] rfl rfl (by kernel_rfl) (fun _ _ _ h=>h) (Or.inl ⟨by rfl, ?_⟩) ?_ ?_
    rotate_left
    ·intro w'
     go_simp
     with_reducible rfl
    rotate_left
    ·simp only [Act.put,qs1,qs2,qs3,qAH,qAI]
     rfl
    refine qAL (i:=6) (N:=some 17) (v := ?_) (a' := ?_) #[qT,qT,qT,qF,qT,qT,qT,qF,qF,qF,qF,qF,qF,qF,qF,qF] rfl rfl (by kernel_rfl) (fun _ _ _ h=>h) (Or.inl ⟨by rfl, ?_⟩) ?_ ?_
    rotate_left
    ·intro w'
     go_simp
     with_reducible rfl
    rotate_left
    ·simp only [Act.put,qs1,qs2,qs3,qAH,qAI]
     rfl
    refine qAt (i:=3) (N:=some 14) (v := ?_) (a' := ?_) #[qT,qT,qT,qT,qT,qT,qT,qF,qF,qF,qF,qF,qF,qF,qF,qF] rfl rfl (by kernel_rfl) (fun _ _ _ h=>h) (Or.inl ⟨by rfl, ?_⟩) hHeld ?_ ?_
    rotate_left
    ·rintro w' ⟨s0,s1⟩
     go_simp
     with_reducible rfl
    rotate_left
    ·simp only [Act.put,qs1,qs2,qs3,qAH,qAI]
     rfl
    refine qAt (i:=7) (N:=some 18) (v := ?_) (a' := ?_) #[qT,qT,qT,qT,qT,qT,qT,qT,qF,qF,qF,qF,qF,qF,qF,qF] rfl rfl (by kernel_rfl) (fun _ _ _ h=>h) (Or.inl ⟨by rfl, ?_⟩) hHeld ?_ ?_
    rotate_left
    ·rintro w' ⟨s0,s1⟩
     go_simp
     with_reducible rfl
    rotate_left
    ·simp only [Act.put,qs1,qs2,qs3,qAH,qAI]
     rfl
    refine one_ (i:=8) (N:=some 19) #[qT,qT,qT,qT,qT,qT,qT,qT,qT,qF,qF,qF,qF,qF,qF,qF] rfl rfl (by kernel_rfl) (by decide) (fun K hK => ?_)
    refine qBe Try.func60 (by kernel_rfl) rfl #[.slice B bs.length cb,.int .i64 at_,.int .i64 32] (by rfl) rfl rfl (by (try simp only [List.map_toArray,List.map_cons,List.map_nil]);first | done | rfl) ?_
    refine (TX.out wd Wd.out).mono ?_
    rintro e w2 ⟨rfl,hb⟩
    refine ⟨_,rfl, ?_⟩
    have R2:=qAA.mk (Rd.out.below hb.below)
    have W2:=qAA.mk (qAf Wd.out Wd.out.size hb.below)
    have O2:=qAA.mk (Kd.qA3 Od.out hb.below)
    have HG2:=qAA.mk (Nat.lt_of_lt_of_le HGd.out hb.below.size)
    clear hb
    refine hK.out _ _ ⟨(qAB R2.out 0).trans rfl,(qAB R2.out 1).trans rfl⟩ (fun hHeld => ?_)
    clear hK K
    refine qBH (a' := ?_) ?_ ?_
    rotate_left
    ·show Act.put _ (some 19) _=_
     simp only [Act.put,qs1,qs2,qs3,qAH,qAI]
     rfl
    refine qAL (i:=9) (N:=some 10) (v := ?_) (a' := ?_) #[qT,qT,qT,qT,qT,qT,qT,qT,qT,qT,qF,qF,qF,qF,qF,qF] rfl rfl (by kernel_rfl) (fun _ _ _ h=>h) (Or.inl ⟨by rfl, ?_⟩) ?_ ?_
    rotate_left
    ·intro w'
     go_simp
     with_reducible rfl
    rotate_left
    ·simp only [Act.put,qs1,qs2,qs3,qAH,qAI]
     rfl
    refine qAL (i:=10) (N:=some 20) (v := ?_) (a' := ?_) #[qT,qT,qT,qT,qT,qT,qT,qT,qT,qT,qT,qF,qF,qF,qF,qF] rfl rfl (by kernel_rfl) (fun _ _ _ h=>h) (Or.inl ⟨by rfl, ?_⟩) ?_ ?_
    rotate_left
    ·intro w'
     go_simp
     with_reducible rfl
    rotate_left
    ·simp only [Act.put,qs1,qs2,qs3,qAH,qAI]
     rfl
    refine qAL (i:=11) (N:=some 21) (v := ?_) (a' := ?_) #[qT,qT,qT,qT,qT,qT,qT,qT,qT,qT,qT,qT,qF,qF,qF,qF] rfl rfl (by kernel_rfl) (fun _ _ _ h=>h) (Or.inl ⟨by rfl, ?_⟩) ?_ ?_
    rotate_left
    ·intro w'
     go_simp
     with_reducible rfl
    rotate_left
    ·simp only [Act.put,qs1,qs2,qs3,qAH,qAI]
     rfl
    refine qAL (i:=12) (N:=some 22) (v := ?_) (a' := ?_) #[qT,qT,qT,qT,qT,qT,qT,qT,qT,qT,qT,qT,qT,qF,qF,qF] rfl rfl (by kernel_rfl) (fun _ _ _ h=>h) (Or.inl ⟨by rfl, ?_⟩) ?_ ?_
    rotate_left
    ·intro w'
     go_simp
     with_reducible rfl
    rotate_left
    ·simp only [Act.put,qs1,qs2,qs3,qAH,qAI]
     rfl
    refine qAL (i:=13) (N:=some 4) (v := ?_) (a' := ?_) #[qT,qT,qT,qT,qT,qT,qT,qT,qT,qT,qT,qT,qT,qT,qF,qF] rfl rfl (by kernel_rfl) (fun _ _ _ h=>h) (Or.inl ⟨by rfl, ?_⟩) ?_ ?_
    rotate_left
    ·intro w'
     go_simp
     with_reducible rfl
    rotate_left
    ·simp only [Act.put,qs1,qs2,qs3,qAH,qAI]
     rfl
    refine qAL (i:=14) (N:=some 5) (v := ?_) (a' := ?_) #[qT,qT,qT,qT,qT,qT,qT,qT,qT,qT,qT,qT,qT,qT,qT,qF] rfl rfl (by kernel_rfl) (fun _ _ _ h=>h) (Or.inl ⟨by rfl, ?_⟩) ?_ ?_
    rotate_left
    ·intro w'
     go_simp
     with_reducible rfl
    rotate_left
    ·simp only [Act.put,qs1,qs2,qs3,qAH,qAI]
     rfl
    refine qAL (i:=15) (N:=some 6) (v := ?_) (a' := ?_) #[qT,qT,qT,qT,qT,qT,qT,qT,qT,qT,qT,qT,qT,qT,qT,qT] rfl rfl (by kernel_rfl) (fun _ _ _ h=>h) (Or.inl ⟨by rfl, ?_⟩) ?_ ?_
    rotate_left
    ·intro w'
     go_simp
     with_reducible rfl
    rotate_left
    ·simp only [Act.put,qs1,qs2,qs3,qAH,qAI]
     rfl
    refine qBM (by kernel_rfl) ?_
    go_wp2
    obtain ⟨ad,a4_,b4_,a5_,b5_,eA,h0,_⟩:=HAT.out w2.drew (Kd.R_reads' (Kd.qA8 O2.out)).2.2;subst eA;rw [Int.toNat_natCast] at h0
    refine qAy (n:=28) (S:=fun w'=>w'.cell? ⟨g,3,none⟩=some (.slice (some ad) (k+1) cl)∧w'.cell? (ad.add (k * 6))=some (.string y.f0)) (ds:=[]) #[qF,qF,qF,qF,qF,qF,qF,qF,qF,qF,qF,qF,qF,qF,qF,qF,qF,qF,qF,qF,qF,qF,qF,qF,qF,qF,qF,qF] (by kernel_rfl) rfl rfl ⟨(qAB (show w2.drew.heap[g]?=_ from R2.out) 3).trans rfl,h0⟩ (fun hHeld => ?_)
    generalize hwd:w2.drew=wd2 at hHeld ⊢
    have R2d:=qAA.mk (hwd▸R2.out.below (qAX (Below.refl _ _)))
    have W2d:=qAA.mk (hwd▸qAX W2.out)
    have O2d:=qAA.mk (hwd▸Kd.qA8 O2.out)
    have HG2d:=qAA.mk (show g < wd2.heap.size from hwd▸HG2.out)
    have HOB:=qAA.mk (fun k hk=>((Kd.qBf O2d.out).1 k hk).2.2.1)
    clear hwd
    refine qAL (i:=0) (N:=some 31) (v := ?_) (a' := ?_) #[qT,qF,qF,qF,qF,qF,qF,qF,qF,qF,qF,qF,qF,qF,qF,qF,qF,qF,qF,qF,qF,qF,qF,qF,qF,qF,qF,qF] rfl rfl (by kernel_rfl) (fun _ _ _ h=>h) (Or.inl ⟨by rfl, ?_⟩) ?_ ?_
    rotate_left
    ·intro w'
     go_simp
     with_reducible rfl
    rotate_left
    ·simp only [Act.put,qs1,qs2,qs3,qAH,qAI]
     rfl
    refine qAL (i:=1) (N:=some 32) (v := ?_) (a' := ?_) #[qT,qT,qF,qF,qF,qF,qF,qF,qF,qF,qF,qF,qF,qF,qF,qF,qF,qF,qF,qF,qF,qF,qF,qF,qF,qF,qF,qF] rfl rfl (by kernel_rfl) (fun _ _ _ h=>h) (Or.inl ⟨by rfl, ?_⟩) ?_ ?_
    rotate_left
    ·intro w'
     go_simp
     with_reducible rfl
    rotate_left
    ·simp only [Act.put,qs1,qs2,qs3,qAH,qAI]
     rfl
    refine qAL (i:=2) (N:=some 33) (v := ?_) (a' := ?_) #[qT,qT,qT,qF,qF,qF,qF,qF,qF,qF,qF,qF,qF,qF,qF,qF,qF,qF,qF,qF,qF,qF,qF,qF,qF,qF,qF,qF] rfl rfl (by kernel_rfl) (fun _ _ _ h=>h) (Or.inl ⟨by rfl, ?_⟩) ?_ ?_
    rotate_left
    ·intro w'
     go_simp
     with_reducible rfl
    rotate_left
    ·simp only [Act.put,qs1,qs2,qs3,qAH,qAI]
     rfl
    refine qAL (i:=3) (N:=some 34) (v := ?_) (a' := ?_) #[qT,qT,qT,qT,qF,qF,qF,qF,qF,qF,qF,qF,qF,qF,qF,qF,qF,qF,qF,qF,qF,qF,qF,qF,qF,qF,qF,qF] rfl rfl (by kernel_rfl) (fun _ _ _ h=>h) (Or.inl ⟨by rfl, ?_⟩) ?_ ?_
    rotate_left
    ·intro w'
     go_simp
     with_reducible rfl
    rotate_left
    ·simp only [Act.put,qs1,qs2,qs3,qAH,qAI]
     rfl
    refine qAL (i:=4) (N:=some 35) (v := ?_) (a' := ?_) #[qT,qT,qT,qT,qT,qF,qF,qF,qF,qF,qF,qF,qF,qF,qF,qF,qF,qF,qF,qF,qF,qF,qF,qF,qF,qF,qF,qF] rfl rfl (by kernel_rfl) (fun _ _ _ h=>h) (Or.inl ⟨by rfl, ?_⟩) ?_ ?_
    rotate_left
    ·intro w'
     go_simp
     with_reducible rfl
    rotate_left
    ·simp only [Act.put,qs1,qs2,qs3,qAH,qAI]
     rfl
    refine qAL (i:=5) (N:=some 36) (v := ?_) (a' := ?_) #[qT,qT,qT,qT,qT,qT,qF,qF,qF,qF,qF,qF,qF,qF,qF,qF,qF,qF,qF,qF,qF,qF,qF,qF,qF,qF,qF,qF] rfl rfl (by kernel_rfl) (fun _ _ _ h=>h) (Or.inl ⟨by rfl, ?_⟩) ?_ ?_
    rotate_left
    ·intro w'
     go_simp
     with_reducible rfl
    rotate_left
    ·simp only [Act.put,qs1,qs2,qs3,qAH,qAI]
     rfl
    refine qAt (i:=6) (N:=some 37) (v := ?_) (a' := ?_) #[qT,qT,qT,qT,qT,qT,qT,qF,qF,qF,qF,qF,qF,qF,qF,qF,qF,qF,qF,qF,qF,qF,qF,qF,qF,qF,qF,qF] rfl rfl (by kernel_rfl) (fun _ _ _ h=>h) (Or.inl ⟨by rfl, ?_⟩) hHeld ?_ ?_
    rotate_left
    ·rintro w' ⟨s0,s1⟩
     go_simp
     with_reducible rfl
    rotate_left
    ·simp only [Act.put,qs1,qs2,qs3,qAH,qAI]
     rfl
    refine qAL (i:=7) (N:=some 38) (v := ?_) (a' := ?_) #[qT,qT,qT,qT,qT,qT,qT,qT,qF,qF,qF,qF,qF,qF,qF,qF,qF,qF,qF,qF,qF,qF,qF,qF,qF,qF,qF,qF] rfl rfl (by kernel_rfl) (fun _ _ _ h=>h) (Or.inl ⟨by rfl, ?_⟩) ?_ ?_
    rotate_left
    ·intro w'
     go_simp
     with_reducible rfl
    rotate_left
    ·simp only [Act.put,qs1,qs2,qs3,qAH,qAI]
     rfl
    refine qAL (i:=8) (N:=some 39) (v := ?_) (a' := ?_) #[qT,qT,qT,qT,qT,qT,qT,qT,qT,qF,qF,qF,qF,qF,qF,qF,qF,qF,qF,qF,qF,qF,qF,qF,qF,qF,qF,qF] rfl rfl (by kernel_rfl) (fun _ _ _ h=>h) (Or.inl ⟨by rfl, ?_⟩) ?_ ?_
    rotate_left
    ·intro w'
     go_simp
     with_reducible rfl
    rotate_left
    ·simp only [Act.put,qs1,qs2,qs3,qAH,qAI]
     rfl
    refine qAL (i:=9) (N:=some 40) (v := ?_) (a' := ?_) #[qT,qT,qT,qT,qT,qT,qT,qT,qT,qT,qF,qF,qF,qF,qF,qF,qF,qF,qF,qF,qF,qF,qF,qF,qF,qF,qF,qF] rfl rfl (by kernel_rfl) (fun _ _ _ h=>h) (Or.inl ⟨by rfl, ?_⟩) ?_ ?_
    rotate_left
    ·intro w'
     go_simp
     with_reducible rfl
    rotate_left
    ·simp only [Act.put,qs1,qs2,qs3,qAH,qAI]
     rfl
    refine qAL (i:=10) (N:=some 41) (v := ?_) (a' := ?_) #[qT,qT,qT,qT,qT,qT,qT,qT,qT,qT,qT,qF,qF,qF,qF,qF,qF,qF,qF,qF,qF,qF,qF,qF,qF,qF,qF,qF] rfl rfl (by kernel_rfl) (fun _ _ _ h=>h) (Or.inl ⟨by rfl, ?_⟩) ?_ ?_
    rotate_left
    ·intro w'
     go_simp
     with_reducible rfl
    rotate_left
    ·simp only [Act.put,qs1,qs2,qs3,qAH,qAI]
     rfl
    refine qAL (i:=11) (N:=some 42) (v := ?_) (a' := ?_) #[qT,qT,qT,qT,qT,qT,qT,qT,qT,qT,qT,qT,qF,qF,qF,qF,qF,qF,qF,qF,qF,qF,qF,qF,qF,qF,qF,qF] rfl rfl (by kernel_rfl) (fun _ _ _ h=>h) (Or.inl ⟨by rfl, ?_⟩) ?_ ?_
    rotate_left
    ·intro w'
     go_simp
     with_reducible rfl
    rotate_left
    ·simp only [Act.put,qs1,qs2,qs3,qAH,qAI]
     rfl
    refine qAL (i:=12) (N:=some 43) (v := ?_) (a' := ?_) #[qT,qT,qT,qT,qT,qT,qT,qT,qT,qT,qT,qT,qT,qF,qF,qF,qF,qF,qF,qF,qF,qF,qF,qF,qF,qF,qF,qF] rfl rfl (by kernel_rfl) (fun _ _ _ h=>h) (Or.inl ⟨by rfl, ?_⟩) ?_ ?_
    rotate_left
    ·intro w'
     go_simp
     with_reducible rfl
    rotate_left
    ·simp only [Act.put,qs1,qs2,qs3,qAH,qAI]
     rfl
    refine qAL (i:=14) (N:=some 45) (v := ?_) (a' := ?_) #[qT,qT,qT,qT,qT,qT,qT,qT,qT,qT,qT,qT,qT,qF,qT,qF,qF,qF,qF,qF,qF,qF,qF,qF,qF,qF,qF,qF] rfl rfl (by kernel_rfl) (fun _ _ _ h=>h) (Or.inl ⟨by rfl, ?_⟩) ?_ ?_
    rotate_left
    ·intro w'
     go_simp
     with_reducible rfl
    rotate_left
    ·simp only [Act.put,qs1,qs2,qs3,qAH,qAI]
     rfl
    refine qAL (i:=15) (N:=some 46) (v := ?_) (a' := ?_) #[qT,qT,qT,qT,qT,qT,qT,qT,qT,qT,qT,qT,qT,qF,qT,qT,qF,qF,qF,qF,qF,qF,qF,qF,qF,qF,qF,qF] rfl rfl (by kernel_rfl) (fun _ _ _ h=>h) (Or.inl ⟨by rfl, ?_⟩) ?_ ?_
    rotate_left
    ·intro w'
     go_simp
     with_reducible rfl
    rotate_left
    ·simp only [Act.put,qs1,qs2,qs3,qAH,qAI]
     rfl
    refine qAL (i:=16) (N:=some 47) (v := ?_) (a' := ?_) #[qT,qT,qT,qT,qT,qT,qT,qT,qT,qT,qT,qT,qT,qF,qT,qT,qT,qF,qF,qF,qF,qF,qF,qF,qF,qF,qF,qF] rfl rfl (by kernel_rfl) (fun _ _ _ h=>h) (Or.inl ⟨by rfl, ?_⟩) ?_ ?_
    rotate_left
    ·intro w'
     go_simp
     with_reducible rfl
    rotate_left
    ·simp only [Act.put,qs1,qs2,qs3,qAH,qAI]
     rfl
    refine qAL (i:=23) (N:=some 54) (v := ?_) (a' := ?_) #[qT,qT,qT,qT,qT,qT,qT,qT,qT,qT,qT,qT,qT,qF,qT,qT,qT,qF,qF,qF,qF,qF,qF,qT,qF,qF,qF,qF] rfl rfl (by kernel_rfl) (fun _ _ _ h=>h) (Or.inl ⟨by rfl, ?_⟩) ?_ ?_
    rotate_left
    ·intro w'
     go_simp
     with_reducible rfl
    rotate_left
    ·simp only [Act.put,qs1,qs2,qs3,qAH,qAI]
     rfl
    refine qAt (i:=13) (N:=some 44) (v := ?_) (a' := ?_) #[qT,qT,qT,qT,qT,qT,qT,qT,qT,qT,qT,qT,qT,qT,qT,qT,qT,qF,qF,qF,qF,qF,qF,qT,qF,qF,qF,qF] rfl rfl (by kernel_rfl) (fun _ _ _ h=>h) (Or.inl ⟨by rfl, ?_⟩) hHeld ?_ ?_
    rotate_left
    ·rintro w' ⟨s0,s1⟩
     go_simp
     with_reducible rfl
    rotate_left
    ·simp only [Act.put,qs1,qs2,qs3,qAH,qAI]
     rfl
    refine qAt (i:=17) (N:=some 48) (v := ?_) (a' := ?_) #[qT,qT,qT,qT,qT,qT,qT,qT,qT,qT,qT,qT,qT,qT,qT,qT,qT,qT,qF,qF,qF,qF,qF,qT,qF,qF,qF,qF] rfl rfl (by kernel_rfl) (fun _ _ _ h=>h) (Or.inl ⟨by rfl, ?_⟩) hHeld ?_ ?_
    rotate_left
    ·rintro w' ⟨s0,s1⟩
     go_simp
     with_reducible rfl
    rotate_left
    ·simp only [Act.put,qs1,qs2,qs3,qAH,qAI]
     rfl
    refine qAL (i:=18) (N:=some 49) (v := ?_) (a' := ?_) #[qT,qT,qT,qT,qT,qT,qT,qT,qT,qT,qT,qT,qT,qT,qT,qT,qT,qT,qT,qF,qF,qF,qF,qT,qF,qF,qF,qF] rfl rfl (by kernel_rfl) (fun _ _ _ h=>h) (Or.inl ⟨by rfl, ?_⟩) ?_ ?_
    rotate_left
    ·intro w'
     go_simp
     with_reducible rfl
    rotate_left
    ·simp only [Act.put,qs1,qs2,qs3,qAH,qAI]
     rfl
    refine qAL (i:=19) (N:=some 50) (v := ?_) (a' := ?_) #[qT,qT,qT,qT,qT,qT,qT,qT,qT,qT,qT,qT,qT,qT,qT,qT,qT,qT,qT,qT,qF,qF,qF,qT,qF,qF,qF,qF] rfl rfl (by kernel_rfl) (fun _ _ _ h=>h) (Or.inl ⟨by rfl, ?_⟩) ?_ ?_
    rotate_left
    ·intro w'
     go_simp
     with_reducible rfl
    rotate_left
    ·simp only [Act.put,qs1,qs2,qs3,qAH,qAI]
     rfl
    refine qAL (i:=20) (N:=some 51) (v := ?_) (a' := ?_) #[qT,qT,qT,qT,qT,qT,qT,qT,qT,qT,qT,qT,qT,qT,qT,qT,qT,qT,qT,qT,qT,qF,qF,qT,qF,qF,qF,qF] rfl rfl (by kernel_rfl) (fun _ _ _ h=>h) (Or.inl ⟨by rfl, ?_⟩) ?_ ?_
    rotate_left
    ·intro w'
     go_simp
     with_reducible rfl
    rotate_left
    ·simp only [Act.put,qs1,qs2,qs3,qAH,qAI]
     rfl
    refine qAL (i:=21) (N:=some 52) (v := ?_) (a' := ?_) #[qT,qT,qT,qT,qT,qT,qT,qT,qT,qT,qT,qT,qT,qT,qT,qT,qT,qT,qT,qT,qT,qT,qF,qT,qF,qF,qF,qF] rfl rfl (by kernel_rfl) (fun _ _ _ h=>h) (Or.inl ⟨by rfl, ?_⟩) ?_ ?_
    rotate_left
    ·intro w'
     go_simp
     with_reducible rfl
    rotate_left
    ·simp only [Act.put,qs1,qs2,qs3,qAH,qAI]
     rfl
    refine qAt (i:=22) (N:=some 53) (v := ?_) (a' := ?_) #[qT,qT,qT,qT,qT,qT,qT,qT,qT,qT,qT,qT,qT,qT,qT,qT,qT,qT,qT,qT,qT,qT,qT,qT,qF,qF,qF,qF] rfl rfl (by kernel_rfl) (fun _ _ _ h=>h) (Or.inl ⟨by rfl, ?_⟩) hHeld ?_ ?_
    rotate_left
    ·rintro w' ⟨s0,s1⟩
     go_simp
     with_reducible rfl
    rotate_left
    ·simp only [Act.put,qs1,qs2,qs3,qAH,qAI]
     rfl
    refine qAL (i:=24) (N:=some 55) (v := ?_) (a' := ?_) #[qT,qT,qT,qT,qT,qT,qT,qT,qT,qT,qT,qT,qT,qT,qT,qT,qT,qT,qT,qT,qT,qT,qT,qT,qT,qF,qF,qF] rfl rfl (by kernel_rfl) (fun _ _ _ h=>h) (Or.inl ⟨by rfl, ?_⟩) ?_ ?_
    rotate_left
    ·intro w'
     go_simp
     with_reducible rfl
    rotate_left
    ·simp only [Act.put,qs1,qs2,qs3,qAH,qAI]
     rfl
    refine qAL (i:=25) (N:=some 56) (v := ?_) (a' := ?_) #[qT,qT,qT,qT,qT,qT,qT,qT,qT,qT,qT,qT,qT,qT,qT,qT,qT,qT,qT,qT,qT,qT,qT,qT,qT,qT,qF,qF] rfl rfl (by kernel_rfl) (fun _ _ _ h=>h) (Or.inl ⟨by rfl, ?_⟩) ?_ ?_
    rotate_left
    ·intro w'
     go_simp
     with_reducible rfl
    rotate_left
    ·simp only [Act.put,qs1,qs2,qs3,qAH,qAI]
     rfl
    refine qAL (i:=26) (N:=some 57) (v := ?_) (a' := ?_) #[qT,qT,qT,qT,qT,qT,qT,qT,qT,qT,qT,qT,qT,qT,qT,qT,qT,qT,qT,qT,qT,qT,qT,qT,qT,qT,qT,qF] rfl rfl (by kernel_rfl) (fun _ _ _ h=>h) (Or.inl ⟨by rfl, ?_⟩) ?_ ?_
    rotate_left
    ·intro w'
     go_simp
     with_reducible rfl
    rotate_left
    ·simp only [Act.put,qs1,qs2,qs3,qAH,qAI]
     rfl
    refine qAL (i:=27) (N:=some 30) (v := ?_) (a' := ?_) #[qT,qT,qT,qT,qT,qT,qT,qT,qT,qT,qT,qT,qT,qT,qT,qT,qT,qT,qT,qT,qT,qT,qT,qT,qT,qT,qT,qT] rfl rfl (by kernel_rfl) (fun _ _ _ h=>h) (Or.inl ⟨by rfl, ?_⟩) ?_ ?_
    rotate_left
    ·intro w'
     go_simp
     with_reducible rfl
    rotate_left
    ·simp only [Act.put,qs1,qs2,qs3,qAH,qAI]
     rfl
    refine qBM (by kernel_rfl) ?_
    have z0:wd2.cell? ⟨g,0,none⟩=some (.slice B bs.length cb):=(qAB R2d.out 0).trans rfl
    go_wp2_with (first | (go_at_call 61;refine (TKO.out _ W2d.out).mono ?_;rintro e_ w3 ⟨v3,v4,rfl,h3,h4,hb⟩;obtain ⟨A3,c3,e3,l3,C3⟩:=h3.C 8;obtain ⟨A4,c4,e4,l4,C4⟩:=h4.C;subst e3;subst e4;have KT3:=qAA.mk (sa.kt_got2 W2d.out.size h3 h4);have HS3:=qAA.mk hb.size;have K3:=qAA.mk C3;have K4:=qAA.mk C4;have L3:=qAA.mk l3;have L4:=qAA.mk l4;have W3:=qAA.mk (qAf W2d.out W2d.out.size hb);have R3:=qAA.mk (R2d.out.below hb);have O3:=qAA.mk (Kd.qA3 O2d.out hb);clear hb h3 h4 C3 C4 l3 l4 z0))
    have B5:=qAA.mk (show Below w3.heap.size w3 ((w3.alloc (.cells #[.int .i64 x.f0,.int .i64 x.f1,.string x.f2,.slice A3 x.f3.length c3,.slice A4 x.f4.length c4] 34)).alloc (.cells #[.string s,.int .i64 x.f0,.int .i64 x.f1,.string x.f2,.slice A3 x.f3.length c3,.slice A4 x.f4.length c4] 51)) from qAF (qAF (Below.refl _ _) _) _)
    have X5:=qAA.mk (show ((w3.alloc (.cells #[.int .i64 x.f0,.int .i64 x.f1,.string x.f2,.slice A3 x.f3.length c3,.slice A4 x.f4.length c4] 34)).alloc (.cells #[.string s,.int .i64 x.f0,.int .i64 x.f1,.string x.f2,.slice A3 x.f3.length c3,.slice A4 x.f4.length c4] 51)).heap[w3.heap.size+1]?=some (.cells #[.string s,.int .i64 x.f0,.int .i64 x.f1,.string x.f2,.slice A3 x.f3.length c3,.slice A4 x.f4.length c4] 51 (0,0)) from by simpa using heap_alloc_new (w3.alloc (.cells #[.int .i64 x.f0,.int .i64 x.f1,.string x.f2,.slice A3 x.f3.length c3,.slice A4 x.f4.length c4] 34)) (.cells #[.string s,.int .i64 x.f0,.int .i64 x.f1,.string x.f2,.slice A3 x.f3.length c3,.slice A4 x.f4.length c4] 51))
    generalize (w3.alloc (.cells #[.int .i64 x.f0,.int .i64 x.f1,.string x.f2,.slice A3 x.f3.length c3,.slice A4 x.f4.length c4] 34)).alloc (.cells #[.string s,.int .i64 x.f0,.int .i64 x.f1,.string x.f2,.slice A3 x.f3.length c3,.slice A4 x.f4.length c4] 51)=w5 at *
    have W5:=qAA.mk (qAf W3.out W3.out.size B5.out)
    have R5:=qAA.mk (R3.out.below B5.out)
    have Q5:=qAA.mk (Kd.qA3 O3.out B5.out)
    have KT5:=qAA.mk (Kd.qBg KT3.out B5.out)
    have J3:=qAA.mk (Kd.qAZ K3.out B5.out)
    have J4:=qAA.mk (Kd.qAZ K4.out B5.out)
    have HGX:=qAA.mk (show w3.heap.size+1 ≠ g from by have:=HG2d.out;have:=HS3.out;omega)
    have HGX2:=qAA.mk (show wd2.heap.size≤w3.heap.size+1 from by have:=HS3.out;omega)
    generalize w3.heap.size+1=gx at *
    clear K3 K4 R3 O3 KT3 B5 HS3 W3
    refine qAy (n:=10) (S:=fun w'=>w'.cell? ⟨g,2,none⟩=some (.int .i64 all)∧w'.cell? ⟨gx,0,none⟩=some (.string s)∧w'.cell? ⟨gx,1,none⟩=some (.int .i64 x.f0)∧w'.cell? ⟨gx,2,none⟩=some (.int .i64 x.f1)∧w'.cell? ⟨gx,3,none⟩=some (.string x.f2)∧w'.cell? ⟨gx,4,none⟩=some (.slice A3 x.f3.length c3)∧w'.cell? ⟨gx,5,none⟩=some (.slice A4 x.f4.length c4)) (ds:=[9]) #[qF,qF,qF,qF,qF,qF,qF,qF,qF,qF] (by kernel_rfl) rfl rfl ⟨(qAB (show w5.drew.heap[g]?=_ from R5.out) 2).trans rfl,(qAB (qAO X5.out) 0).trans rfl,(qAB (qAO X5.out) 1).trans rfl,(qAB (qAO X5.out) 2).trans rfl,(qAB (qAO X5.out) 3).trans rfl,(qAB (qAO X5.out) 4).trans rfl,(qAB (qAO X5.out) 5).trans rfl⟩ (fun hHeld => ?_)
    generalize hwd:w5.drew=wd5 at hHeld ⊢
    have R6:=qAA.mk (hwd▸R5.out.below (qAX (Below.refl _ _)))
    have W6:=qAA.mk (hwd▸qAX W5.out)
    have Q6:=qAA.mk (hwd▸Kd.qA8 Q5.out)
    have KT6:=qAA.mk (hwd▸Kd.qBg KT5.out (qAX (Below.refl _ _)))
    have X6:=qAA.mk (hwd▸qAO X5.out)
    have I3:=qAA.mk (hwd▸Kd.qAo J3.out)
    have I4:=qAA.mk (hwd▸Kd.qAo J4.out)
    clear hwd R5 W5 Q5 KT5 X5 J3 J4
    refine qAL (i:=0) (N:=some 78) (v := ?_) (a' := ?_) #[qT,qF,qF,qF,qF,qF,qF,qF,qF,qF] rfl rfl (by kernel_rfl) (fun _ _ _ h=>h) (Or.inl ⟨by rfl, ?_⟩) ?_ ?_
    rotate_left
    ·intro w'
     go_simp
     with_reducible rfl
    rotate_left
    ·simp only [Act.put,qs1,qs2,qs3,qAH,qAI]
     rfl
    refine qAL (i:=1) (N:=some 79) (v := ?_) (a' := ?_) #[qT,qT,qF,qF,qF,qF,qF,qF,qF,qF] rfl rfl (by kernel_rfl) (fun _ _ _ h=>h) (Or.inl ⟨by rfl, ?_⟩) ?_ ?_
    rotate_left
    ·intro w'
     go_simp
     with_reducible rfl
    rotate_left
    ·simp only [Act.put,qs1,qs2,qs3,qAH,qAI]
     rfl
    refine qAL (i:=2) (N:=some 80) (v := ?_) (a' := ?_) #[qT,qT,qT,qF,qF,qF,qF,qF,qF,qF] rfl rfl (by kernel_rfl) (fun _ _ _ h=>h) (Or.inl ⟨by rfl, ?_⟩) ?_ ?_
    rotate_left
    ·intro w'
     go_simp
     with_reducible rfl
    rotate_left
    ·simp only [Act.put,qs1,qs2,qs3,qAH,qAI]
     rfl
    refine qAt (i:=3) (N:=some 81) (v := ?_) (a' := ?_) #[qT,qT,qT,qT,qF,qF,qF,qF,qF,qF] rfl rfl (by kernel_rfl) (fun _ _ _ h=>h) (Or.inl ⟨by rfl, ?_⟩) hHeld ?_ ?_
    rotate_left
    ·rintro w' ⟨s0,s1,s2,s3,s4,s5,s6⟩
     go_simp
     with_reducible rfl
    rotate_left
    ·simp only [Act.put,qs1,qs2,qs3,qAH,qAI]
     rfl
    refine qAt (i:=4) (N:=some 82) (v := ?_) (a' := ?_) #[qT,qT,qT,qT,qT,qF,qF,qF,qF,qF] rfl rfl (by kernel_rfl) (fun _ _ _ h=>h) (Or.inl ⟨by rfl, ?_⟩) hHeld ?_ ?_
    rotate_left
    ·rintro w' ⟨s0,s1,s2,s3,s4,s5,s6⟩
     go_simp
     with_reducible rfl
    rotate_left
    ·simp only [Act.put,qs1,qs2,qs3,qAH,qAI]
     rfl
    refine one_ (i:=5) (N:=some 83) #[qT,qT,qT,qT,qT,qT,qF,qF,qF,qF] rfl rfl (by kernel_rfl) (by decide) (fun K hK => ?_)
    refine qBe Try.func49 (by kernel_rfl) rfl #[.agg #[.string s,.int .i64 x.f0,.int .i64 x.f1,.string x.f2,.slice A3 x.f3.length c3,.slice A4 x.f4.length c4]] (by rfl) rfl rfl (by (try simp only [List.map_toArray,List.map_cons,List.map_nil]);first | done | rfl) ?_
    refine (qAu.calls KH s x.f0 x.f1 x.f2 A3 c3 x.f3 A4 c4 x.f4 hw wd5 I3.out L3.out I4.out L4.out HKH.out).mono ?_
    rintro e w7 ⟨rfl,hb⟩
    refine ⟨_,rfl, ?_⟩
    have R7:=qAA.mk (R6.out.below hb)
    have W7:=qAA.mk (qAf W6.out W6.out.size hb)
    have Q7:=qAA.mk (Kd.qA3 Q6.out hb)
    have KT7:=qAA.mk (Kd.qBg KT6.out hb)
    have X7:=qAA.mk (qAb X6.out hb)
    clear hb
    have s2:=(qAB R7.out 2).trans rfl
    have s2f:=qAC R7.out 2
    refine hK.out _ _ ⟨(qAB R7.out 2).trans rfl,(qAB X7.out 0).trans rfl,(qAB X7.out 1).trans rfl,(qAB X7.out 2).trans rfl,(qAB X7.out 3).trans rfl,(qAB X7.out 4).trans rfl,(qAB X7.out 5).trans rfl⟩ (fun hHeld => ?_)
    clear hK K
    refine qBH (a' := ?_) ?_ ?_
    rotate_left
    ·show Act.put _ (some 83) _=_
     simp only [Act.put,qs1,qs2,qs3,qAH,qAI]
     rfl
    refine qAL (i:=6) (N:=some 84) (v := ?_) (a' := ?_) #[qT,qT,qT,qT,qT,qT,qT,qF,qF,qF] rfl rfl (by kernel_rfl) (fun _ _ _ h=>h) (Or.inl ⟨by rfl, ?_⟩) ?_ ?_
    rotate_left
    ·intro w'
     go_simp
     with_reducible rfl
    rotate_left
    ·simp only [Act.put,qs1,qs2,qs3,qAH,qAI]
     rfl
    refine qAL (i:=7) (N:=some 85) (v := ?_) (a' := ?_) #[qT,qT,qT,qT,qT,qT,qT,qT,qF,qF] rfl rfl (by kernel_rfl) (fun _ _ _ h=>h) (Or.inl ⟨by rfl, ?_⟩) ?_ ?_
    rotate_left
    ·intro w'
     go_simp
     with_reducible rfl
    rotate_left
    ·simp only [Act.put,qs1,qs2,qs3,qAH,qAI]
     rfl
    refine qAL (i:=8) (N:=some 86) (v := ?_) (a' := ?_) #[qT,qT,qT,qT,qT,qT,qT,qT,qT,qF] rfl rfl (by kernel_rfl) (fun _ _ _ h=>h) (Or.inl ⟨by rfl, ?_⟩) ?_ ?_
    rotate_left
    ·intro w'
     go_simp
     with_reducible rfl
    rotate_left
    ·simp only [Act.put,qs1,qs2,qs3,qAH,qAI]
     rfl
    refine last_ (i:=9) (N:=none) #[qT,qT,qT,qT,qT,qT,qT,qT,qT,qT] rfl rfl (by kernel_rfl) (by decide) (fun K hK => ?_)
    refine skip_ (w1 := ?_) (by rfl) rfl ?_ ?_
    rotate_left
    ·go_simp
     rfl
    clear s2 s2f
    refine hK.out _ _ ?_
    clear hK K
    refine qBM (by kernel_rfl) ?_
    have R8:=qAA.mk (show sa.RB7 (w7.setCell ⟨g,2,none⟩ (.int .i64 (all+hw))) g B bs.length cb at_ (all+hw) (.slice (some ad) (k+1) cl) from qAz R7.out 2 _ rfl)
    have W8:=qAA.mk (show Below w0.heap.size w0 (w7.setCell ⟨g,2,none⟩ (.int .i64 (all+hw))) from qAP W7.out HG.out)
    have Q8:=qAA.mk (Kd.R_far Q7.out (p:=⟨g,2,none⟩) (fun k hk=>hk) (.int .i64 (all+hw)))
    have KT8:=qAA.mk (Kd.M_far KT7.out (p:=⟨g,2,none⟩) (fun k hk=>by have:=HG2d.out;dsimp only;omega) (.int .i64 (all+hw)))
    have X8:=qAA.mk ((Below.heap_setCell w7 ⟨g,2,none⟩ (.int .i64 (all+hw)) gx HGX.out).trans X7.out)
    generalize w7.setCell ⟨g,2,none⟩ (.int .i64 (all+hw))=w8 at *
    have z2:w8.cell? ⟨g,2,none⟩=some (.int .i64 (all+hw)):=(qAB R8.out 2).trans rfl
    have z1:w8.cell? ⟨g,1,none⟩=some (.int .i64 at_):=(qAB R8.out 1).trans rfl
    go_wp2
    go_ret2
    exact ⟨rfl,W8.out⟩
   case neg =>
    rw [if_neg hbig]
    have d1:decide (all+hw > 32768)=false:=decide_eq_false (by omega)
    have d2:decide (32768 < all+hw)=false:=decide_eq_false (by omega)
    have HBG:=qAA.mk hbig
    clear hbig hhv
    go_enter Try.func41,Try.ntmps41
    go_wp2
    refine qAy (n:=16) (S:=fun w'=>w'.cell? ⟨g,0,none⟩=some (.slice B bs.length cb)∧w'.cell? ⟨g,1,none⟩=some (.int .i64 at_)) (ds:=[]) #[qF,qF,qF,qF,qF,qF,qF,qF,qF,qF,qF,qF,qF,qF,qF,qF] (by kernel_rfl) rfl rfl ⟨(qAB (show w.drew.heap[g]?=_ from HR.out) 0).trans rfl,(qAB (show w.drew.heap[g]?=_ from HR.out) 1).trans rfl⟩ (fun hHeld => ?_)
    generalize hwd:w.drew=wd at hHeld ⊢
    have Rd:=qAA.mk (hwd▸HR.out.below (qAX (Below.refl _ _)))
    have Wd:=qAA.mk (hwd▸qAX HW.out)
    have Od:=qAA.mk (hwd▸Kd.qA8 HO.out)
    have HGd:=qAA.mk (show g < wd.heap.size from hwd▸HGW.out)
    clear hwd
    refine qAL (i:=0) (N:=some 11) (v := ?_) (a' := ?_) #[qT,qF,qF,qF,qF,qF,qF,qF,qF,qF,qF,qF,qF,qF,qF,qF] rfl rfl (by kernel_rfl) (fun _ _ _ h=>h) (Or.inl ⟨by rfl, ?_⟩) ?_ ?_
    rotate_left
    ·intro w'
     go_simp
     with_reducible rfl
    rotate_left
    ·simp only [Act.put,qs1,qs2,qs3,qAH,qAI]
     rfl
    refine qAL (i:=1) (N:=some 12) (v := ?_) (a' := ?_) #[qT,qT,qF,qF,qF,qF,qF,qF,qF,qF,qF,qF,qF,qF,qF,qF] rfl rfl (by kernel_rfl) (fun _ _ _ h=>h) (Or.inl ⟨by rfl, ?_⟩) ?_ ?_
    rotate_left
    ·intro w'
     go_simp
     with_reducible rfl
    rotate_left
    ·simp only [Act.put,qs1,qs2,qs3,qAH,qAI]
     rfl
    refine qAL (i:=2) (N:=some 13) (v := ?_) (a' := ?_) #[qT,qT,qT,qF,qF,qF,qF,qF,qF,qF,qF,qF,qF,qF,qF,qF] rfl rfl (by kernel_rfl) (fun _ _ _ h=>h) (Or.inl ⟨by rfl, ?_⟩) ?_ ?_
    rotate_left
    ·intro w'
     go_simp
     with_reducible rfl
    rotate_left
    ·simp only [Act.put,qs1,qs2,qs3,qAH,qAI]
     rfl
    refine qAL (i:=4) (N:=some 15) (v := ?_) (a' := ?_) #[qT,qT,qT,qF,qT,qF,qF,qF,qF,qF,qF,qF,qF,qF,qF,qF] rfl rfl (by kernel_rfl) (fun _ _ _ h=>h) (Or.inl ⟨by rfl, ?_⟩) ?_ ?_
    rotate_left
    ·intro w'
     go_simp
     with_reducible rfl
    rotate_left
    ·simp only [Act.put,qs1,qs2,qs3,qAH,qAI]
     rfl
    refine qAL (i:=5) (N:=some 16) (v := ?_) (a' := ?_) #[qT,qT,qT,qF,qT,qT,qF,qF,qF,qF,qF,qF,qF,qF,qF,qF] rfl rfl (by kernel_rfl) (fun _ _ _ h=>h) (Or.inl ⟨by rfl, ?_⟩) ?_ ?_
    rotate_left
    ·intro w'
     go_simp
     with_reducible rfl
    rotate_left
    ·simp only [Act.put,qs1,qs2,qs3,qAH,qAI]
     rfl
    refine qAL (i:=6) (N:=some 17) (v := ?_) (a' := ?_) #[qT,qT,qT,qF,qT,qT,qT,qF,qF,qF,qF,qF,qF,qF,qF,qF] rfl rfl (by kernel_rfl) (fun _ _ _ h=>h) (Or.inl ⟨by rfl, ?_⟩) ?_ ?_
    rotate_left
    ·intro w'
     go_simp
     with_reducible rfl
    rotate_left
    ·simp only [Act.put,qs1,qs2,qs3,qAH,qAI]
     rfl
    refine qAt (i:=3) (N:=some 14) (v := ?_) (a' := ?_) #[qT,qT,qT,qT,qT,qT,qT,qF,qF,qF,qF,qF,qF,qF,qF,qF] rfl rfl (by kernel_rfl) (fun _ _ _ h=>h) (Or.inl ⟨by rfl, ?_⟩) hHeld ?_ ?_
    rotate_left
    ·rintro w' ⟨s0,s1⟩
     go_simp
     with_reducible rfl
    rotate_left
    ·simp only [Act.put,qs1,qs2,qs3,qAH,qAI]
     rfl
    refine qAt (i:=7) (N:=some 18) (v := ?_) (a' := ?_) #[qT,qT,qT,qT,qT,qT,qT,qT,qF,qF,qF,qF,qF,qF,qF,qF] rfl rfl (by kernel_rfl) (fun _ _ _ h=>h) (Or.inl ⟨by rfl, ?_⟩) hHeld ?_ ?_
    rotate_left
    ·rintro w' ⟨s0,s1⟩
     go_simp
     with_reducible rfl
    rotate_left
    ·simp only [Act.put,qs1,qs2,qs3,qAH,qAI]
     rfl
    refine one_ (i:=8) (N:=some 19) #[qT,qT,qT,qT,qT,qT,qT,qT,qT,qF,qF,qF,qF,qF,qF,qF] rfl rfl (by kernel_rfl) (by decide) (fun K hK => ?_)
    refine qBe Try.func60 (by kernel_rfl) rfl #[.slice B bs.length cb,.int .i64 at_,.int .i64 32] (by rfl) rfl rfl (by (try simp only [List.map_toArray,List.map_cons,List.map_nil]);first | done | rfl) ?_
    refine (TX.out wd Wd.out).mono ?_
    rintro e w2 ⟨rfl,hb⟩
    refine ⟨_,rfl, ?_⟩
    have R2:=qAA.mk (Rd.out.below hb.below)
    have W2:=qAA.mk (qAf Wd.out Wd.out.size hb.below)
    have O2:=qAA.mk (Kd.qA3 Od.out hb.below)
    have HG2:=qAA.mk (Nat.lt_of_lt_of_le HGd.out hb.below.size)
    clear hb
    refine hK.out _ _ ⟨(qAB R2.out 0).trans rfl,(qAB R2.out 1).trans rfl⟩ (fun hHeld => ?_)
    clear hK K
    refine qBH (a' := ?_) ?_ ?_
    rotate_left
    ·show Act.put _ (some 19) _=_
     simp only [Act.put,qs1,qs2,qs3,qAH,qAI]
     rfl
    refine qAL (i:=9) (N:=some 10) (v := ?_) (a' := ?_) #[qT,qT,qT,qT,qT,qT,qT,qT,qT,qT,qF,qF,qF,qF,qF,qF] rfl rfl (by kernel_rfl) (fun _ _ _ h=>h) (Or.inl ⟨by rfl, ?_⟩) ?_ ?_
    rotate_left
    ·intro w'
     go_simp
     with_reducible rfl
    rotate_left
    ·simp only [Act.put,qs1,qs2,qs3,qAH,qAI]
     rfl
    refine qAL (i:=10) (N:=some 20) (v := ?_) (a' := ?_) #[qT,qT,qT,qT,qT,qT,qT,qT,qT,qT,qT,qF,qF,qF,qF,qF] rfl rfl (by kernel_rfl) (fun _ _ _ h=>h) (Or.inl ⟨by rfl, ?_⟩) ?_ ?_
    rotate_left
    ·intro w'
     go_simp
     with_reducible rfl
    rotate_left
    ·simp only [Act.put,qs1,qs2,qs3,qAH,qAI]
     rfl
    refine qAL (i:=11) (N:=some 21) (v := ?_) (a' := ?_) #[qT,qT,qT,qT,qT,qT,qT,qT,qT,qT,qT,qT,qF,qF,qF,qF] rfl rfl (by kernel_rfl) (fun _ _ _ h=>h) (Or.inl ⟨by rfl, ?_⟩) ?_ ?_
    rotate_left
    ·intro w'
     go_simp
     with_reducible rfl
    rotate_left
    ·simp only [Act.put,qs1,qs2,qs3,qAH,qAI]
     rfl
    refine qAL (i:=12) (N:=some 22) (v := ?_) (a' := ?_) #[qT,qT,qT,qT,qT,qT,qT,qT,qT,qT,qT,qT,qT,qF,qF,qF] rfl rfl (by kernel_rfl) (fun _ _ _ h=>h) (Or.inl ⟨by rfl, ?_⟩) ?_ ?_
    rotate_left
    ·intro w'
     go_simp
     with_reducible rfl
    rotate_left
    ·simp only [Act.put,qs1,qs2,qs3,qAH,qAI]
     rfl
    refine qAL (i:=13) (N:=some 4) (v := ?_) (a' := ?_) #[qT,qT,qT,qT,qT,qT,qT,qT,qT,qT,qT,qT,qT,qT,qF,qF] rfl rfl (by kernel_rfl) (fun _ _ _ h=>h) (Or.inl ⟨by rfl, ?_⟩) ?_ ?_
    rotate_left
    ·intro w'
     go_simp
     with_reducible rfl
    rotate_left
    ·simp only [Act.put,qs1,qs2,qs3,qAH,qAI]
     rfl
    refine qAL (i:=14) (N:=some 5) (v := ?_) (a' := ?_) #[qT,qT,qT,qT,qT,qT,qT,qT,qT,qT,qT,qT,qT,qT,qT,qF] rfl rfl (by kernel_rfl) (fun _ _ _ h=>h) (Or.inl ⟨by rfl, ?_⟩) ?_ ?_
    rotate_left
    ·intro w'
     go_simp
     with_reducible rfl
    rotate_left
    ·simp only [Act.put,qs1,qs2,qs3,qAH,qAI]
     rfl
    refine qAL (i:=15) (N:=some 6) (v := ?_) (a' := ?_) #[qT,qT,qT,qT,qT,qT,qT,qT,qT,qT,qT,qT,qT,qT,qT,qT] rfl rfl (by kernel_rfl) (fun _ _ _ h=>h) (Or.inl ⟨by rfl, ?_⟩) ?_ ?_
    rotate_left
    ·intro w'
     go_simp
     with_reducible rfl
    rotate_left
    ·simp only [Act.put,qs1,qs2,qs3,qAH,qAI]
     rfl
    refine qBM (by kernel_rfl) ?_
    go_wp2
    obtain ⟨ad,a4_,b4_,a5_,b5_,eA,h0,_⟩:=HAT.out w2.drew (Kd.R_reads' (Kd.qA8 O2.out)).2.2;subst eA;rw [Int.toNat_natCast] at h0
    refine qAy (n:=28) (S:=fun w'=>w'.cell? ⟨g,3,none⟩=some (.slice (some ad) (k+1) cl)∧w'.cell? (ad.add (k * 6))=some (.string y.f0)) (ds:=[]) #[qF,qF,qF,qF,qF,qF,qF,qF,qF,qF,qF,qF,qF,qF,qF,qF,qF,qF,qF,qF,qF,qF,qF,qF,qF,qF,qF,qF] (by kernel_rfl) rfl rfl ⟨(qAB (show w2.drew.heap[g]?=_ from R2.out) 3).trans rfl,h0⟩ (fun hHeld => ?_)
    generalize hwd:w2.drew=wd2 at hHeld ⊢
    have R2d:=qAA.mk (hwd▸R2.out.below (qAX (Below.refl _ _)))
    have W2d:=qAA.mk (hwd▸qAX W2.out)
    have O2d:=qAA.mk (hwd▸Kd.qA8 O2.out)
    have HG2d:=qAA.mk (show g < wd2.heap.size from hwd▸HG2.out)
    have HOB:=qAA.mk (fun k hk=>((Kd.qBf O2d.out).1 k hk).2.2.1)
    clear hwd
    refine qAL (i:=0) (N:=some 31) (v := ?_) (a' := ?_) #[qT,qF,qF,qF,qF,qF,qF,qF,qF,qF,qF,qF,qF,qF,qF,qF,qF,qF,qF,qF,qF,qF,qF,qF,qF,qF,qF,qF] rfl rfl (by kernel_rfl) (fun _ _ _ h=>h) (Or.inl ⟨by rfl, ?_⟩) ?_ ?_
    rotate_left
    ·intro w'
     go_simp
     with_reducible rfl
    rotate_left
    ·simp only [Act.put,qs1,qs2,qs3,qAH,qAI]
     rfl
    refine qAL (i:=1) (N:=some 32) (v := ?_) (a' := ?_) #[qT,qT,qF,qF,qF,qF,qF,qF,qF,qF,qF,qF,qF,qF,qF,qF,qF,qF,qF,qF,qF,qF,qF,qF,qF,qF,qF,qF] rfl rfl (by kernel_rfl) (fun _ _ _ h=>h) (Or.inl ⟨by rfl, ?_⟩) ?_ ?_
    rotate_left
    ·intro w'
     go_simp
     with_reducible rfl
    rotate_left
    ·simp only [Act.put,qs1,qs2,qs3,qAH,qAI]
     rfl
    refine qAL (i:=2) (N:=some 33) (v := ?_) (a' := ?_) #[qT,qT,qT,qF,qF,qF,qF,qF,qF,qF,qF,qF,qF,qF,qF,qF,qF,qF,qF,qF,qF,qF,qF,qF,qF,qF,qF,qF] rfl rfl (by kernel_rfl) (fun _ _ _ h=>h) (Or.inl ⟨by rfl, ?_⟩) ?_ ?_
    rotate_left
    ·intro w'
     go_simp
     with_reducible rfl
    rotate_left
    ·simp only [Act.put,qs1,qs2,qs3,qAH,qAI]
     rfl
    refine qAL (i:=3) (N:=some 34) (v := ?_) (a' := ?_) #[qT,qT,qT,qT,qF,qF,qF,qF,qF,qF,qF,qF,qF,qF,qF,qF,qF,qF,qF,qF,qF,qF,qF,qF,qF,qF,qF,qF] rfl rfl (by kernel_rfl) (fun _ _ _ h=>h) (Or.inl ⟨by rfl, ?_⟩) ?_ ?_
    rotate_left
    ·intro w'
     go_simp
     with_reducible rfl
    rotate_left
    ·simp only [Act.put,qs1,qs2,qs3,qAH,qAI]
     rfl
    refine qAL (i:=4) (N:=some 35) (v := ?_) (a' := ?_) #[qT,qT,qT,qT,qT,qF,qF,qF,qF,qF,qF,qF,qF,qF,qF,qF,qF,qF,qF,qF,qF,qF,qF,qF,qF,qF,qF,qF] rfl rfl (by kernel_rfl) (fun _ _ _ h=>h) (Or.inl ⟨by rfl, ?_⟩) ?_ ?_
    rotate_left
    ·intro w'
     go_simp
     with_reducible rfl
    rotate_left
    ·simp only [Act.put,qs1,qs2,qs3,qAH,qAI]
     rfl
    refine qAL (i:=5) (N:=some 36) (v := ?_) (a' := ?_) #[qT,qT,qT,qT,qT,qT,qF,qF,qF,qF,qF,qF,qF,qF,qF,qF,qF,qF,qF,qF,qF,qF,qF,qF,qF,qF,qF,qF] rfl rfl (by kernel_rfl) (fun _ _ _ h=>h) (Or.inl ⟨by rfl, ?_⟩) ?_ ?_
    rotate_left
    ·intro w'
     go_simp
     with_reducible rfl
    rotate_left
    ·simp only [Act.put,qs1,qs2,qs3,qAH,qAI]
     rfl
    refine qAt (i:=6) (N:=some 37) (v := ?_) (a' := ?_) #[qT,qT,qT,qT,qT,qT,qT,qF,qF,qF,qF,qF,qF,qF,qF,qF,qF,qF,qF,qF,qF,qF,qF,qF,qF,qF,qF,qF] rfl rfl (by kernel_rfl) (fun _ _ _ h=>h) (Or.inl ⟨by rfl, ?_⟩) hHeld ?_ ?_
    rotate_left
    ·rintro w' ⟨s0,s1⟩
     go_simp
     with_reducible rfl
    rotate_left
    ·simp only [Act.put,qs1,qs2,qs3,qAH,qAI]
     rfl
    refine qAL (i:=7) (N:=some 38) (v := ?_) (a' := ?_) #[qT,qT,qT,qT,qT,qT,qT,qT,qF,qF,qF,qF,qF,qF,qF,qF,qF,qF,qF,qF,qF,qF,qF,qF,qF,qF,qF,qF] rfl rfl (by kernel_rfl) (fun _ _ _ h=>h) (Or.inl ⟨by rfl, ?_⟩) ?_ ?_
    rotate_left
    ·intro w'
     go_simp
     with_reducible rfl
    rotate_left
    ·simp only [Act.put,qs1,qs2,qs3,qAH,qAI]
     rfl
    refine qAL (i:=8) (N:=some 39) (v := ?_) (a' := ?_) #[qT,qT,qT,qT,qT,qT,qT,qT,qT,qF,qF,qF,qF,qF,qF,qF,qF,qF,qF,qF,qF,qF,qF,qF,qF,qF,qF,qF] rfl rfl (by kernel_rfl) (fun _ _ _ h=>h) (Or.inl ⟨by rfl, ?_⟩) ?_ ?_
    rotate_left
    ·intro w'
     go_simp
     with_reducible rfl
    rotate_left
    ·simp only [Act.put,qs1,qs2,qs3,qAH,qAI]
     rfl
    refine qAL (i:=9) (N:=some 40) (v := ?_) (a' := ?_) #[qT,qT,qT,qT,qT,qT,qT,qT,qT,qT,qF,qF,qF,qF,qF,qF,qF,qF,qF,qF,qF,qF,qF,qF,qF,qF,qF,qF] rfl rfl (by kernel_rfl) (fun _ _ _ h=>h) (Or.inl ⟨by rfl, ?_⟩) ?_ ?_
    rotate_left
    ·intro w'
     go_simp
     with_reducible rfl
    rotate_left
    ·simp only [Act.put,qs1,qs2,qs3,qAH,qAI]
     rfl
    refine qAL (i:=10) (N:=some 41) (v := ?_) (a' := ?_) #[qT,qT,qT,qT,qT,qT,qT,qT,qT,qT,qT,qF,qF,qF,qF,qF,qF,qF,qF,qF,qF,qF,qF,qF,qF,qF,qF,qF] rfl rfl (by kernel_rfl) (fun _ _ _ h=>h) (Or.inl ⟨by rfl, ?_⟩) ?_ ?_
    rotate_left
    ·intro w'
     go_simp
     with_reducible rfl
    rotate_left
    ·simp only [Act.put,qs1,qs2,qs3,qAH,qAI]
     rfl
    refine qAL (i:=11) (N:=some 42) (v := ?_) (a' := ?_) #[qT,qT,qT,qT,qT,qT,qT,qT,qT,qT,qT,qT,qF,qF,qF,qF,qF,qF,qF,qF,qF,qF,qF,qF,qF,qF,qF,qF] rfl rfl (by kernel_rfl) (fun _ _ _ h=>h) (Or.inl ⟨by rfl, ?_⟩) ?_ ?_
    rotate_left
    ·intro w'
     go_simp
     with_reducible rfl
    rotate_left
    ·simp only [Act.put,qs1,qs2,qs3,qAH,qAI]
     rfl
    refine qAL (i:=12) (N:=some 43) (v := ?_) (a' := ?_) #[qT,qT,qT,qT,qT,qT,qT,qT,qT,qT,qT,qT,qT,qF,qF,qF,qF,qF,qF,qF,qF,qF,qF,qF,qF,qF,qF,qF] rfl rfl (by kernel_rfl) (fun _ _ _ h=>h) (Or.inl ⟨by rfl, ?_⟩) ?_ ?_
    rotate_left
    ·intro w'
     go_simp
     with_reducible rfl
    rotate_left
    ·simp only [Act.put,qs1,qs2,qs3,qAH,qAI]
     rfl
    refine qAL (i:=14) (N:=some 45) (v := ?_) (a' := ?_) #[qT,qT,qT,qT,qT,qT,qT,qT,qT,qT,qT,qT,qT,qF,qT,qF,qF,qF,qF,qF,qF,qF,qF,qF,qF,qF,qF,qF] rfl rfl (by kernel_rfl) (fun _ _ _ h=>h) (Or.inl ⟨by rfl, ?_⟩) ?_ ?_
    rotate_left
    ·intro w'
     go_simp
     with_reducible rfl
    rotate_left
    ·simp only [Act.put,qs1,qs2,qs3,qAH,qAI]
     rfl
    refine qAL (i:=15) (N:=some 46) (v := ?_) (a' := ?_) #[qT,qT,qT,qT,qT,qT,qT,qT,qT,qT,qT,qT,qT,qF,qT,qT,qF,qF,qF,qF,qF,qF,qF,qF,qF,qF,qF,qF] rfl rfl (by kernel_rfl) (fun _ _ _ h=>h) (Or.inl ⟨by rfl, ?_⟩) ?_ ?_
    rotate_left
    ·intro w'
     go_simp
     with_reducible rfl
    rotate_left
    ·simp only [Act.put,qs1,qs2,qs3,qAH,qAI]
     rfl
    refine qAL (i:=16) (N:=some 47) (v := ?_) (a' := ?_) #[qT,qT,qT,qT,qT,qT,qT,qT,qT,qT,qT,qT,qT,qF,qT,qT,qT,qF,qF,qF,qF,qF,qF,qF,qF,qF,qF,qF] rfl rfl (by kernel_rfl) (fun _ _ _ h=>h) (Or.inl ⟨by rfl, ?_⟩) ?_ ?_
    rotate_left
    ·intro w'
     go_simp
     with_reducible rfl
    rotate_left
    ·simp only [Act.put,qs1,qs2,qs3,qAH,qAI]
     rfl
    refine qAL (i:=23) (N:=some 54) (v := ?_) (a' := ?_) #[qT,qT,qT,qT,qT,qT,qT,qT,qT,qT,qT,qT,qT,qF,qT,qT,qT,qF,qF,qF,qF,qF,qF,qT,qF,qF,qF,qF] rfl rfl (by kernel_rfl) (fun _ _ _ h=>h) (Or.inl ⟨by rfl, ?_⟩) ?_ ?_
    rotate_left
    ·intro w'
     go_simp
     with_reducible rfl
    rotate_left
    ·simp only [Act.put,qs1,qs2,qs3,qAH,qAI]
     rfl
    refine qAt (i:=13) (N:=some 44) (v := ?_) (a' := ?_) #[qT,qT,qT,qT,qT,qT,qT,qT,qT,qT,qT,qT,qT,qT,qT,qT,qT,qF,qF,qF,qF,qF,qF,qT,qF,qF,qF,qF] rfl rfl (by kernel_rfl) (fun _ _ _ h=>h) (Or.inl ⟨by rfl, ?_⟩) hHeld ?_ ?_
    rotate_left
    ·rintro w' ⟨s0,s1⟩
     go_simp
     with_reducible rfl
    rotate_left
    ·simp only [Act.put,qs1,qs2,qs3,qAH,qAI]
     rfl
    refine qAt (i:=17) (N:=some 48) (v := ?_) (a' := ?_) #[qT,qT,qT,qT,qT,qT,qT,qT,qT,qT,qT,qT,qT,qT,qT,qT,qT,qT,qF,qF,qF,qF,qF,qT,qF,qF,qF,qF] rfl rfl (by kernel_rfl) (fun _ _ _ h=>h) (Or.inl ⟨by rfl, ?_⟩) hHeld ?_ ?_
    rotate_left
    ·rintro w' ⟨s0,s1⟩
     go_simp
     with_reducible rfl
    rotate_left
    ·simp only [Act.put,qs1,qs2,qs3,qAH,qAI]
     rfl
    refine qAL (i:=18) (N:=some 49) (v := ?_) (a' := ?_) #[qT,qT,qT,qT,qT,qT,qT,qT,qT,qT,qT,qT,qT,qT,qT,qT,qT,qT,qT,qF,qF,qF,qF,qT,qF,qF,qF,qF] rfl rfl (by kernel_rfl) (fun _ _ _ h=>h) (Or.inl ⟨by rfl, ?_⟩) ?_ ?_
    rotate_left
    ·intro w'
     go_simp
     with_reducible rfl
    rotate_left
    ·simp only [Act.put,qs1,qs2,qs3,qAH,qAI]
     rfl
    refine qAL (i:=19) (N:=some 50) (v := ?_) (a' := ?_) #[qT,qT,qT,qT,qT,qT,qT,qT,qT,qT,qT,qT,qT,qT,qT,qT,qT,qT,qT,qT,qF,qF,qF,qT,qF,qF,qF,qF] rfl rfl (by kernel_rfl) (fun _ _ _ h=>h) (Or.inl ⟨by rfl, ?_⟩) ?_ ?_
    rotate_left
    ·intro w'
     go_simp
     with_reducible rfl
    rotate_left
    ·simp only [Act.put,qs1,qs2,qs3,qAH,qAI]
     rfl
    refine qAL (i:=20) (N:=some 51) (v := ?_) (a' := ?_) #[qT,qT,qT,qT,qT,qT,qT,qT,qT,qT,qT,qT,qT,qT,qT,qT,qT,qT,qT,qT,qT,qF,qF,qT,qF,qF,qF,qF] rfl rfl (by kernel_rfl) (fun _ _ _ h=>h) (Or.inl ⟨by rfl, ?_⟩) ?_ ?_
    rotate_left
    ·intro w'
     go_simp
     with_reducible rfl
    rotate_left
    ·simp only [Act.put,qs1,qs2,qs3,qAH,qAI]
     rfl
    refine qAL (i:=21) (N:=some 52) (v := ?_) (a' := ?_) #[qT,qT,qT,qT,qT,qT,qT,qT,qT,qT,qT,qT,qT,qT,qT,qT,qT,qT,qT,qT,qT,qT,qF,qT,qF,qF,qF,qF] rfl rfl (by kernel_rfl) (fun _ _ _ h=>h) (Or.inl ⟨by rfl, ?_⟩) ?_ ?_
    rotate_left
    ·intro w'
     go_simp
     with_reducible rfl
    rotate_left
    ·simp only [Act.put,qs1,qs2,qs3,qAH,qAI]
     rfl
    refine qAt (i:=22) (N:=some 53) (v := ?_) (a' := ?_) #[qT,qT,qT,qT,qT,qT,qT,qT,qT,qT,qT,qT,qT,qT,qT,qT,qT,qT,qT,qT,qT,qT,qT,qT,qF,qF,qF,qF] rfl rfl (by kernel_rfl) (fun _ _ _ h=>h) (Or.inl ⟨by rfl, ?_⟩) hHeld ?_ ?_
    rotate_left
    ·rintro w' ⟨s0,s1⟩
     go_simp
     with_reducible rfl
    rotate_left
    ·simp only [Act.put,qs1,qs2,qs3,qAH,qAI]
     rfl
    refine qAL (i:=24) (N:=some 55) (v := ?_) (a' := ?_) #[qT,qT,qT,qT,qT,qT,qT,qT,qT,qT,qT,qT,qT,qT,qT,qT,qT,qT,qT,qT,qT,qT,qT,qT,qT,qF,qF,qF] rfl rfl (by kernel_rfl) (fun _ _ _ h=>h) (Or.inl ⟨by rfl, ?_⟩) ?_ ?_
    rotate_left
    ·intro w'
     go_simp
     with_reducible rfl
    rotate_left
    ·simp only [Act.put,qs1,qs2,qs3,qAH,qAI]
     rfl
    refine qAL (i:=25) (N:=some 56) (v := ?_) (a' := ?_) #[qT,qT,qT,qT,qT,qT,qT,qT,qT,qT,qT,qT,qT,qT,qT,qT,qT,qT,qT,qT,qT,qT,qT,qT,qT,qT,qF,qF] rfl rfl (by kernel_rfl) (fun _ _ _ h=>h) (Or.inl ⟨by rfl, ?_⟩) ?_ ?_
    rotate_left
    ·intro w'
     go_simp
     with_reducible rfl
    rotate_left
    ·simp only [Act.put,qs1,qs2,qs3,qAH,qAI]
     rfl
    refine qAL (i:=26) (N:=some 57) (v := ?_) (a' := ?_) #[qT,qT,qT,qT,qT,qT,qT,qT,qT,qT,qT,qT,qT,qT,qT,qT,qT,qT,qT,qT,qT,qT,qT,qT,qT,qT,qT,qF] rfl rfl (by kernel_rfl) (fun _ _ _ h=>h) (Or.inl ⟨by rfl, ?_⟩) ?_ ?_
    rotate_left
    ·intro w'
     go_simp
     with_reducible rfl
    rotate_left
    ·simp only [Act.put,qs1,qs2,qs3,qAH,qAI]
     rfl
    refine qAL (i:=27) (N:=some 30) (v := ?_) (a' := ?_) #[qT,qT,qT,qT,qT,qT,qT,qT,qT,qT,qT,qT,qT,qT,qT,qT,qT,qT,qT,qT,qT,qT,qT,qT,qT,qT,qT,qT] rfl rfl (by kernel_rfl) (fun _ _ _ h=>h) (Or.inl ⟨by rfl, ?_⟩) ?_ ?_
    rotate_left
    ·intro w'
     go_simp
     with_reducible rfl
    rotate_left
    ·simp only [Act.put,qs1,qs2,qs3,qAH,qAI]
     rfl
    refine qBM (by kernel_rfl) ?_
    have z0:wd2.cell? ⟨g,0,none⟩=some (.slice B bs.length cb):=(qAB R2d.out 0).trans rfl
    go_wp2_with (first | (go_at_call 61;refine (TKO.out _ W2d.out).mono ?_;rintro e_ w3 ⟨v3,v4,rfl,h3,h4,hb⟩;obtain ⟨A3,c3,e3,l3,C3⟩:=h3.C 8;obtain ⟨A4,c4,e4,l4,C4⟩:=h4.C;subst e3;subst e4;have KT3:=qAA.mk (sa.kt_got2 W2d.out.size h3 h4);have HS3:=qAA.mk hb.size;have K3:=qAA.mk C3;have K4:=qAA.mk C4;have L3:=qAA.mk l3;have L4:=qAA.mk l4;have W3:=qAA.mk (qAf W2d.out W2d.out.size hb);have R3:=qAA.mk (R2d.out.below hb);have O3:=qAA.mk (Kd.qA3 O2d.out hb);clear hb h3 h4 C3 C4 l3 l4 z0))
    have B5:=qAA.mk (show Below w3.heap.size w3 ((w3.alloc (.cells #[.int .i64 x.f0,.int .i64 x.f1,.string x.f2,.slice A3 x.f3.length c3,.slice A4 x.f4.length c4] 34)).alloc (.cells #[.string s,.int .i64 x.f0,.int .i64 x.f1,.string x.f2,.slice A3 x.f3.length c3,.slice A4 x.f4.length c4] 51)) from qAF (qAF (Below.refl _ _) _) _)
    have X5:=qAA.mk (show ((w3.alloc (.cells #[.int .i64 x.f0,.int .i64 x.f1,.string x.f2,.slice A3 x.f3.length c3,.slice A4 x.f4.length c4] 34)).alloc (.cells #[.string s,.int .i64 x.f0,.int .i64 x.f1,.string x.f2,.slice A3 x.f3.length c3,.slice A4 x.f4.length c4] 51)).heap[w3.heap.size+1]?=some (.cells #[.string s,.int .i64 x.f0,.int .i64 x.f1,.string x.f2,.slice A3 x.f3.length c3,.slice A4 x.f4.length c4] 51 (0,0)) from by simpa using heap_alloc_new (w3.alloc (.cells #[.int .i64 x.f0,.int .i64 x.f1,.string x.f2,.slice A3 x.f3.length c3,.slice A4 x.f4.length c4] 34)) (.cells #[.string s,.int .i64 x.f0,.int .i64 x.f1,.string x.f2,.slice A3 x.f3.length c3,.slice A4 x.f4.length c4] 51))
    generalize (w3.alloc (.cells #[.int .i64 x.f0,.int .i64 x.f1,.string x.f2,.slice A3 x.f3.length c3,.slice A4 x.f4.length c4] 34)).alloc (.cells #[.string s,.int .i64 x.f0,.int .i64 x.f1,.string x.f2,.slice A3 x.f3.length c3,.slice A4 x.f4.length c4] 51)=w5 at *
    have W5:=qAA.mk (qAf W3.out W3.out.size B5.out)
    have R5:=qAA.mk (R3.out.below B5.out)
    have Q5:=qAA.mk (Kd.qA3 O3.out B5.out)
    have KT5:=qAA.mk (Kd.qBg KT3.out B5.out)
    have J3:=qAA.mk (Kd.qAZ K3.out B5.out)
    have J4:=qAA.mk (Kd.qAZ K4.out B5.out)
    have HGX:=qAA.mk (show w3.heap.size+1 ≠ g from by have:=HG2d.out;have:=HS3.out;omega)
    have HGX2:=qAA.mk (show wd2.heap.size≤w3.heap.size+1 from by have:=HS3.out;omega)
    generalize w3.heap.size+1=gx at *
    clear K3 K4 R3 O3 KT3 B5 HS3 W3
    refine qAy (n:=10) (S:=fun w'=>w'.cell? ⟨g,2,none⟩=some (.int .i64 all)∧w'.cell? ⟨gx,0,none⟩=some (.string s)∧w'.cell? ⟨gx,1,none⟩=some (.int .i64 x.f0)∧w'.cell? ⟨gx,2,none⟩=some (.int .i64 x.f1)∧w'.cell? ⟨gx,3,none⟩=some (.string x.f2)∧w'.cell? ⟨gx,4,none⟩=some (.slice A3 x.f3.length c3)∧w'.cell? ⟨gx,5,none⟩=some (.slice A4 x.f4.length c4)) (ds:=[9]) #[qF,qF,qF,qF,qF,qF,qF,qF,qF,qF] (by kernel_rfl) rfl rfl ⟨(qAB (show w5.drew.heap[g]?=_ from R5.out) 2).trans rfl,(qAB (qAO X5.out) 0).trans rfl,(qAB (qAO X5.out) 1).trans rfl,(qAB (qAO X5.out) 2).trans rfl,(qAB (qAO X5.out) 3).trans rfl,(qAB (qAO X5.out) 4).trans rfl,(qAB (qAO X5.out) 5).trans rfl⟩ (fun hHeld => ?_)
    generalize hwd:w5.drew=wd5 at hHeld ⊢
    have R6:=qAA.mk (hwd▸R5.out.below (qAX (Below.refl _ _)))
    have W6:=qAA.mk (hwd▸qAX W5.out)
    have Q6:=qAA.mk (hwd▸Kd.qA8 Q5.out)
    have KT6:=qAA.mk (hwd▸Kd.qBg KT5.out (qAX (Below.refl _ _)))
    have X6:=qAA.mk (hwd▸qAO X5.out)
    have I3:=qAA.mk (hwd▸Kd.qAo J3.out)
    have I4:=qAA.mk (hwd▸Kd.qAo J4.out)
    clear hwd R5 W5 Q5 KT5 X5 J3 J4
    refine qAL (i:=0) (N:=some 78) (v := ?_) (a' := ?_) #[qT,qF,qF,qF,qF,qF,qF,qF,qF,qF] rfl rfl (by kernel_rfl) (fun _ _ _ h=>h) (Or.inl ⟨by rfl, ?_⟩) ?_ ?_
    rotate_left
    ·intro w'
     go_simp
     with_reducible rfl
    rotate_left
    ·simp only [Act.put,qs1,qs2,qs3,qAH,qAI]
     rfl
    refine qAL (i:=1) (N:=some 79) (v := ?_) (a' := ?_) #[qT,qT,qF,qF,qF,qF,qF,qF,qF,qF] rfl rfl (by kernel_rfl) (fun _ _ _ h=>h) (Or.inl ⟨by rfl, ?_⟩) ?_ ?_
    rotate_left
    ·intro w'
     go_simp
     with_reducible rfl
    rotate_left
    ·simp only [Act.put,qs1,qs2,qs3,qAH,qAI]
     rfl
    refine qAL (i:=2) (N:=some 80) (v := ?_) (a' := ?_) #[qT,qT,qT,qF,qF,qF,qF,qF,qF,qF] rfl rfl (by kernel_rfl) (fun _ _ _ h=>h) (Or.inl ⟨by rfl, ?_⟩) ?_ ?_
    rotate_left
    ·intro w'
     go_simp
     with_reducible rfl
    rotate_left
    ·simp only [Act.put,qs1,qs2,qs3,qAH,qAI]
     rfl
    refine qAt (i:=3) (N:=some 81) (v := ?_) (a' := ?_) #[qT,qT,qT,qT,qF,qF,qF,qF,qF,qF] rfl rfl (by kernel_rfl) (fun _ _ _ h=>h) (Or.inl ⟨by rfl, ?_⟩) hHeld ?_ ?_
    rotate_left
    ·rintro w' ⟨s0,s1,s2,s3,s4,s5,s6⟩
     go_simp
     with_reducible rfl
    rotate_left
    ·simp only [Act.put,qs1,qs2,qs3,qAH,qAI]
     rfl
    refine qAt (i:=4) (N:=some 82) (v := ?_) (a' := ?_) #[qT,qT,qT,qT,qT,qF,qF,qF,qF,qF] rfl rfl (by kernel_rfl) (fun _ _ _ h=>h) (Or.inl ⟨by rfl, ?_⟩) hHeld ?_ ?_
    rotate_left
    ·rintro w' ⟨s0,s1,s2,s3,s4,s5,s6⟩
     go_simp
     with_reducible rfl
    rotate_left
    ·simp only [Act.put,qs1,qs2,qs3,qAH,qAI]
     rfl
    refine one_ (i:=5) (N:=some 83) #[qT,qT,qT,qT,qT,qT,qF,qF,qF,qF] rfl rfl (by kernel_rfl) (by decide) (fun K hK => ?_)
    refine qBe Try.func49 (by kernel_rfl) rfl #[.agg #[.string s,.int .i64 x.f0,.int .i64 x.f1,.string x.f2,.slice A3 x.f3.length c3,.slice A4 x.f4.length c4]] (by rfl) rfl rfl (by (try simp only [List.map_toArray,List.map_cons,List.map_nil]);first | done | rfl) ?_
    refine (qAu.calls KH s x.f0 x.f1 x.f2 A3 c3 x.f3 A4 c4 x.f4 hw wd5 I3.out L3.out I4.out L4.out HKH.out).mono ?_
    rintro e w7 ⟨rfl,hb⟩
    refine ⟨_,rfl, ?_⟩
    have R7:=qAA.mk (R6.out.below hb)
    have W7:=qAA.mk (qAf W6.out W6.out.size hb)
    have Q7:=qAA.mk (Kd.qA3 Q6.out hb)
    have KT7:=qAA.mk (Kd.qBg KT6.out hb)
    have X7:=qAA.mk (qAb X6.out hb)
    clear hb
    have s2:=(qAB R7.out 2).trans rfl
    have s2f:=qAC R7.out 2
    refine hK.out _ _ ⟨(qAB R7.out 2).trans rfl,(qAB X7.out 0).trans rfl,(qAB X7.out 1).trans rfl,(qAB X7.out 2).trans rfl,(qAB X7.out 3).trans rfl,(qAB X7.out 4).trans rfl,(qAB X7.out 5).trans rfl⟩ (fun hHeld => ?_)
    clear hK K
    refine qBH (a' := ?_) ?_ ?_
    rotate_left
    ·show Act.put _ (some 83) _=_
     simp only [Act.put,qs1,qs2,qs3,qAH,qAI]
     rfl
    refine qAL (i:=6) (N:=some 84) (v := ?_) (a' := ?_) #[qT,qT,qT,qT,qT,qT,qT,qF,qF,qF] rfl rfl (by kernel_rfl) (fun _ _ _ h=>h) (Or.inl ⟨by rfl, ?_⟩) ?_ ?_
    rotate_left
    ·intro w'
     go_simp
     with_reducible rfl
    rotate_left
    ·simp only [Act.put,qs1,qs2,qs3,qAH,qAI]
     rfl
    refine qAL (i:=7) (N:=some 85) (v := ?_) (a' := ?_) #[qT,qT,qT,qT,qT,qT,qT,qT,qF,qF] rfl rfl (by kernel_rfl) (fun _ _ _ h=>h) (Or.inl ⟨by rfl, ?_⟩) ?_ ?_
    rotate_left
    ·intro w'
     go_simp
     with_reducible rfl
    rotate_left
    ·simp only [Act.put,qs1,qs2,qs3,qAH,qAI]
     rfl
    refine qAL (i:=8) (N:=some 86) (v := ?_) (a' := ?_) #[qT,qT,qT,qT,qT,qT,qT,qT,qT,qF] rfl rfl (by kernel_rfl) (fun _ _ _ h=>h) (Or.inl ⟨by rfl, ?_⟩) ?_ ?_
    rotate_left
    ·intro w'
     go_simp
     with_reducible rfl
    rotate_left
    ·simp only [Act.put,qs1,qs2,qs3,qAH,qAI]
     rfl
    refine last_ (i:=9) (N:=none) #[qT,qT,qT,qT,qT,qT,qT,qT,qT,qT] rfl rfl (by kernel_rfl) (by decide) (fun K hK => ?_)
    refine skip_ (w1 := ?_) (by rfl) rfl ?_ ?_
    rotate_left
    ·go_simp
     rfl
    clear s2 s2f
    refine hK.out _ _ ?_
    clear hK K
    refine qBM (by kernel_rfl) ?_
    have R8:=qAA.mk (show sa.RB7 (w7.setCell ⟨g,2,none⟩ (.int .i64 (all+hw))) g B bs.length cb at_ (all+hw) (.slice (some ad) (k+1) cl) from qAz R7.out 2 _ rfl)
    have W8:=qAA.mk (show Below w0.heap.size w0 (w7.setCell ⟨g,2,none⟩ (.int .i64 (all+hw))) from qAP W7.out HG.out)
    have Q8:=qAA.mk (Kd.R_far Q7.out (p:=⟨g,2,none⟩) (fun k hk=>hk) (.int .i64 (all+hw)))
    have KT8:=qAA.mk (Kd.M_far KT7.out (p:=⟨g,2,none⟩) (fun k hk=>by have:=HG2d.out;dsimp only;omega) (.int .i64 (all+hw)))
    have X8:=qAA.mk ((Below.heap_setCell w7 ⟨g,2,none⟩ (.int .i64 (all+hw)) gx HGX.out).trans X7.out)
    generalize w7.setCell ⟨g,2,none⟩ (.int .i64 (all+hw))=w8 at *
    have z2:w8.cell? ⟨g,2,none⟩=some (.int .i64 (all+hw)):=(qAB R8.out 2).trans rfl
    go_wp2
    clear z2
    refine qAy (n:=11) (S:=fun w'=>w'.cell? ⟨g,3,none⟩=some (.slice (some ad) (k+1) cl)∧w'.cell? ⟨gx,0,none⟩=some (.string s)∧w'.cell? ⟨gx,1,none⟩=some (.int .i64 x.f0)∧w'.cell? ⟨gx,2,none⟩=some (.int .i64 x.f1)∧w'.cell? ⟨gx,3,none⟩=some (.string x.f2)∧w'.cell? ⟨gx,4,none⟩=some (.slice A3 x.f3.length c3)∧w'.cell? ⟨gx,5,none⟩=some (.slice A4 x.f4.length c4)) (ds:=[10]) #[qF,qF,qF,qF,qF,qF,qF,qF,qF,qF,qF] (by kernel_rfl) rfl rfl ⟨(qAB (show w8.drew.heap[g]?=_ from R8.out) 3).trans rfl,(qAB (qAO X8.out) 0).trans rfl,(qAB (qAO X8.out) 1).trans rfl,(qAB (qAO X8.out) 2).trans rfl,(qAB (qAO X8.out) 3).trans rfl,(qAB (qAO X8.out) 4).trans rfl,(qAB (qAO X8.out) 5).trans rfl⟩ (fun hHeld => ?_)
    generalize hwd:w8.drew=wd8 at hHeld ⊢
    have R9:=qAA.mk (hwd▸R8.out.below (qAX (Below.refl _ _)))
    have W9:=qAA.mk (hwd▸qAX W8.out)
    have Q9:=qAA.mk (hwd▸Kd.qA8 Q8.out)
    have KT9:=qAA.mk (hwd▸Kd.qBg KT8.out (qAX (Below.refl _ _)))
    have X9:=qAA.mk (hwd▸qAO X8.out)
    clear hwd R8 W8 Q8 KT8 X8
    refine qAL (i:=0) (N:=some 96) (v := ?_) (a' := ?_) #[qT,qF,qF,qF,qF,qF,qF,qF,qF,qF,qF] rfl rfl (by kernel_rfl) (fun _ _ _ h=>h) (Or.inl ⟨by rfl, ?_⟩) ?_ ?_
    rotate_left
    ·intro w'
     go_simp
     with_reducible rfl
    rotate_left
    ·simp only [Act.put,qs1,qs2,qs3,qAH,qAI]
     rfl
    refine qAL (i:=1) (N:=some 97) (v := ?_) (a' := ?_) #[qT,qT,qF,qF,qF,qF,qF,qF,qF,qF,qF] rfl rfl (by kernel_rfl) (fun _ _ _ h=>h) (Or.inl ⟨by rfl, ?_⟩) ?_ ?_
    rotate_left
    ·intro w'
     go_simp
     with_reducible rfl
    rotate_left
    ·simp only [Act.put,qs1,qs2,qs3,qAH,qAI]
     rfl
    refine qAL (i:=2) (N:=some 98) (v := ?_) (a' := ?_) #[qT,qT,qT,qF,qF,qF,qF,qF,qF,qF,qF] rfl rfl (by kernel_rfl) (fun _ _ _ h=>h) (Or.inl ⟨by rfl, ?_⟩) ?_ ?_
    rotate_left
    ·intro w'
     go_simp
     with_reducible rfl
    rotate_left
    ·simp only [Act.put,qs1,qs2,qs3,qAH,qAI]
     rfl
    refine qAL (i:=3) (N:=some 99) (v := ?_) (a' := ?_) #[qT,qT,qT,qT,qF,qF,qF,qF,qF,qF,qF] rfl rfl (by kernel_rfl) (fun _ _ _ h=>h) (Or.inl ⟨by rfl, ?_⟩) ?_ ?_
    rotate_left
    ·intro w'
     go_simp
     with_reducible rfl
    rotate_left
    ·simp only [Act.put,qs1,qs2,qs3,qAH,qAI]
     rfl
    refine qAt (i:=4) (N:=some 100) (v := ?_) (a' := ?_) #[qT,qT,qT,qT,qT,qF,qF,qF,qF,qF,qF] rfl rfl (by kernel_rfl) (fun _ _ _ h=>h) (Or.inl ⟨by rfl, ?_⟩) hHeld ?_ ?_
    rotate_left
    ·rintro w' ⟨s0,s1,s2,s3,s4,s5,s6⟩
     go_simp
     with_reducible rfl
    rotate_left
    ·simp only [Act.put,qs1,qs2,qs3,qAH,qAI]
     rfl
    refine qAt (i:=5) (N:=some 101) (v := ?_) (a' := ?_) #[qT,qT,qT,qT,qT,qT,qF,qF,qF,qF,qF] rfl rfl (by kernel_rfl) (fun _ _ _ h=>h) (Or.inl ⟨by rfl, ?_⟩) hHeld ?_ ?_
    rotate_left
    ·rintro w' ⟨s0,s1,s2,s3,s4,s5,s6⟩
     go_simp
     with_reducible rfl
    rotate_left
    ·simp only [Act.put,qs1,qs2,qs3,qAH,qAI]
     rfl
    refine one_ (i:=6) (N:=some 102) #[qT,qT,qT,qT,qT,qT,qT,qF,qF,qF,qF] rfl rfl (by kernel_rfl) (by decide) (fun K hK => ?_)
    refine value_ (w1 := ?_) (v := ?_) (by rfl) rfl ?_ ?_
    rotate_left 2
    ·go_simp
     constructor
     ·rfl
     ·rfl
    refine hK.out _ _ ⟨(qAB (qAR R9.out _) 3).trans rfl,(qAB (qAR X9.out _) 0).trans rfl,(qAB (qAR X9.out _) 1).trans rfl,(qAB (qAR X9.out _) 2).trans rfl,(qAB (qAR X9.out _) 3).trans rfl,(qAB (qAR X9.out _) 4).trans rfl,(qAB (qAR X9.out _) 5).trans rfl⟩ (fun hHeld => ?_)
    clear hK K
    refine qBH (a' := ?_) ?_ ?_
    rotate_left
    ·show Act.put _ (some 102) _=_
     simp only [Act.put,qs1,qs2,qs3,qAH,qAI]
     rfl
    refine one_ (i:=7) (N:=some 103) #[qT,qT,qT,qT,qT,qT,qT,qT,qF,qF,qF] rfl rfl (by kernel_rfl) (by decide) (fun K hK => ?_)
    refine Kd.qBR sa.ke (w0:=w0) w0.heap.size (by rfl) (.tmp 100) (.tmp 102) 22 51 (.agg #[.string ⟨#[]⟩,.int .i64 0,.int .i64 0,.string ⟨#[]⟩,.slice none 0 0,.slice none 0 0]) 96 rfl Try.underlying22 info51 rfl (by decide) (by omega) _ l ⟨s,x⟩ [.string s,.int .i64 x.f0,.int .i64 x.f1,.string x.f2,.slice A3 x.f3.length c3,.slice A4 x.f4.length c4] (fun k=>k ≠ g) (fun k=>wd2.heap.size≤k) rfl rfl ?aM ?aF ?aN ?aO ?aB ?aS ?aL ?_
    (case aM=>exact sa.ke_M KT9.out)
    (case aF=>exact fun k hk=>⟨by have:=HG2d.out;omega,fun e=>by have:=HOB.out k e.symm;omega⟩)
    (case aN=>exact fun k hk=>by have:=qAp (show wd8.heap[g]?=some _ from R9.out);omega)
    (case aO=>exact Q9.out)
    (case aB=>exact W9.out)
    (case aS=>exact W9.out.size)
    (case aL=>have:=HLL.out;omega)
    intro v11 w11 hr hb hg hat
    obtain ⟨A11,c11,e11⟩:=Kd.qBE hr
    subst e11
    rw [show (l ++ [(⟨s,x⟩:S51)]).length=l.length+1 from by simp] at hr
    have R11:=qAA.mk (qBI R9.out hg (Kd.R_away Q9.out (fun _ hk=>hk)))
    have X11:=qAA.mk (qBI X9.out hg (fun e=>by have:=HOB.out gx e.symm;have:=HGX2.out;omega))
    have Q11:=qAA.mk hr
    have W11:=qAA.mk hb
    clear hr hb hg hat
    have s3:=(qAB R11.out 3).trans rfl
    have s3f:=qAC R11.out 3
    refine hK.out _ _ ⟨(qAB R11.out 3).trans rfl,(qAB X11.out 0).trans rfl,(qAB X11.out 1).trans rfl,(qAB X11.out 2).trans rfl,(qAB X11.out 3).trans rfl,(qAB X11.out 4).trans rfl,(qAB X11.out 5).trans rfl⟩ (fun hHeld => ?_)
    clear hK K
    refine qBH (a' := ?_) ?_ ?_
    rotate_left
    ·show Act.put _ (some 103) _=_
     simp only [Act.put,qs1,qs2,qs3,qAH,qAI]
     rfl
    refine qAL (i:=8) (N:=some 104) (v := ?_) (a' := ?_) #[qT,qT,qT,qT,qT,qT,qT,qT,qT,qF,qF] rfl rfl (by kernel_rfl) (fun _ _ _ h=>h) (Or.inl ⟨by rfl, ?_⟩) ?_ ?_
    rotate_left
    ·intro w'
     go_simp
     with_reducible rfl
    rotate_left
    ·simp only [Act.put,qs1,qs2,qs3,qAH,qAI]
     rfl
    refine qAL (i:=9) (N:=some 105) (v := ?_) (a' := ?_) #[qT,qT,qT,qT,qT,qT,qT,qT,qT,qT,qF] rfl rfl (by kernel_rfl) (fun _ _ _ h=>h) (Or.inl ⟨by rfl, ?_⟩) ?_ ?_
    rotate_left
    ·intro w'
     go_simp
     with_reducible rfl
    rotate_left
    ·simp only [Act.put,qs1,qs2,qs3,qAH,qAI]
     rfl
    refine last_ (i:=10) (N:=none) #[qT,qT,qT,qT,qT,qT,qT,qT,qT,qT,qT] rfl rfl (by kernel_rfl) (by decide) (fun K hK => ?_)
    refine skip_ (w1 := ?_) (by rfl) rfl ?_ ?_
    rotate_left
    ·go_simp
     rfl
    clear s3 s3f
    refine hK.out _ _ ?_
    clear hK K
    refine qBM (by kernel_rfl) ?_
    have R12:=qAA.mk (show sa.RB7 (w11.setCell ⟨g,3,none⟩ (.slice A11 (l.length+1) c11)) g B bs.length cb at_ (all+hw) (.slice A11 (l.length+1) c11) from qAz R11.out 3 _ rfl)
    have W12:=qAA.mk (show Below w0.heap.size w0 (w11.setCell ⟨g,3,none⟩ (.slice A11 (l.length+1) c11)) from qAP W11.out HG.out)
    have Q12:=qAA.mk (Kd.R_far Q11.out (p:=⟨g,3,none⟩) (fun k hk=>hk) (.slice A11 (l.length+1) c11))
    generalize w11.setCell ⟨g,3,none⟩ (.slice A11 (l.length+1) c11)=w12 at *
    have z1:w12.cell? ⟨g,1,none⟩=some (.int .i64 at_):=(qAB R12.out 1).trans rfl
    have z1f:=qAC R12.out 1
    go_wp2
    go_ret2
    exact ⟨rfl,qAP W12.out HG.out,_,qAz R12.out 1 _ rfl,Kd.R_far Q12.out (p:=⟨g,1,none⟩) (fun k hk=>hk) _⟩
end
end Go.Proofs.Ytdommiicjpjfpaa.X
namespace Go.Proofs.Ytdommiicjpjfpaa.X
open Go.RowKit Go.Proofs.YtdommiicjpjfpaaW.PrintWords Go.Proofs.YtdommiicjpjfpaaW.PrintLast Go.Proofs.YtdommiicjpjfpaaW.PrintMore Go.Proofs.YtdommiicjpjfpaaW
section
set_option maxHeartbeats 4000000
set_option maxRecDepth 100000
open Go.Proofs.Ytdommiicjpjfpaa Go.Proofs.Ytdommiicjpjfpaa.Pl
def sa.decL (bs:List Int):Nat→Int→Int→List S51→sa.R3 (List S51)
 | 0,a,all,l=>.ok l a all
 | k+1,a,all,l=>match sa.entF bs a all l with
  | .bad c p=>.bad c p
  | .ok l2 a2 all2=>sa.decL bs k a2 all2 l2
def sa.decF (bs:List Int):Int × Int × List S51 :=
 if (bs.length:Int) < 4 ∨ bs.take 4 ≠ [83,83,84,49] then (71,0,[])
 else if (qAk bs 4).2.2 ≠ 0 then (71,4,[])
 else if (qAk bs 4).1 > 128 then (70,4,[])
 else match sa.decL bs (qAk bs 4).1.toNat (qAk bs 4).2.1 0 [] with
  | .bad c p=>(c,p,[])
  | .ok l a _=>if a < (bs.length:Int) then (72,a,[]) else (0,0,l)
theorem sa.entF_ok {bs:List Int} {a all:Int} {l l2:List S51} {a2 all2:Int} (h0:0≤all) (h:sa.entF bs a all l=.ok l2 a2 all2):l2.length=l.length+1∧0≤all2∧all2≤32768:=by
 unfold sa.entF at h
 split at h
 ·cases h
 split at h
 ·cases h
 split at h
 ·cases h
 ·split at h
  ·cases h
  ·rename_i hq
   injection h with e1 e2 e3
   subst e1
   refine ⟨by simp, ?_,by omega⟩
   have:(0:Int)≤sa.hv ⟨(qBk bs a 32).1,‹S34›⟩:=by unfold sa.hv;omega
   omega
def sa.DecT (c p:Int) (l:List S51) (w:World) (e:Ending) (w':World):Prop:=Below w.heap.size w w'∧∃ v,e=.returned (.tuple #[v,.int .i64 p,.int .i64 c])∧sa.ke.R 51 w' w.heap.size (fun _=>True) v l
theorem sa.dec_none {c p:Int} {w w':World} {e:Ending} (he:e=.returned (.tuple #[.slice none 0 0,.int .i64 p,.int .i64 c])) (hb:Below w.heap.size w w'):sa.DecT c p [] w e w':=⟨hb,_,he,Kd.qBn _ _ _ _ _⟩
set_option maxHeartbeats 16000000 in
theorem sa.dec22 {bs:List Int} (hb:Bytes bs) (hl:bs.length≤140737488351232) {w:World} {A:Option Addr} {c:Nat} (hC:(Kd.int .u8).C w A bs.length bs) (hc:bs.length≤c) :
  Calls Try.prog 22 #[.slice A bs.length c] w (sa.DecT (sa.decF bs).1 (sa.decF bs).2.1 (sa.decF bs).2.2 w):=by
 have hu75:=Try.underlying75
 have hu44:=Try.underlying44
 have HCC:=qAA.mk (fun (W:World) (hb2:Below w.heap.size w W)=>Kd.qAZ hC hb2)
 have HUC:=qAA.mk (fun (W:World) (hb2:Below w.heap.size w W)=>qAd.calls 24 A c bs 4 (qAk bs 4).1 (qAk bs 4).2.1 (qAk bs 4).2.2 W (Kd.qAZ hC hb2) hc (by rw [Uint_eq 24 (Nat.le_refl _) bs hb (by omega) 4]))
 have HUR:=qAA.mk (qBS bs hb 4)
 have HE:=qAA.mk (fun (W:World) (g:Nat) (at_ all:Int) (vl:Value) (l:List S51) (hg:w.heap.size≤g) (hW:Below w.heap.size w W) (hR:sa.RB7 W g A bs.length c at_ all vl) (hO:sa.ke.R 51 W w.heap.size (fun k=>k ≠ g) vl l) (hal:0≤all∧all≤32768) (hll:l.length≤1000)=>sa.entry41 hb hl hC hc hg hW hR hO hal hll)
 have HLE:=qAA.mk hl
 have HCL:=qAA.mk hc
 have HB:=qAA.mk hb
 unfold sa.decF
 by_cases h4:(bs.length:Int) < 4
 ·rw [if_pos (Or.inl h4)]
  have i1:decide ((bs.length:Int) < 4)=true:=decide_eq_true h4
  have i2:decide (bs.length < 4)=true:=decide_eq_true (by omega)
  clear h4 hb hl hC hc
  go_enter Try.func22,Try.ntmps22
  go_wp2
  refine bodyPost_ret (results_tmp3 rfl _ _ _) rfl ?_
  exact sa.dec_none rfl (Below.refl _ _)
 have i1:decide ((bs.length:Int) < 4)=false:=decide_eq_false h4
 have i2:decide (bs.length < 4)=false:=decide_eq_false (by omega)
 have ht4:(bs.take 4).length=4:=by rw [List.length_take];omega
 obtain ⟨i0,hi0,_,_,_⟩:=info_parts (show (Try.prog.info? 5).map (fun i=>(i.zero,i.size,i.bytes))=some (some (.int .u8 0),1,1) by kernel_rfl)
 have CUT:=cut_to (P:=Try.prog) 44 5 .i64 Try.underlying44 hi0 A bs.length c 4 (by omega) (by omega) hc
 have CV:=Kd.qBv (P:=Try.prog) (c:=c) Try.underlying44 Try.underlying5 Try.underlying9 (Kd.C_take hC (m:=4) (by omega))
 rw [ht4] at CV
 have hmg:strOfNums [83,83,84,49]=⟨#[83,83,84,49]⟩:=by rfl
 clear h4 hC hc
 by_cases hm:bs.take 4=[83,83,84,49]
 case neg =>
  rw [if_pos (Or.inr hm)]
  have hne:strOfNums (bs.take 4) ≠ (⟨#[83,83,84,49]⟩:ByteArray):=fun h=>hm (str_inj (fun z hz=>hb z (List.mem_of_mem_take hz)) (qBO (by decide) (by decide) (qBO (by decide) (by decide) (qBO (by decide) (by decide) (qBO (by decide) (by decide) Bytes.nil)))) (h.trans hmg.symm))
  generalize strOfNums (bs.take 4)=s1 at CV hne
  have j1:(s1.toList == [83,83,84,49])=false:=by simpa using fun h=>hne (toList_inj (h.trans (by rw [ByteArray.toList_eq])))
  have j2:(s1.toList != [83,83,84,49])=true:=by simpa using fun h=>hne (toList_inj (h.trans (by rw [ByteArray.toList_eq])))
  clear hm hne hb hl hmg
  go_enter Try.func22,Try.ntmps22
  go_wp2
  refine bodyPost_ret (results_tmp3 rfl _ _ _) rfl ?_
  exact sa.dec_none rfl (Below.refl _ _)
 rw [hm,hmg] at CV
 rw [if_neg (by
   rintro (h | h);· simp only [decide_eq_false_iff_not] at i1;exact i1 h
   ·exact h hm)]
 clear hm hmg hb hl
 have hUO:=fun h=>qBi bs HB.out 4 h
 generalize qAk bs 4=u at *
 obtain ⟨n1,nx,e1⟩:=u
 dsimp only
 dsimp only at HUC HUR hUO
 by_cases h1:e1 ≠ 0
 ·rw [if_pos h1]
  have d1:(e1 != 0)=true:=bne_iff_ne.2 h1
  have d2:(e1 == 0)=false:=beq_eq_false_iff_ne.2 h1
  have d3:decide (e1=0)=false:=decide_eq_false h1
  clear h1 hUO
  go_enter Try.func22,Try.ntmps22
  go_wp2_with (first | (go_at_call 40;refine (HUC.out _ (Below.refl _ _)).mono ?_;rintro e_ w2 ⟨rfl,hd⟩;have B2:=qAA.mk hd.below;clear hd))
  refine bodyPost_ret (results_tmp3 rfl _ _ _) rfl ?_
  exact sa.dec_none rfl B2.out
 rw [if_neg h1]
 have he1:e1=0:=Classical.byContradiction h1
 subst he1
 have HUO:=qAA.mk (hUO rfl)
 clear h1 hUO
 by_cases h2:n1 > 128
 ·rw [if_pos h2]
  have d1:decide (n1 > 128)=true:=decide_eq_true h2
  have d2:decide (128 < n1)=true:=decide_eq_true h2
  clear h2
  go_enter Try.func22,Try.ntmps22
  go_wp2_with (first | (go_at_call 40;refine (HUC.out _ (Below.refl _ _)).mono ?_;rintro e_ w2 ⟨rfl,hd⟩;have B2:=qAA.mk hd.below;clear hd))
  refine bodyPost_ret (results_tmp3 rfl _ _ _) rfl ?_
  exact sa.dec_none rfl B2.out
 rw [if_neg h2]
 have d1:decide (n1 > 128)=false:=decide_eq_false h2
 have d2:decide (128 < n1)=false:=decide_eq_false h2
 obtain ⟨n,rfl⟩:∃ n:Nat,n1=(n:Int):=⟨n1.toNat,by have:=HUR.out.1;omega⟩
 have hn:n≤128:=by omega
 have hwn:wrap64 (n:Int)=(n:Int):=by unfold wrap64;omega
 have hwn2:IntKind.i64.wrap (n:Int)=(n:Int):=(qAH _).trans hwn
 have HN:=qAA.mk hn
 rw [Int.toNat_natCast]
 generalize hRR:sa.decL bs n nx 0 []=r
 have HRR:=qAA.mk hRR
 clear h2 hn hRR
 go_enter Try.func22,Try.ntmps22
 go_wp2_with (first | (go_at_call 40;refine (HUC.out _ (Below.refl _ _)).mono ?_;rintro e_ w2 ⟨rfl,hd⟩;have B2:=qAA.mk hd.below;clear hd) | ((with_reducible refine qAi (N:=33) rfl ?_);refine qAe ?hg (N:=33) ?hd (cs:=#[.slice A bs.length c,.int .i64 nx,.int .i64 0,.slice none 0 0]) (t:=75) ?hr ?_;(case hd=>rfl);(case hg=>rfl);(case hr=>first | (go_simp;done) | (go_simp;rfl));intro g hg w3 hbox hb1;have R3:=qAA.mk (show sa.RB7 w3 g A bs.length c nx 0 (.slice none 0 0) from hbox);have B3:=qAA.mk (qAS B2.out hb1);have HG:=qAA.mk (show w.heap.size≤g from by rw [hg];exact B2.out.size);clear hbox hb1 hg))
 go_loopw [36] (fun v36 wr=>∃ (j:Nat) (at_ all:Int) (l:List S51) (vl:Value),v36=.int .i64 (j:Int)∧qAA (j≤n∧sa.decL bs (n - j) at_ all l=r∧l.length=j∧0≤all∧all≤32768)∧qAA (sa.RB7 wr g A bs.length c at_ all vl)∧qAA (sa.ke.R 51 wr w.heap.size (fun k=>k ≠ g) vl l)∧qAA (Below w.heap.size w wr)) (fun v36 _=>n - (intOf v36).toNat)
 case atStart=>exact ⟨0,nx,0,[],.slice none 0 0,rfl,⟨Nat.zero_le _,HRR.out,rfl,by omega,by omega⟩,R3,⟨Kd.qBn _ _ _ _ _⟩,B3⟩
 case round =>
  clear R3 B3
  obtain ⟨j,at_,all,l,vl,rfl,HJ,HR,HO,HW⟩:=hrel
  by_cases hlt:j < n
  ·have k1:decide ((j:Int) < (n:Int))=true:=decide_eq_true (by omega)
   have k2:decide (j < n)=true:=decide_eq_true hlt
   have k3:(j < n)=True:=eq_true hlt
   have hw1:wrap64 ((j:Int)+1)=(j:Int)+1:=by have:=HN.out;unfold wrap64;omega
   have HWR:=qAA.mk hw1
   have hdl:sa.decL bs (n - j) at_ all l=match sa.entF bs at_ all l with
    | .bad c p=>.bad c p
    | .ok l2 a2 all2=>sa.decL bs (n - (j+1)) a2 all2 l2:=by
    rw [show n - j=(n - (j+1))+1 by omega]
    rfl
   have ET:=qAA.mk (HE.out wr g at_ all vl l HG.out HW.out HR.out HO.out ⟨HJ.out.2.2.2.1,HJ.out.2.2.2.2⟩ (by have:=HJ.out.2.2.1;have:=HN.out;omega))
   rcases hr:sa.entF bs at_ all l with ⟨l2,a2,all2⟩ | ⟨cc,pp⟩
   ·rw [hr] at ET hdl
    dsimp only at hdl
    have HDL:=qAA.mk (hdl.symm.trans HJ.out.2.1)
    have HOK:=qAA.mk (sa.entF_ok HJ.out.2.2.2.1 hr)
    have HLT:=qAA.mk hlt
    have ETO:=qAA.mk (show Calls Try.prog 41 #[.pointer (some ⟨g,0,none⟩)] wr (fun e w'=>e=.returned (.tuple #[.int .i64 0,.int .i64 0])∧Below w.heap.size w w'∧∃ vl,sa.RB7 w' g A bs.length c a2 all2 vl∧sa.ke.R 51 w' w.heap.size (fun k=>k ≠ g) vl l2) from ET.out)
    clear hr hdl hlt ET
    go_wp2_with (first | (go_at_call 41;refine ETO.out.mono ?_;rintro e_ w5 ⟨rfl,hb5,vl5,hr5,ho5⟩;have W5:=qAA.mk hb5;have R5:=qAA.mk hr5;have O5:=qAA.mk ho5;clear hb5 hr5 ho5))
    go_roundw
    case rel=>exact ⟨j+1,a2,all2,l2,vl5,by rw [HWR.out];rfl,⟨by have:=HLT.out;omega,HDL.out,by have:=HOK.out.1;have:=HJ.out.2.2.1;omega,HOK.out.2.1,HOK.out.2.2⟩,R5,O5,W5⟩
    case measure =>
     rw [HWR.out]
     show n - ((j:Int)+1).toNat < n - ((j:Int)).toNat
     have:=HLT.out
     omega
   ·rw [hr] at ET hdl
    dsimp only at hdl
    have hrr:=HJ.out.2.1.symm.trans hdl
    have hcc:cc ≠ 0:=by
     have h:=hr
     unfold sa.entF at h
     split at h
     ·injection h with h _;omega
     split at h
     ·injection h with h _;omega
     split at h
     ·injection h with h _;omega
     ·split at h
      ·injection h with h _;omega
      ·cases h
    have d3:(cc != 0)=true:=bne_iff_ne.2 hcc
    have d4:(cc == 0)=false:=beq_eq_false_iff_ne.2 hcc
    have d5:decide (cc=0)=false:=decide_eq_false hcc
    have ETB:=qAA.mk (show Calls Try.prog 41 #[.pointer (some ⟨g,0,none⟩)] wr (fun e w'=>e=.returned (.tuple #[.int .i64 pp,.int .i64 cc])∧Below w.heap.size w w') from ET.out)
    subst hrr
    try dsimp only
    clear hr hdl hlt ET hcc HRR HJ
    go_wp2_with (first | (go_at_call 41;refine ETB.out.mono ?_;rintro e_ w5 ⟨rfl,hb5⟩;have W5:=qAA.mk hb5;clear hb5))
    refine bodyPost_ret (results_tmp3 rfl _ _ _) rfl ?_
    exact sa.dec_none rfl W5.out
  ·obtain rfl:j=n:=by have:=HJ.out.1;omega
   have k1:decide ((j:Int) < (j:Int))=false:=decide_eq_false (by omega)
   have k2:decide (j < j)=false:=decide_eq_false (by omega)
   have hrr:sa.R3.ok l at_ all=r:=by have h:=HJ.out.2.1;rw [Nat.sub_self] at h;exact h
   subst hrr
   try dsimp only
   clear hlt HRR
   have z1:wr.cell? ⟨g,1,none⟩=some (.int .i64 at_):=(qAB HR.out 1).trans rfl
   have z3:wr.cell? ⟨g,3,none⟩=some vl:=(qAB HR.out 3).trans rfl
   by_cases hend:at_ < (bs.length:Int)
   ·have k5:decide (at_ < (bs.length:Int))=true:=decide_eq_true hend
    have k6:(at_ < (bs.length:Int))=True:=eq_true hend
    go_wp2
    clear z1 z3
    refine qAy (n:=7) (S:=fun w'=>w'.cell? ⟨g,1,none⟩=some (.int .i64 at_)) (ds:=[]) #[qF,qF,qF,qF,qF,qF,qF] (by kernel_rfl) rfl rfl ((qAB (show wr.drew.heap[g]?=_ from HR.out) 1).trans rfl) (fun hHeld => ?_)
    generalize hwd:wr.drew=wd at hHeld ⊢
    have Wd:=qAA.mk (hwd▸qAX HW.out)
    clear hwd
    refine qAL (i:=0) (N:=some 55) (v := ?_) (a' := ?_) #[qT,qF,qF,qF,qF,qF,qF] rfl rfl (by kernel_rfl) (fun _ _ _ h=>h) (Or.inl ⟨by rfl, ?_⟩) ?_ ?_
    rotate_left
    ·intro w'
     go_simp
     with_reducible rfl
    rotate_left
    ·simp only [Act.put,qs1,qs2,qs3,qAH,qAI]
     rfl
    refine qAL (i:=1) (N:=some 56) (v := ?_) (a' := ?_) #[qT,qT,qF,qF,qF,qF,qF] rfl rfl (by kernel_rfl) (fun _ _ _ h=>h) (Or.inl ⟨by rfl, ?_⟩) ?_ ?_
    rotate_left
    ·intro w'
     go_simp
     with_reducible rfl
    rotate_left
    ·simp only [Act.put,qs1,qs2,qs3,qAH,qAI]
     rfl
    refine qAL (i:=2) (N:=some 57) (v := ?_) (a' := ?_) #[qT,qT,qT,qF,qF,qF,qF] rfl rfl (by kernel_rfl) (fun _ _ _ h=>h) (Or.inl ⟨by rfl, ?_⟩) ?_ ?_
    rotate_left
    ·intro w'
     go_simp
     with_reducible rfl
    rotate_left
    ·simp only [Act.put,qs1,qs2,qs3,qAH,qAI]
     rfl
    refine qAL (i:=4) (N:=some 2) (v := ?_) (a' := ?_) #[qT,qT,qT,qF,qT,qF,qF] rfl rfl (by kernel_rfl) (fun _ _ _ h=>h) (Or.inl ⟨by rfl, ?_⟩) ?_ ?_
    rotate_left
    ·intro w'
     go_simp
     with_reducible rfl
    rotate_left
    ·simp only [Act.put,qs1,qs2,qs3,qAH,qAI]
     rfl
    refine qAt (i:=3) (N:=some 58) (v := ?_) (a' := ?_) #[qT,qT,qT,qT,qT,qF,qF] rfl rfl (by kernel_rfl) (fun _ _ _ h=>h) (Or.inl ⟨by rfl, ?_⟩) hHeld ?_ ?_
    rotate_left
    ·intro w' s0
     go_simp
     with_reducible rfl
    rotate_left
    ·simp only [Act.put,qs1,qs2,qs3,qAH,qAI]
     rfl
    refine qAL (i:=5) (N:=some 3) (v := ?_) (a' := ?_) #[qT,qT,qT,qT,qT,qT,qF] rfl rfl (by kernel_rfl) (fun _ _ _ h=>h) (Or.inl ⟨by rfl, ?_⟩) ?_ ?_
    rotate_left
    ·intro w'
     go_simp
     with_reducible rfl
    rotate_left
    ·simp only [Act.put,qs1,qs2,qs3,qAH,qAI]
     rfl
    refine qAL (i:=6) (N:=some 4) (v := ?_) (a' := ?_) #[qT,qT,qT,qT,qT,qT,qT] rfl rfl (by kernel_rfl) (fun _ _ _ h=>h) (Or.inl ⟨by rfl, ?_⟩) ?_ ?_
    rotate_left
    ·intro w'
     go_simp
     with_reducible rfl
    rotate_left
    ·simp only [Act.put,qs1,qs2,qs3,qAH,qAI]
     rfl
    refine qBM (by kernel_rfl) ?_
    go_wp2
    refine bodyPost_ret (results_tmp3 rfl _ _ _) rfl ?_
    dsimp only
    exact sa.dec_none rfl Wd.out
   ·have k5:decide (at_ < (bs.length:Int))=false:=decide_eq_false hend
    have k6:(at_ < (bs.length:Int))=False:=eq_false hend
    go_wp2
    refine bodyPost_ret (results_tmp3 rfl _ _ _) rfl ?_
    dsimp only
    exact ⟨HW.out,_,rfl,Kd.qB2 HO.out (fun _ _=>trivial)⟩
end
end Go.Proofs.Ytdommiicjpjfpaa.X
namespace Go.Proofs.Ytdommiicjpjfpaa.X
open Go.RowKit Go.Proofs.YtdommiicjpjfpaaW.PrintWords Go.Proofs.YtdommiicjpjfpaaW.PrintLast Go.Proofs.YtdommiicjpjfpaaW.PrintMore Go.Proofs.YtdommiicjpjfpaaW
section
set_option maxHeartbeats 4000000
set_option maxRecDepth 100000
open Go.Proofs.Ytdommiicjpjfpaa Go.Proofs.Ytdommiicjpjfpaa.Pl
def sa.Ri (x:S51):Prop:=sa.Rt x.f1∧x.f0.toList ≠ []∧(x.f0.size:Int)≤32
def sa.Up (l:List S51):Prop:=∀ i,i+1 < l.length→Op.bytesLess (qAN l (i:Int)).f0.toList (qAN l ((i:Int)+1)).f0.toList=true
def sa.hvs:List S51→Int
 | []=>0
 | x :: l=>sa.hv x+sa.hvs l
def sa.RS (l:List S51):Prop:=(∀ x ∈ l,sa.Ri x)∧sa.Up l∧sa.hvs l≤32768∧l.length≤128
theorem sa.hv_pos (x:S51):0 < sa.hv x:=by unfold sa.hv;omega
theorem sa.hvs_pos:∀ l:List S51,0≤sa.hvs l
 | []=>Int.le_refl _
 | x :: l=>by
  have:=sa.hvs_pos l
  have:=sa.hv_pos x
  unfold sa.hvs
  omega
theorem sa.hvs_app:∀ (l m:List S51),sa.hvs (l ++ m)=sa.hvs l+sa.hvs m
 | [],m=>by simp [sa.hvs]
 | x :: l,m=>by
  have:=sa.hvs_app l m
  show sa.hv x+sa.hvs (l ++ m)=sa.hv x+sa.hvs l+sa.hvs m
  omega
theorem sa.heavy_all (x:S51) (hv:Val x.f1) (hs:x.f0.size≤140737488351232):(sa.Ri x∧Ev (fun k=>qAu.f k x.f0 x.f1.f0 x.f1.f1 x.f1.f2 x.f1.f3 x.f1.f4) (sa.hv x)) ∨ (¬ sa.Ri x∧Ev (fun k=>qAu.f k x.f0 x.f1.f0 x.f1.f1 x.f1.f2 x.f1.f3 x.f1.f4) 0):=by
 rcases sa.told1 x.f1 hv with ⟨hr,hp,_,hw⟩ | ⟨hn,_,hw⟩
 ·have hw2:=hr.2
  by_cases h0:x.f0.toList=[]
  ·refine Or.inr ⟨fun h=>h.2.1 h0, ?_⟩
   refine Ev.bind hw ?_
   rw [if_neg (by omega),if_pos h0]
   exact Ev.const
  by_cases h1:(x.f0.size:Int) > 32
  ·refine Or.inr ⟨fun h=>by have:=h.2.2;omega, ?_⟩
   refine Ev.bind hw ?_
   rw [if_neg (by omega),if_neg h0,if_pos h1]
   exact Ev.const
  ·refine Or.inl ⟨⟨hr,h0,by omega⟩, ?_⟩
   refine Ev.bind hw ?_
   rw [if_neg (by omega),if_neg h0,if_neg h1]
   have e:wrap64 (wrap64 (1+(x.f0.size:Int))+(wt x.f1:Int))=sa.hv x:=by unfold sa.hv wrap64;omega
   rw [e]
   exact Ev.const
 ·refine Or.inr ⟨fun h=>hn h.1, ?_⟩
  refine Ev.bind hw ?_
  rw [if_pos rfl]
  exact Ev.const
theorem sa.rd_take (l:List S51) (i:Nat) (hi:i < l.length):l.take (i+1)=l.take i ++ [qAN l (i:Int)]:=by
 have e:qAN l (i:Int)=l[i]:=by
  unfold qAN
  rw [Int.toNat_natCast,List.getD_eq_getElem?_getD,List.getElem?_eq_getElem hi]
  rfl
 rw [List.take_add_one,List.getElem?_eq_getElem hi,e]
 rfl
theorem sa.rd_mem (l:List S51) (i:Nat) (hi:i < l.length):qAN l (i:Int) ∈ l:=by
 have e:qAN l (i:Int)=l[i]:=by
  unfold qAN
  rw [Int.toNat_natCast,List.getD_eq_getElem?_getD,List.getElem?_eq_getElem hi]
  rfl
 rw [e]
 exact List.getElem_mem hi
theorem sa.hvs_take (l:List S51) (i:Nat):sa.hvs (l.take i)≤sa.hvs l:=by
 have h:=sa.hvs_app (l.take i) (l.drop i)
 rw [List.take_append_drop] at h
 have:=sa.hvs_pos (l.drop i)
 omega
theorem sa.right_ev (l:List S51) (hv:∀ x ∈ l,Val x.f1∧x.f0.size≤140737488351232) (hl:l.length≤9223372036854775000):∃ b,Ev (fun k=>qAa.f k l) b∧(b=true ↔ sa.RS l):=by
 have main:∀ (d i:Nat),i+d=l.length→(∀ x ∈ l.take i,sa.Ri x)→(∀ j,j+1 < i→Op.bytesLess (qAN l (j:Int)).f0.toList (qAN l ((j:Int)+1)).f0.toList=true)→sa.hvs (l.take i)≤32768→∃ b,Ev (fun k=>qAa.l0 k l (sa.hvs (l.take i)) l (l.length:Int) (i:Int)) b∧(b=true ↔ sa.RS l):=by
  intro d
  induction d with
  | zero =>
   intro i hi hR hU hw
   refine ⟨decide ((l.length:Int)≤128),Ev.step Ev.const (fun k=>by rw [qAa.l0,if_neg (by omega)]), ?_⟩
   rw [List.take_of_length_le (by omega)] at hR hw
   rw [decide_eq_true_iff]
   exact ⟨fun h=>⟨hR,fun j hj=>hU j (by omega),hw,by omega⟩,fun h=>by have:=h.2.2.2;omega⟩
  | succ d ih =>
   intro i hi hR hU hw
   have hil:i < l.length:=by omega
   have hx:=sa.rd_mem l i hil
   have ht:=sa.rd_take l i hil
   have hno:∀ (a b:Int),Ev (fun k=>qAa.j1 k l a b l (l.length:Int) (i:Int) true) false:=fun a b=>Ev.step Ev.const (fun k=>by rw [qAa.j1,if_pos rfl])
   have hstep:∀ (F:Nat→Int→Option Bool) (b:Bool) (v:Int),(∀ k t,F k t=if t=0 then qAa.j1 k l (sa.hvs (l.take i)) t l (l.length:Int) (i:Int) true else if (i:Int) > 0 then (if 0≤wrap64 ((i:Int) - 1) then (if wrap64 ((i:Int) - 1) < (l.length:Int) then qAa.j1 k l (sa.hvs (l.take i)) t l (l.length:Int) (i:Int) (!(Op.bytesLess ((qAN l (wrap64 ((i:Int) - 1))).f0).toList ((qAN l (i:Int)).f0).toList)) else none) else none) else qAa.j1 k l (sa.hvs (l.take i)) t l (l.length:Int) (i:Int) false) →
     Ev (fun k=>qAu.f k ((qAN l (i:Int)).f0) ((qAN l (i:Int)).f1.f0) ((qAN l (i:Int)).f1.f1) ((qAN l (i:Int)).f1.f2) ((qAN l (i:Int)).f1.f3) ((qAN l (i:Int)).f1.f4)) v→Ev (fun k=>F k v) b→Ev (fun k=>qAa.l0 k l (sa.hvs (l.take i)) l (l.length:Int) (i:Int)) b:=fun F b v hF h1 h2 =>
    Ev.step (Ev.bind (F:=F) h1 h2) (fun k=>by
     rw [qAa.l0,if_pos (by omega),if_pos (by omega),if_pos (by omega)]
     congr 1
     funext t
     rw [hF])
   have hgo:∀ (b:Bool),Ev (fun k=>qAa.l0 k l (sa.hvs (l.take (i+1))) l (l.length:Int) ((i+1:Nat):Int)) b→sa.hvs (l.take (i+1))≤32768→Ev (fun k=>qAa.j1 k l (sa.hvs (l.take i)) (sa.hv (qAN l (i:Int))) l (l.length:Int) (i:Int) false) b:=fun b h hle=>by
    have e:sa.hvs (l.take (i+1))=sa.hvs (l.take i)+sa.hv (qAN l (i:Int)):=by rw [ht,sa.hvs_app];simp [sa.hvs]
    have h0:=sa.hvs_pos (l.take i)
    have h1:=sa.hv_pos (qAN l (i:Int))
    have hw1:wrap64 (sa.hvs (l.take i)+sa.hv (qAN l (i:Int)))=sa.hvs (l.take (i+1)):=by unfold wrap64;omega
    have hw2:wrap64 ((i:Int)+1)=((i+1:Nat):Int):=by unfold wrap64;omega
    refine Ev.step h (fun k => ?_)
    rw [qAa.j1,if_neg (by decide),hw1,if_neg (by omega),hw2]
   have hbig:sa.hvs (l.take (i+1)) > 32768→sa.hv (qAN l (i:Int))≤4000→Ev (fun k=>qAa.j1 k l (sa.hvs (l.take i)) (sa.hv (qAN l (i:Int))) l (l.length:Int) (i:Int) false) false:=fun hgt h4=>by
    have e:sa.hvs (l.take (i+1))=sa.hvs (l.take i)+sa.hv (qAN l (i:Int)):=by rw [ht,sa.hvs_app];simp [sa.hvs]
    have h0:=sa.hvs_pos (l.take i)
    have h1:=sa.hv_pos (qAN l (i:Int))
    have hw1:wrap64 (sa.hvs (l.take i)+sa.hv (qAN l (i:Int)))=sa.hvs (l.take (i+1)):=by unfold wrap64;omega
    refine Ev.step (Ev.const (r:=false)) (fun k => ?_)
    rw [qAa.j1,if_neg (by decide),hw1,if_pos hgt]
   rcases sa.heavy_all _ (hv _ hx).1 (hv _ hx).2 with ⟨hri,hh⟩ | ⟨hri,hh⟩
   ·have h4:sa.hv (qAN l (i:Int))≤4000:=by have:=hri.1.2;have:=hri.2.2;unfold sa.hv;omega
    have h1:=sa.hv_pos (qAN l (i:Int))
    have hRn:∀ x ∈ l.take (i+1),sa.Ri x:=fun x hx2=>by
     rw [ht] at hx2
     rcases List.mem_append.1 hx2 with hx2 | hx2
     ·exact hR x hx2
     ·rw [show x=_ by simpa using hx2];exact hri
    have hlast:∀ (hUn:∀ j,j+1 < i+1→Op.bytesLess (qAN l (j:Int)).f0.toList (qAN l ((j:Int)+1)).f0.toList=true),∃ b,Ev (fun k=>qAa.j1 k l (sa.hvs (l.take i)) (sa.hv (qAN l (i:Int))) l (l.length:Int) (i:Int) false) b∧(b=true ↔ sa.RS l):=fun hUn=>by
     by_cases hle:sa.hvs (l.take (i+1))≤32768
     ·obtain ⟨b,h,hb⟩:=ih (i+1) (by omega) hRn hUn hle
      exact ⟨b,hgo b h hle,hb⟩
     ·exact ⟨false,hbig (by omega) h4,⟨fun h=>by (cases h),fun h=>by have:=h.2.2.1;have:=sa.hvs_take l (i+1);omega⟩⟩
    rcases Nat.eq_zero_or_pos i with h0 | h0
    ·subst h0
     obtain ⟨b,h,hb⟩:=hlast (fun j hj=>by omega)
     exact ⟨b,hstep _ b _ (fun k t=>rfl) hh (Ev.congr h (fun k=>by rw [if_neg (by omega),if_neg (by omega)])),hb⟩
    ·obtain ⟨p,rfl⟩:∃ p,i=p+1:=⟨i - 1,by omega⟩
     have hwp:wrap64 (((p+1:Nat):Int) - 1)=(p:Int):=by unfold wrap64;omega
     cases hlt:Op.bytesLess (qAN l (p:Int)).f0.toList (qAN l ((p+1:Nat):Int)).f0.toList with
     | true =>
      obtain ⟨b,h,hb⟩:=hlast (fun j hj=>by
       by_cases e:j=p
       ·subst e
        rw [show (j:Int)+1=((j+1:Nat):Int) by omega]
        exact hlt
       ·exact hU j (by omega))
      exact ⟨b,hstep _ b _ (fun k t=>rfl) hh (Ev.congr h (fun k=>by rw [if_neg (by omega),if_pos (by omega),hwp,if_pos (by omega),if_pos (by omega),hlt];rfl)),hb⟩
     | false =>
      refine ⟨false,hstep _ false _ (fun k t=>rfl) hh (Ev.congr (hno _ _) (fun k=>by rw [if_neg (by omega),if_pos (by omega),hwp,if_pos (by omega),if_pos (by omega),hlt];rfl)),⟨fun h=>by (cases h),fun h => ?_⟩⟩
      have:=h.2.1 p (by omega)
      rw [show (p:Int)+1=((p+1:Nat):Int) by omega,hlt] at this
      cases this
   ·refine ⟨false,hstep _ false _ (fun k t=>rfl) hh (Ev.congr (hno _ _) (fun k=>by rw [if_pos rfl])),⟨fun h=>by (cases h),fun h=>absurd (h.1 _ hx) hri⟩⟩
 obtain ⟨b,h,hb⟩:=main l.length 0 (by omega) (fun x hx=>by simp at hx) (fun j hj=>by omega) (by simp [sa.hvs])
 exact ⟨b,h,hb⟩
theorem sa.wenc_ev (x:S34) (hv:Val x) (hr:sa.Rt x):Ev (fun k=>qBb.f k x.f0 x.f1 x.f2 x.f3 x.f4) (en x,0):=by
 rcases sa.told1 x hv with ⟨_,_,hR,_⟩ | ⟨hn,_,_⟩
 ·have hlen:=(en_len x hv).1
  have hw:=hr.2
  have hp:=put_ev x hv (sa.okV_frm 8 x hr.1) [] (by simp only [List.length_nil];omega)
  refine Ev.bind (F:=fun k ok=>if ok=true then (qA5.f []).bind fun b=>(qAQ.f k b x.f0 x.f1 x.f2 x.f3 x.f4).bind fun r=>some (r,0) else some ([],40)) hR ?_
  refine Ev.congr (h:=fun k=>(qAQ.w k [] x.f0 x.f1 x.f2 x.f3 x.f4).bind fun r=>some (r,0)) (Ev.bind (F:=fun k r=>some (r,0)) hp Ev.const) (fun k => ?_)
  rw [if_pos rfl]
  rfl
 ·exact absurd hr hn
def sa.e51 (x:S51):List Int:=X.str x.f0 ++ en x.f1
def sa.enS (l:List S51):List Int:=[83,83,84,49] ++ lst sa.e51 l
def sa.EncS (l:List S51) (w:World) (e:Ending) (w':World):Prop :=
 (¬ sa.RS l∧e=.returned (.tuple #[.slice none 0 0,.int .i64 70])∧Below w.heap.size w w') ∨
 (sa.RS l∧∃ v,e=.returned (.tuple #[v,.int .i64 0])∧(Kd.int .u8).R 5 w' w.heap.size (fun _=>True) v (sa.enS l)∧Below w.heap.size w w')
theorem sa.encS_bad {l:List S51} {w w':World} {e:Ending} (h:¬ sa.RS l) (he:e=.returned (.tuple #[.slice none 0 0,.int .i64 70])) (hb:Below w.heap.size w w'):sa.EncS l w e w':=Or.inl ⟨h,he,hb⟩
theorem sa.encS_ok {l:List S51} {w w':World} {e:Ending} {v:Value} {d:List Int} (h:sa.RS l) (he:e=.returned (.tuple #[v,.int .i64 0])) (hd:d=sa.enS l) (hr:(Kd.int .u8).R 5 w' w.heap.size (fun _=>True) v d) (hb:Below w.heap.size w w'):sa.EncS l w e w':=Or.inr ⟨h,v,he,hd▸hr,hb⟩
theorem sa.magic_row (W:World):(Kd.int .u8).C (W.alloc (.cells #[.int .u8 83,.int .u8 83,.int .u8 84,.int .u8 49] 5 (4,5))) (some ⟨W.heap.size,0,none⟩) 4 [83,83,84,49] :=
 Kd.C_of_reads (enc:=Value.int .u8) (d:=(0:Int)) (h1:=fun _=>rfl) ⟨rfl,by decide,fun _=>⟨_,rfl,fun j hj=>by
  have hj:j < 4:=hj
  rw [add_plain,cell_of_row _ W.heap.size j _ 5 (4,5) (heap_alloc_new W _)]
  obtain rfl | rfl | rfl | rfl:j=0 ∨ j=1 ∨ j=2 ∨ j=3:=by omega
  all_goals rfl⟩⟩
theorem sa.flat_le {α:Type} (c:α→List Int) (m:Nat):∀ (l:List α),(∀ x ∈ l,(c x).length≤m)→((l.map c).flatten).length≤m * l.length
 | [],_=>by simp
 | x :: l,h=>by
  have h1:=sa.flat_le c m l (fun y hy=>h y (List.mem_cons_of_mem _ hy))
  have h2:=h x List.mem_cons_self
  simp only [List.map_cons,List.flatten_cons,List.length_append,List.length_cons]
  rw [Nat.mul_add,Nat.mul_one]
  omega
theorem sa.e51_len {x:S51} (hv:Val x.f1) (h:sa.Ri x):(sa.e51 x).length≤30000:=by
 have h1:=(en_len x.f1 hv).1
 have h2:=h.1.2
 have h3:=h.2.2
 have h4:=qBW (x.f0.size:Int)
 unfold sa.e51 X.str
 simp only [List.length_append,qAs]
 omega
set_option maxHeartbeats 8000000 in
theorem sa.enc24 {l:List S51} {A:Option Addr} {c:Nat} (w:World) (hA:k51.C w A l.length l) (hc:l.length≤c) (hv:∀ x ∈ l,Val x.f1∧x.f0.size≤140737488351232) (hl:l.length≤9223372036854775000) :
  Calls Try.prog 24 #[.slice A l.length c] w (sa.EncS l w):=by
 have hu51:=Try.underlying51
 have hu44:=Try.underlying44
 have hu34:=Try.underlying34
 obtain ⟨b,⟨K,hK⟩,hb⟩:=sa.right_ev l hv hl
 have RC:=qAA.mk (qAa.calls K A c l b w hA hc (hK K (Nat.le_refl _)))
 cases b with
 | false =>
  have hn:¬ sa.RS l:=fun h=>by cases hb.2 h
  clear hb hK
  go_enter Try.func24,Try.ntmps24
  go_wp2_with (first | (go_at_call 25;refine RC.out.mono ?_;rintro e_ w2 ⟨rfl,hb⟩;have B2:=qAA.mk hb;clear hb))
  go_ret2
  exact sa.encS_bad hn rfl B2.out
 | true =>
  have hR:=hb.1 rfl
  have HR:=qAA.mk hR
  have HA:=qAA.mk hA
  have HV:=qAA.mk hv
  have HN:=qAA.mk hR.2.2.2
  have hw:IntKind.u64.wrap (l.length:Int)=(l.length:Int):=u64w _ (by omega) (by have:=hR.2.2.2;omega)
  have PUT:=qAA.mk (fun (W:World) (B:Option Addr) (hC:(Kd.int .u8).C W B 4 [83,83,84,49])=>show Calls Try.prog 46 #[.slice B 4 4,.int .u64 (l.length:Int)] W (fun e w'=>∃ v,e=.returned v∧(Kd.int .u8).R 5 w' W.heap.size (fun _=>True) v ([83,83,84,49] ++ putU (l.length:Int))∧Below W.heap.size W w') from qAc.calls 10 B 4 [83,83,84,49] (l.length:Int) ([83,83,84,49] ++ putU (l.length:Int)) W hC (by decide) (qCG 10 [83,83,84,49] (l.length:Int) (Nat.le_refl _) (by omega) (by have:=hR.2.2.2;omega) (by simp)))
  have kc:=fun (w:World) (C:Array Value) (n c:Nat)=>Lib.run_convert_bytes_const (P:=Try.prog) w 44 5 C n c Try.underlying44 Try.underlying5
  clear hb hK hA hc hv hl hR
  go_enter Try.func24,Try.ntmps24
  go_wp2_with (first | (go_at_call 25;refine RC.out.mono ?_;rintro e_ w2 ⟨rfl,hb⟩;have B2:=qAA.mk hb;clear hb) | (go_at_call 46;refine (PUT.out _ _ (sa.magic_row w2)).mono ?_;rintro e_ w3 ⟨v3,rfl,hr,hb⟩;have B3:=qAA.mk (qAS (qAF B2.out _) hb);have R3:=qAA.mk (Kd.qBp hr (Nat.le_trans B2.out.size (qAF (Below.refl w2.heap.size w2) _).size));clear hr hb))
  go_loopw [20,4] (fun v20 v4 wr=>∃ (j:Nat) (d:List Int),v20=.int .i64 (j:Int)∧qAA (j≤l.length∧d=[83,83,84,49] ++ (putU (l.length:Int) ++ ((l.take j).map sa.e51).flatten))∧qAA ((Kd.int .u8).R 5 wr w.heap.size (fun _=>True) v4 d)∧qAA (Below w.heap.size w wr)) (fun v20 _ _=>l.length - (intOf v20).toNat)
  case atStart=>exact ⟨0,[83,83,84,49] ++ putU (l.length:Int),rfl,⟨Nat.zero_le _,by simp⟩,R3,B3⟩
  case round =>
   clear R3 B3 B2
   obtain ⟨j,d,rfl,HJ,HO,HB⟩:=hrel
   obtain ⟨B,cb,e4⟩:=Kd.qBE HO.out
   subst e4
   by_cases hlt:j < l.length
   ·have k1:decide ((j:Int) < (l.length:Int))=true:=decide_eq_true (by omega)
    have k2:decide (j < l.length)=true:=decide_eq_true hlt
    have k3:(j < l.length)=True:=eq_true hlt
    have k4:(j:Int) < (l.length:Int):=by omega
    have HWR:=qAA.mk (show wrap64 ((j:Int)+1)=(j:Int)+1 from by have:=HN.out;unfold wrap64;omega)
    have hx:=sa.rd_mem l j hlt
    have ht:=sa.rd_take l j hlt
    have hlen:d.length≤5000000:=by
     have h1:=sa.flat_le sa.e51 30000 (l.take j) (fun y hy=>sa.e51_len (HV.out y (List.mem_of_mem_take hy)).1 (HR.out.1 y (List.mem_of_mem_take hy)))
     have h2:=qBW (l.length:Int)
     have h3:(l.take j).length≤128:=by rw [List.length_take];have:=HN.out;omega
     have h4:30000 * (l.take j).length≤30000 * 128:=Nat.mul_le_mul_left _ h3
     rw [HJ.out.2]
     simp only [List.length_append,List.length_cons,List.length_nil]
     omega
    obtain ⟨ad,A4,c4,A5,c5,ea,h0,h1,h2,h3,h4,h5,l4,g4,l5,g5⟩:=qB9 (Kd.qAZ HA.out HB.out) (j:Int) (by omega) k4
    subst ea
    rw [Int.toNat_natCast] at h0 h1 h2 h3 h4 h5
    generalize qAN l (j:Int)=x at *
    have hri:=HR.out.1 x hx
    have hvx:=(HV.out x hx).1
    obtain ⟨KE,hKE⟩:=sa.wenc_ev x.f1 hvx hri.1
    have EN:=qAA.mk (fun (W:World) (q4:k34.C W A4 x.f1.f3.length x.f1.f3) (q5:Kd.string.C W A5 x.f1.f4.length x.f1.f4)=>qBb.calls KE x.f1.f0 x.f1.f1 x.f1.f2 A4 c4 x.f1.f3 A5 c5 x.f1.f4 (en x.f1) 0 W q4 l4 q5 l5 (hKE KE (Nat.le_refl _)))
    have hel:(en x.f1).length≤30000:=by have h1:=(en_len x.f1 hvx).1;have h2:=hri.1.2;omega
    have PTX:=qAA.mk (fun (W:World) (hC:(Kd.int .u8).C W B d.length d) (hcb:d.length≤cb)=>qAx.calls 10 B cb d x.f0 (d ++ putU x.f0.size ++ bytesOf x.f0) W hC hcb (PutText_eq 10 d x.f0 (Nat.le_refl _) (by have:=hri.2.2;omega)))
    have HD2:=qAA.mk (show (d ++ putU x.f0.size ++ bytesOf x.f0) ++ en x.f1=[83,83,84,49] ++ (putU (l.length:Int) ++ ((l.take (j+1)).map sa.e51).flatten) from by
     rw [HJ.out.2,ht]
     simp [sa.e51,X.str])
    have hpl:=qBW (x.f0.size:Int)
    have HL2:=qAA.mk (show ((d ++ putU x.f0.size ++ bytesOf x.f0).length+(en x.f1).length) * 1≤140737488355328 from by
     have:=hri.2.2
     simp only [List.length_append,qAs]
     omega)
    generalize d ++ putU x.f0.size ++ bytesOf x.f0=d2 at *
    have G4:=qAA.mk g4;have G5:=qAA.mk g5
    have LB:=qAA.mk (show (wr.alloc (.cells #[.string x.f0,.int .i64 x.f1.f0,.int .i64 x.f1.f1,.string x.f1.f2,.slice A4 x.f1.f3.length c4,.slice A5 x.f1.f4.length c5] 51)).heap[wr.heap.size]?=some (.cells #[.string x.f0,.int .i64 x.f1.f0,.int .i64 x.f1.f1,.string x.f1.f2,.slice A4 x.f1.f3.length c4,.slice A5 x.f1.f4.length c5] 51 (0,0)) by simpa using heap_alloc_new wr _)
    have HJ2:=qAA.mk (show j+1≤l.length from hlt)
    clear hlt hx ht hlen hri hvx hKE hel hpl g4 g5 l4 l5 HJ
    go_wp2_with (first | (go_at_call 47;refine (EN.out _ (Kd.qAl G4.out _) (Kd.qAl G5.out _)).mono ?_;rintro e_ w5 ⟨Av,cv,rfl,hr,hle,hb⟩;have RV:=qAA.mk hr;have BV:=qAA.mk hb;have LB5:=qAA.mk (qAb LB.out hb);have O5:=qAA.mk (Kd.qA3 (Kd.qBr HO.out (.cells #[.string x.f0,.int .i64 x.f1.f0,.int .i64 x.f1.f1,.string x.f1.f2,.slice A4 x.f1.f3.length c4,.slice A5 x.f1.f4.length c5] 51)) hb);have B5:=qAA.mk (qAf (qAF HB.out (.cells #[.string x.f0,.int .i64 x.f1.f0,.int .i64 x.f1.f1,.string x.f1.f2,.slice A4 x.f1.f3.length c4,.slice A5 x.f1.f4.length c5] 51)) (qAF HB.out _).size hb);clear hr hle hb h0 h1 h2 h3 h4 h5;have y0:=(qAB LB5.out 0).trans rfl) | (go_at_call 48;refine (PTX.out _ (Kd.R_reads' O5.out).2.2 (Kd.R_reads' O5.out).2.1).mono ?_;rintro e_ w6 ⟨v6,rfl,hr,hb⟩;have R6:=qAA.mk (Kd.qBp hr B5.out.size);have RV6:=qAA.mk (Kd.qAZ RV.out hb);have B6:=qAA.mk (qAf B5.out B5.out.size hb);clear hr hb y0) | ((with_reducible refine qB8 (b:=.append) (xs:=#[.tmp 33,.tmp 34]) rfl ?_);at_builtin;refine Kd.R_append_rows (Kd.int .u8) (w0:=w) w.heap.size rfl (.tmp 33) (.tmp 34) 44 5 (.int .u8 0) 1 rfl Try.underlying44 info5 rfl (by decide) (by omega) v6 d2 (en x.f1) _ _ _ (fun _=>True) (fun _=>False) rfl rfl ?aO ?aR (fun _ _ h=>h) (fun _ h=>h.elim) ?aF ?aB ?aS ?aL ?_;(case aO=>exact R6.out);(case aR=>exact RV6.out);(case aF=>exact fun _ _=>trivial);(case aB=>exact B6.out);(case aS=>exact B6.out.size);(case aL=>exact HL2.out);intro v7 w7 ho hb hg hat;have R7:=qAA.mk ho;have B7:=qAA.mk hb;clear ho hb hg hat))
    go_roundw
    case rel=>exact ⟨j+1,_,by rw [HWR.out];rfl,⟨HJ2.out,HD2.out⟩,R7,B7⟩
    case measure =>
     rw [HWR.out]
     show l.length - ((j:Int)+1).toNat < l.length - ((j:Int)).toNat
     have:=HJ2.out
     omega
   ·have k1:decide ((j:Int) < (l.length:Int))=false:=decide_eq_false (by omega)
    have k2:decide (j < l.length)=false:=decide_eq_false hlt
    have k3:(j < l.length)=False:=eq_false hlt
    have HD:=qAA.mk (show d=sa.enS l from by
     rw [HJ.out.2,List.take_of_length_le (by omega)]
     rfl)
    clear hlt
    go_wp2
    go_ret2
    exact sa.encS_ok HR.out rfl HD.out HO.out HB.out
end
end Go.Proofs.Ytdommiicjpjfpaa.X
namespace Go.Proofs.Ytdommiicjpjfpaa.X
open Go.RowKit Go.Proofs.YtdommiicjpjfpaaW.PrintWords Go.Proofs.YtdommiicjpjfpaaW.PrintLast Go.Proofs.YtdommiicjpjfpaaW.PrintMore Go.Proofs.YtdommiicjpjfpaaW
section
set_option maxHeartbeats 1000000
set_option maxRecDepth 100000
open Go.Proofs.Ytdommiicjpjfpaa Go.Proofs.Ytdommiicjpjfpaa.Pl
def sa.flat (l:List S51):List Int:=(l.map sa.e51).flatten
theorem sa.rd_left (l m:List S51) (i:Nat) (h:i < l.length):qAN (l ++ m) (i:Int)=qAN l (i:Int):=by
 unfold qAN
 rw [Int.toNat_natCast,List.getD_eq_getElem?_getD,List.getD_eq_getElem?_getD,List.getElem?_append_left h]
theorem sa.rd_mid (l m:List S51) (x:S51):qAN (l ++ x :: m) ((l.length:Nat):Int)=x:=by
 unfold qAN
 rw [Int.toNat_natCast,List.getD_eq_getElem?_getD,List.getElem?_append_right (Nat.le_refl _),Nat.sub_self]
 rfl
theorem sa.decL_put {bs:List Int}:∀ (m l0:List S51) (es:List Int),sa.RS (l0 ++ m)→(∀ x ∈ m,Val x.f1)→es ++ sa.flat m=bs→sa.decL bs m.length (es.length:Int) (sa.hvs l0) l0=.ok (l0 ++ m) (bs.length:Int) (sa.hvs (l0 ++ m))
 | [],l0,es,h,hv,he=>by
  rw [List.append_nil]
  have:bs=es:=by rw [← he];simp [sa.flat]
  rw [this]
  rfl
 | x :: m,l0,es,h,hv,he=>by
  have hx:=h.1 x (List.mem_append_right _ List.mem_cons_self)
  have hvx:=hv x List.mem_cons_self
  have hfl:sa.flat (x :: m)=sa.e51 x ++ sa.flat m:=rfl
  have hd:bs.drop es.length=(putU (x.f0.size:Int) ++ bytesOf x.f0) ++ (en x.f1 ++ sa.flat m):=by
   rw [← he,List.drop_left,hfl]
   unfold sa.e51 X.str
   simp only [List.append_assoc]
  have ht:=textAt_back (bs:=bs) (a:=(es.length:Int)) (most:=32) (k:=x.f0) (by omega) hx.2.2 (by omega) (by rw [Int.toNat_natCast];exact hd)
  obtain ⟨l3,hk⟩:=sa.takeS_put x.f1 hvx hx.1 (es ++ (putU (x.f0.size:Int) ++ bytesOf x.f0)) (sa.flat m) bs (by
   rw [← he,hfl]
   unfold sa.e51 X.str
   simp only [List.append_assoc])
  have hlt:¬ (x.f0.toList=[] ∨ (0 < l0.length∧¬ Op.bytesLess (qAN l0 ((l0.length:Int) - 1)).f0.toList x.f0.toList=true)):=by
   rintro (q | ⟨q0,q⟩)
   ·exact hx.2.1 q
   ·apply q
    have h1:=h.2.1 (l0.length - 1) (by rw [List.length_append,List.length_cons];omega)
    rw [sa.rd_left l0 (x :: m) (l0.length - 1) (by omega),show ((l0.length - 1:Nat):Int)+1=((l0.length:Nat):Int) by omega,sa.rd_mid l0 m x] at h1
    rwa [show ((l0.length - 1:Nat):Int)=(l0.length:Int) - 1 by omega] at h1
  have hw:sa.hvs l0+sa.hv x≤32768:=by
   have h1:=h.2.2.1
   rw [sa.hvs_app] at h1
   have h2:sa.hvs (x :: m)=sa.hv x+sa.hvs m:=rfl
   have:=sa.hvs_pos m
   omega
  have hent:sa.entF bs (es.length:Int) (sa.hvs l0) l0=.ok (l0 ++ [x]) (((es ++ sa.e51 x).length:Nat):Int) (sa.hvs l0+sa.hv x):=by
   have hpl:((es.length:Int)+((putU (x.f0.size:Int) ++ bytesOf x.f0).length:Int))=((es ++ (putU (x.f0.size:Int) ++ bytesOf x.f0)).length:Int):=by simp only [List.length_append];omega
   unfold sa.entF
   rw [ht]
   dsimp only
   rw [if_neg (by decide),if_neg hlt,hpl,hk]
   dsimp only
   rw [if_neg (by have:sa.hv ⟨x.f0,x.f1⟩=sa.hv x:=rfl;omega)]
   congr 1
   unfold sa.e51 X.str
   simp only [List.length_append]
   omega
  have ih:=sa.decL_put (bs:=bs) m (l0 ++ [x]) (es ++ sa.e51 x) (by rwa [List.append_assoc]) (fun y hy=>hv y (List.mem_cons_of_mem _ hy)) (by rw [List.append_assoc,← hfl];exact he)
  rw [sa.hvs_app,show sa.hvs [x]=sa.hv x from by simp [sa.hvs]] at ih
  rw [List.length_cons]
  unfold sa.decL
  rw [hent]
  dsimp only
  rw [ih,List.append_assoc]
  rfl
theorem sa.decF_back (l:List S51) (h:sa.RS l) (hv:∀ x ∈ l,Val x.f1):sa.decF (sa.enS l)=(0,0,l):=by
 have hn:=h.2.2.2
 have hd:(sa.enS l).drop 4=putU (l.length:Int) ++ sa.flat l:=by unfold sa.enS X.lst;rfl
 have ht:(sa.enS l).take 4=[83,83,84,49]:=by unfold sa.enS;rfl
 have hu:=uintAt_back (bs:=sa.enS l) (a:=4) (v:=(l.length:Int)) (by omega) (by omega) (by omega) hd
 have h4:4≤(sa.enS l).length:=by unfold sa.enS;simp
 have hp:=sa.decL_put (bs:=sa.enS l) l [] ([83,83,84,49] ++ putU (l.length:Int)) (by simpa using h) hv (by unfold sa.enS X.lst sa.flat;simp)
 have e1:((([83,83,84,49] ++ putU (l.length:Int)).length:Nat):Int)=4+((putU (l.length:Int)).length:Int):=by simp;omega
 rw [e1] at hp
 unfold sa.decF
 rw [hu]
 dsimp only
 rw [if_neg (by
   rintro (q | q);· omega
   ·exact q ht),if_neg (by decide),if_neg (by omega),Int.toNat_natCast]
 have hp2:sa.decL (sa.enS l) l.length (4+((putU (l.length:Int)).length:Int)) 0 []=.ok l ((sa.enS l).length:Int) (sa.hvs l):=hp
 rw [hp2]
 dsimp only
 rw [if_neg (by omega)]
end
end Go.Proofs.Ytdommiicjpjfpaa.X
