import Derived.Test.YtdommiicjpjfpaaZStateOneForm3
import Derived.Test.YtdommiicjpjfpaaZStateOneForm2
import Derived.Laws.Rows
import Derived.Test.YtdommiicjpjfpaaZStateOneForm28
import Derived.Test.YtdommiicjpjfpaaZStateOneForm16
import Derived.Test.YtdommiicjpjfpaaZStateOneForm15
import Derived.Test.YtdommiicjpjfpaaZStateOneForm27
import Derived.WalkLawsBesides
import Derived.Laws.Pointers
import Derived.Shelf.Abstract
import Derived.Deep.DeepMust
import Derived.Deep.QuietTactic
import Derived.BigQuiet
import Derived.ChangeArms
import Derived.Test.YtdommiicjpjfpaaZStateOneForm21
import Derived.Lib.SlBytesConst
import Derived.Test.YtdommiicjpjfpaaZStateOneForm24
set_option linter.unusedVariables false
set_option linter.unusedSimpArgs false
namespace Go.Proofs.Ytdommiicjpjfpaa.X
open Go.RowKit Go.Proofs.YtdommiicjpjfpaaW.PrintWords Go.Proofs.YtdommiicjpjfpaaW.PrintLast Go.Proofs.YtdommiicjpjfpaaW.PrintMore Go.Proofs.YtdommiicjpjfpaaW
section
set_option maxRecDepth 100000
open Go.Proofs.Ytdommiicjpjfpaa
theorem sa.mn_le {s:Nat} {W:Int} (h:¬ 2048 < W+1+mn (s:Int) 2048) (hW:0≤W):mn (s:Int) 2048=(s:Int)∧s≤2048:=by
 rw [mn_eq] at h ⊢
 split at h
 ·omega
 ·rename_i hn;rw [if_neg hn];omega
def sa.MW (K:Nat):Prop:=∀ (x:S34) (ar D W D' W':Int),Val x→0≤ar→ar≤8→0≤D→0≤W→W≤4096→qAJ.w K x.f0 x.f1 x.f2 x.f3 x.f4 ar D W=some (true,D',W')→sa.okV (8 - ar).toNat x∧W+(wt x:Int)=W'∧W'≤2048∧0≤D'
def sa.ML (K:Nat):Prop:=∀ (f0 f1:Int) (f2:ByteArray) (f3:List S34) (f4:List ByteArray) (ar D W D' W':Int) (i:Nat),(∀ y ∈ f3,Val y)→f3.length≤9223372036854775807→(f0=5→f4.length=f3.length)→(∀ s ∈ f4,s.size≤9223372036854775807)→0≤ar→ar≤7→0≤D→0≤W→W≤2048→i≤f3.length→qAJ.l K f0 f1 f2 f3 f4 ar D W (i:Int)=some (true,D',W') →
   (∀ y ∈ f3.drop i,sa.okV (7 - ar).toNat y)∧(f0=5→∀ j:Nat,i≤j→j < f4.length→(rdOf ByteArray.empty f4 (j:Int)).size≤32∧(0 < j→Op.bytesLess (rdOf ByteArray.empty f4 ((j:Int) - 1)).toList (rdOf ByteArray.empty f4 (j:Int)).toList=true))∧W+(qBo f0 f3 f4 i:Int)=W'∧W'≤2048∧0≤D'
set_option maxHeartbeats 2000000 in
theorem sa.meas_w {K:Nat} (ihl:sa.ML K):sa.MW (K+1):=by
 intro x ar D W D' W' hv h0 h1 h2 h3 h4 h
 obtain ⟨_,a0,b0,a1,b1,l2,l3,l4,k4,k3⟩:=hv
 have ea:wrap64 (ar+1)=ar+1:=X.w64 _ (by omega) (by omega)
 have hm:0≤mn (x.f2.size:Int) 2048∧mn (x.f2.size:Int) 2048≤2048:=by rw [mn_eq];split <;> omega
 have ew:wrap64 (W+wrap64 (1+mn (x.f2.size:Int) 2048))=W+1+mn (x.f2.size:Int) 2048:=by
  rw [X.w64 (1+mn (x.f2.size:Int) 2048) (by omega) (by omega),X.w64 _ (by omega) (by omega)];omega
 rw [qAJ.w,ea,ew] at h
 by_cases c1:8 < mx D (ar+1)
 ·rw [if_pos c1] at h;cases h
 rw [if_neg c1] at h
 have ha:ar≤7:=by rw [mx_eq] at c1;split at c1 <;> omega
 have hm0:0≤mx D (ar+1):=by rw [mx_eq];split <;> omega
 by_cases c2:2048 < W+1+mn (x.f2.size:Int) 2048
 ·rw [if_pos c2] at h;cases h
 rw [if_neg c2] at h
 obtain ⟨e2,s2⟩:=sa.mn_le c2 h3
 rw [e2] at h c2
 rw [qAh.f,Option.bind_some] at h
 cases hf:qAh.b x.f0 x.f1 x.f2 x.f3.length x.f4.length with
 | false=>rw [hf,if_neg (by decide)] at h;cases h
 | true =>
  rw [hf,if_pos rfl] at h
  have hlen:=form_len l3 l4 hf
  obtain ⟨g1,g2,g3,g4,g5⟩:=ihl x.f0 x.f1 x.f2 x.f3 x.f4 ar (mx D (ar+1)) (W+1+(x.f2.size:Int)) D' W' 0 k3 l3 hlen.1 k4 h0 ha hm0 (by omega) (by omega) (Nat.zero_le _) h
  have hkeys:((x.f4.map fun s=>1+s.size).sum:Nat)=if x.f0=5 then ((x.f4.drop 0).map fun s=>1+s.size).sum else 0:=by
   split
   ·simp
   ·rename_i k5
    have h40:x.f4=[]:=by
     rcases qCG l3 l4 hf with z | z | z | z | z | z
     all_goals first | exact List.eq_nil_of_length_eq_zero z.2.2.2.2 | exact List.eq_nil_of_length_eq_zero z.2.2.2 | exact absurd z.1 k5
    rw [h40];rfl
  have e1:(wt x:Int)=1+(x.f2.size:Int)+(qBo x.f0 x.f3 x.f4 0:Int):=by
   rw [wt_eq,hkeys]
   unfold qBo
   simp only [List.drop_zero]
   omega
  refine ⟨?_,by omega,g4,g5⟩
  rw [show (8 - ar).toNat=(7 - ar).toNat+1 by omega]
  refine ⟨hf,fun h5=>⟨fun s hs => ?_,fun i hi => ?_⟩,fun y hy=>g1 y (by rw [List.drop_zero];exact hy)⟩
  ·obtain ⟨j,hj,rfl⟩:=List.getElem_of_mem hs
   have:=(g2 h5 j (Nat.zero_le _) hj).1
   unfold rdOf at this
   rw [Int.toNat_natCast,List.getD_eq_getElem?_getD,List.getElem?_eq_getElem hj] at this
   exact this
  ·have:=(g2 h5 (i+1) (Nat.zero_le _) hi).2 (by omega)
   rw [show ((i+1:Nat):Int) - 1=(i:Int) by omega] at this
   exact this
set_option maxHeartbeats 2000000 in
theorem sa.meas_l2 {K:Nat} (ihw:sa.MW K) (ihl:sa.ML K):sa.ML (K+1):=by
 intro f0 f1 f2 f3 f4 ar D W D' W' i hv hl h45 hs h0 h1 h2 h3 h4 hi h
 rw [qAJ.l] at h
 by_cases c:(i:Int) < (f3.length:Int)
 ·rw [if_pos c,if_pos (by omega)] at h
  have ei:wrap64 ((i:Int)+1)=((i+1:Nat):Int):=by rw [X.w64 _ (by omega) (by omega)];omega
  have ea:wrap64 (ar+1)=ar+1:=X.w64 _ (by omega) (by omega)
  have hrs:=wrest_succ f0 f3 f4 i (by omega) h45
  have hd:=at_drop f3 i (by omega)
  have hvx:=hv _ (at_mem f3 i (by omega))
  rw [hd]
  generalize hx:qAU f3 (i:Int)=x at hrs h hvx ⊢
  have key:∀ V:Int,0≤V→V≤4096→((qAJ.w K x.f0 x.f1 x.f2 x.f3 x.f4 (ar+1) D V).bind fun r=>if r.1=true then qAJ.l K f0 f1 f2 f3 f4 ar r.2.1 r.2.2 ((i+1:Nat):Int) else some (false,r.2.1,r.2.2))=some (true,D',W') →
    (∀ y ∈ x :: f3.drop (i+1),sa.okV (7 - ar).toNat y)∧(f0=5→∀ j:Nat,i+1≤j→j < f4.length→(rdOf ByteArray.empty f4 (j:Int)).size≤32∧(0 < j→Op.bytesLess (rdOf ByteArray.empty f4 ((j:Int) - 1)).toList (rdOf ByteArray.empty f4 (j:Int)).toList=true))∧V+(wt x:Int)+(qBo f0 f3 f4 (i+1):Int)=W'∧W'≤2048∧0≤D':=by
   intro V v0 v1 hh
   obtain ⟨r,hr,hh⟩:=Option.bind_eq_some_iff.1 hh
   obtain ⟨t,D1,W1⟩:=r
   dsimp only at hh
   cases t with
   | false=>rw [if_neg (by decide)] at hh;cases hh
   | true =>
    rw [if_pos rfl] at hh
    obtain ⟨q1,q2,q3,q4⟩:=ihw x (ar+1) D V D1 W1 hvx (by omega) (by omega) h2 v0 v1 hr
    obtain ⟨g1,g2,g3,g4,g5⟩:=ihl f0 f1 f2 f3 f4 ar D1 W1 D' W' (i+1) hv hl h45 hs h0 h1 q4 (by omega) q3 (by omega) hh
    refine ⟨fun y hy => ?_,g2,by omega,g4,g5⟩
    rcases List.mem_cons.1 hy with rfl | hy
    ·rw [show (8 - (ar+1)).toNat=(7 - ar).toNat by omega] at q1;exact q1
    ·exact g1 y hy
  by_cases k5:f0=5
  ·have q4:(i:Int) < (f4.length:Int):=by have:=h45 k5;omega
   rw [if_pos k5,if_pos q4] at h
   by_cases g1:32 < ((rdOf ByteArray.empty f4 (i:Int)).size:Int)
   ·rw [if_pos g1] at h;cases h
   rw [if_neg g1] at h
   by_cases g2:0 < (i:Int)∧(Op.bytesLess ((rdOf ByteArray.empty f4 ((i:Int) - 1)).toList) ((rdOf ByteArray.empty f4 (i:Int)).toList))=false
   ·rw [if_pos g2] at h;cases h
   rw [if_neg g2] at h
   have et:wrap64 (W+wrap64 (1+((rdOf ByteArray.empty f4 (i:Int)).size:Int)))=W+1+((rdOf ByteArray.empty f4 (i:Int)).size:Int):=by
    rw [X.w64 (1+((rdOf ByteArray.empty f4 (i:Int)).size:Int)) (by omega) (by omega),X.w64 _ (by omega) (by omega)]
    omega
   rw [et,ea,ei] at h
   obtain ⟨p1,p2,p3,p4,p5⟩:=key _ (by omega) (by omega) h
   rw [if_pos k5] at hrs
   refine ⟨p1,fun h5 j hj1 hj2 => ?_,by omega,p4,p5⟩
   by_cases hj:i+1≤j
   ·exact p2 h5 j hj hj2
   ·obtain rfl:j=i:=by omega
    refine ⟨by omega,fun hp => ?_⟩
    cases hb:Op.bytesLess ((rdOf ByteArray.empty f4 ((j:Int) - 1)).toList) ((rdOf ByteArray.empty f4 (j:Int)).toList) with
    | true=>rfl
    | false =>
      have hp2:(0:Int) < (j:Int):=Int.natCast_pos.2 hp
      exact (g2 ⟨hp2,hb⟩).elim
  ·rw [if_neg k5,ea,ei] at h
   obtain ⟨p1,p2,p3,p4,p5⟩:=key W h3 (by omega) h
   rw [if_neg k5] at hrs
   exact ⟨p1,fun h5=>absurd h5 k5,by omega,p4,p5⟩
 ·rw [if_neg c] at h
  injection h with h
  injection h with e1 e2
  injection e2 with e2 e3
  subst e2;subst e3
  have hi2:f3.length≤i:=by omega
  rw [List.drop_eq_nil_of_le hi2,wrest_end f0 f3 f4 i hi2 h45]
  exact ⟨fun y hy=>(by cases hy),fun h5 j hj1 hj2=>absurd (h45 h5) (by omega),by omega,h4,h2⟩
theorem sa.meas_inv:∀ K:Nat,sa.MW K∧sa.ML K
 | 0=>by
  constructor
  ·intro x ar D W D' W' hv h0 h1 h2 h3 h4 h
   rw [qAJ.w] at h
   cases h
  ·intro f0 f1 f2 f3 f4 ar D W D' W' i hv hl h45 hs h0 h1 h2 h3 h4 hi h
   rw [qAJ.l] at h
   cases h
 | K+1=>⟨sa.meas_w (sa.meas_inv K).2,sa.meas_l2 (sa.meas_inv K).1 (sa.meas_inv K).2⟩
theorem Ev.uniq {α:Type} {g:Nat→Option α} {r s:α} (h:Ev g r) (k:Ev g s):r=s:=by
 obtain ⟨K,hK⟩:=h
 obtain ⟨L,hL⟩:=k
 have h1:=hK (K+L) (by omega)
 have h2:=hL (K+L) (by omega)
 rw [h1] at h2
 exact Option.some.inj h2
def sa.Rt (x:S34):Prop:=sa.okV 8 x∧wt x≤2048
theorem sa.okV_frm:∀ (d:Nat) (x:S34),sa.okV d x→Frm x
 | 0,x,h=>h.elim
 | d+1,x,h=>.mk x h.1 (fun y hy=>sa.okV_frm d y (h.2.2 y hy))
theorem sa.told1 (x:S34) (hv:Val x):(sa.Rt x∧0 < wt x∧Ev (fun k=>qBA.f k x.f0 x.f1 x.f2 x.f3 x.f4) true∧Ev (fun k=>qAq.f k x.f0 x.f1 x.f2 x.f3 x.f4) (wt x:Int)) ∨
  (¬ sa.Rt x∧Ev (fun k=>qBA.f k x.f0 x.f1 x.f2 x.f3 x.f4) false∧Ev (fun k=>qAq.f k x.f0 x.f1 x.f2 x.f3 x.f4) 0):=by
 rcases good x hv 0 0 0 (by omega) (by omega) (by omega) (by omega) (by omega) (by omega) with ⟨D',W',d,m,r,q,hD,hd,hD8,hW0,hW1,hF,hw⟩ | ⟨D',W',m,r⟩
 ·left
  have hm:Ev (fun k=>qAJ.f k x.f0 x.f1 x.f2 x.f3 x.f4) (W',D'):=Ev.bind m (by simpa using Ev.const)
  have hW:Ev (fun k=>qAq.f k x.f0 x.f1 x.f2 x.f3 x.f4) W':=Ev.bind hm Ev.const
  have hR:Ev (fun k=>qBA.f k x.f0 x.f1 x.f2 x.f3 x.f4) true:=Ev.bind hW (by rw [decide_eq_true (by omega)];exact Ev.const)
  obtain ⟨K,hK⟩:=m
  have hi:=(sa.meas_inv K).1 x 0 0 0 D' W' hv (by omega) (by omega) (by omega) (by omega) (by omega) (hK K (Nat.le_refl _))
  have he:W'=(wt x:Int):=by have:=hi.2.1;omega
  exact ⟨⟨hi.1,by omega⟩,by omega,hR,he▸hW⟩
 ·right
  have hm:Ev (fun k=>qAJ.f k x.f0 x.f1 x.f2 x.f3 x.f4) (0,0):=Ev.bind m (by simpa using Ev.const)
  have hW:Ev (fun k=>qAq.f k x.f0 x.f1 x.f2 x.f3 x.f4) 0:=Ev.bind hm Ev.const
  have hR:Ev (fun k=>qBA.f k x.f0 x.f1 x.f2 x.f3 x.f4) false:=Ev.bind hW (by rw [decide_eq_false (by omega)];exact Ev.const)
  refine ⟨fun hc => ?_,hR,hW⟩
  obtain ⟨D2,_,_,hm2⟩:=sa.meas_ok 8 x hc.1 0 0 0 (by omega) (by omega) (by omega) (by omega) (by omega) (by have:=hc.2;omega)
  have:=m.uniq hm2
  injection this with e1 _
  cases e1
end
end Go.Proofs.Ytdommiicjpjfpaa.X
namespace Go.Proofs.Ytdommiicjpjfpaa.X
open Go.RowKit Go.Proofs.YtdommiicjpjfpaaW.PrintWords Go.Proofs.YtdommiicjpjfpaaW.PrintLast Go.Proofs.YtdommiicjpjfpaaW.PrintMore Go.Proofs.YtdommiicjpjfpaaW
section
set_option maxRecDepth 100000
open Go.Proofs.Ytdommiicjpjfpaa
theorem sa.uin_of {bs:List Int} (hb:Pl.Bytes bs) (hl:bs.length≤140737488351232):sa.Uin bs (Pl.qAe bs) (Pl.intAt bs) where
 U:=⟨24,fun a=>Pl.Uint_eq 24 (Nat.le_refl _) bs hb (by omega) a⟩
 I:=⟨24,fun a=>Pl.Int_eq 24 (Nat.le_refl _) bs hb (by omega) a⟩
 R:=fun a=>Pl.qBD bs hb a
 N:=fun a h=>by have:=Pl.qBU bs hb a h;omega
 M:=fun a h=>by have:=Pl.qBU bs hb a h;show 0≤a∧a < (Pl.qAe bs a).2.1∧(Pl.qAe bs a).2.1≤bs.length;omega
 V:=fun a=>Pl.unzz_range _ (Pl.qBD bs hb a).1 (Pl.qBD bs hb a).2
 L:=hl
 B:=hb
def sa.sm:Nat→S34→Prop
 | 0,_=>False
 | d+1,x=>(0≤x.f0∧x.f0≤5)∧(-9223372036854775808≤x.f1∧x.f1≤9223372036854775807)∧x.f2.size≤2048∧x.f3.length≤2048∧x.f4.length≤2048∧(∀ s ∈ x.f4,s.size≤2048)∧∀ y ∈ x.f3,sa.sm d y
theorem sa.sm.val:∀ (d:Nat) {x:S34},sa.sm d x→Val x∧Siz x
 | 0,x,h=>h.elim
 | d+1,x,h=>by
  obtain ⟨h0,h1,h2,h3,h4,k4,k3⟩:=h
  exact ⟨.mk x (by omega) (by omega) h1.1 h1.2 (by omega) (by omega) (by omega) (fun s hs=>by have:=k4 s hs;omega) (fun y hy=>(sa.sm.val d (k3 y hy)).1),.mk x (by omega) (by omega) (by omega) (fun s hs=>by have:=k4 s hs;omega) (fun y hy=>(sa.sm.val d (k3 y hy)).2)⟩
theorem sa.arrL_sm {n:Nat} {p:S34→Prop} {f:Int→Int→sa.R3 S34} (hf:∀ (a l:Int) (x:S34) (a2 l2:Int),sa.Bd n a l→f a l=.ok x a2 l2→p x∧sa.Bd n a2 l2):∀ (k:Nat) (acc:List S34) (a l:Int) (vs:List S34) (a2 l2:Int),sa.Bd n a l→(∀ y ∈ acc,p y)→sa.arrL f k acc a l=.ok vs a2 l2→(∀ y ∈ vs,p y)∧vs.length=acc.length+k
 | 0,acc,a,l,vs,a2,l2,hb,hp,h=>by
  unfold sa.arrL at h
  injection h with e1 _ _
  subst e1;exact ⟨hp,rfl⟩
 | k+1,acc,a,l,vs,a2,l2,hb,hp,h=>by
  unfold sa.arrL at h
  rcases hfa:f a l with ⟨x,a1,l1⟩ | ⟨e,q⟩
  ·rw [hfa] at h
   have hx:=hf a l x a1 l1 hb hfa
   have:=sa.arrL_sm hf k (acc ++ [x]) a1 l1 vs a2 l2 hx.2 (fun y hy=>by
    rcases List.mem_append.1 hy with hy | hy
    ·exact hp y hy
    ·rw [List.mem_singleton.1 hy];exact hx.1) h
   refine ⟨this.1, ?_⟩
   rw [this.2,List.length_append,List.length_singleton]
   omega
  ·rw [hfa] at h;cases h
theorem sa.keyS_sm {bs:List Int} {u i:Int→Int × Int × Int} (hU:sa.Uin bs u i) {ks:List ByteArray} {a l a2 l2:Int} {k:ByteArray} (h:sa.keyS bs u ks a l=.ok k a2 l2):k.size≤2048:=by
 unfold sa.keyS at h
 by_cases h1:(u a).2.2 ≠ 0
 ·rw [if_pos h1] at h;cases h
 rw [if_neg h1] at h
 by_cases h2:(u a).1 > 32
 ·rw [if_pos h2] at h;cases h
 rw [if_neg h2] at h
 by_cases h3:(u a).1 > (bs.length:Int) - (u a).2.1
 ·rw [if_pos h3] at h;cases h
 rw [if_neg h3] at h
 dsimp only at h
 split at h
 ·cases h
 split at h
 ·cases h
 ·injection h with e1 e2 e3
  subst e1
  rw [sa.qBq,List.length_take]
  have:=(hU.R a).1
  omega
theorem sa.recL_sm {bs:List Int} {u i:Int→Int × Int × Int} (hU:sa.Uin bs u i) {p:S34→Prop} {f:Int→Int→sa.R3 S34} (hf:∀ (a l:Int) (x:S34) (a2 l2:Int),sa.Bd bs.length a l→f a l=.ok x a2 l2→p x∧sa.Bd bs.length a2 l2):∀ (k:Nat) (ks:List ByteArray) (acc:List S34) (a l:Int) (vs:List ByteArray × List S34) (a2 l2:Int),sa.Bd bs.length a l→(∀ y ∈ acc,p y)→(∀ s ∈ ks,s.size≤2048)→sa.recL bs u f k ks acc a l=.ok vs a2 l2→(∀ y ∈ vs.2,p y)∧vs.2.length=acc.length+k∧(∀ s ∈ vs.1,s.size≤2048)∧vs.1.length=ks.length+k
 | 0,ks,acc,a,l,vs,a2,l2,hb,hp,hk,h=>by
  unfold sa.recL at h
  injection h with e1 _ _
  subst e1;exact ⟨hp,rfl,hk,rfl⟩
 | k+1,ks,acc,a,l,vs,a2,l2,hb,hp,hk,h=>by
  unfold sa.recL at h
  rcases hka:sa.keyS bs u ks a l with ⟨kk,a1,l1⟩ | ⟨e,q⟩
  ·rw [hka] at h
   have hb1:sa.Bd bs.length a1 l1:=sa.keyS_b hU ⟨hb.2.2.1,hb.2.2.2⟩ hka
   have hks:=sa.keyS_sm hU hka
   dsimp only at h
   rcases hfa:f a1 l1 with ⟨x,a3,l3⟩ | ⟨e,q⟩
   ·rw [hfa] at h
    have hx:=hf a1 l1 x a3 l3 hb1 hfa
    have:=sa.recL_sm hU hf k (ks ++ [kk]) (acc ++ [x]) a3 l3 vs a2 l2 hx.2 (fun y hy=>by
     rcases List.mem_append.1 hy with hy | hy
     ·exact hp y hy
     ·rw [List.mem_singleton.1 hy];exact hx.1) (fun s hs=>by
     rcases List.mem_append.1 hs with hs | hs
     ·exact hk s hs
     ·rw [List.mem_singleton.1 hs];exact hks) h
    refine ⟨this.1, ?_,this.2.2.1, ?_⟩
    ·rw [this.2.1,List.length_append,List.length_singleton];omega
    ·rw [this.2.2.2,List.length_append,List.length_singleton];omega
   ·rw [hfa] at h;cases h
  ·rw [hka] at h;cases h
theorem sa.sm.mk {d:Nat} {f0 f1:Int} {f2:ByteArray} {f3:List S34} {f4:List ByteArray} (h0:0≤f0∧f0≤5) (h1 : -9223372036854775808≤f1∧f1≤9223372036854775807) (h2:f2.size≤2048) (h3:f3.length≤2048) (h4:f4.length≤2048) (k4:∀ s ∈ f4,s.size≤2048) (k3:∀ y ∈ f3,sa.sm d y):sa.sm (d+1) ⟨f0,f1,f2,f3,f4⟩:=⟨h0,h1,h2,h3,h4,k4,k3⟩
theorem sa.valS_sm {bs:List Int} {u i:Int→Int × Int × Int} (hU:sa.Uin bs u i):∀ (d:Nat) (a l:Int) (x:S34) (a2 l2:Int),sa.Bd bs.length a l→sa.valS bs u i d a l=.ok x a2 l2→sa.sm d x
 | 0,a,l,x,a2,l2,hb,h=>by
  rw [sa.valS] at h
  split at h <;> cases h
 | d+1,a,l,x,a2,l2,hb,h=>by
  rw [sa.valS_s] at h
  have hbb:=hb
  obtain ⟨b1,b2,b3,b4⟩:=hb
  have leaf:∀ {f0 f1:Int} {f2:ByteArray} {b m:Int},(0≤f0∧f0≤5)→(-9223372036854775808≤f1∧f1≤9223372036854775807)→f2.size≤2048→sa.R3.ok (⟨f0,f1,f2,[],[]⟩:S34) b m=.ok x a2 l2→sa.sm (d+1) x:=fun q0 q1 q2 h=>by
   injection h with e1 _ _
   subst e1
   exact sa.sm.mk q0 q1 q2 (Nat.zero_le _) (Nat.zero_le _) (fun s hs=>by cases hs) (fun y hy=>by cases hy)
  have nb:∀ {e q:Int},sa.R3.bad e q=.ok x a2 l2→sa.sm (d+1) x:=fun h=>by cases h
  have hz:(⟨#[]⟩:ByteArray).size≤2048:=by decide
  have ih:∀ (a l:Int) (x:S34) (a2 l2:Int),sa.Bd bs.length a l→sa.valS bs u i d a l=.ok x a2 l2→sa.sm d x∧sa.Bd bs.length a2 l2:=fun a l x a2 l2 q h=>⟨sa.valS_sm hU d a l x a2 l2 q h,sa.valS_b hU d a l x a2 l2 q h⟩
  by_cases h0:a=(bs.length:Int) ∨ rd bs a > 6
  ·rw [if_pos h0] at h;exact nb h
  rw [if_neg h0] at h
  by_cases h1:1 > l
  ·rw [if_pos h1] at h;exact nb h
  rw [if_neg h1] at h
  by_cases k1:rd bs a=1
  ·rw [if_pos k1] at h;exact leaf (by omega) (by omega) hz h
  rw [if_neg k1] at h
  by_cases k2:rd bs a=2
  ·rw [if_pos k2] at h;exact leaf (by omega) (by omega) hz h
  rw [if_neg k2] at h
  by_cases k3:rd bs a=3
  ·rw [if_pos k3] at h
   by_cases e1:(i (a+1)).2.2 ≠ 0
   ·rw [if_pos e1] at h;exact nb h
   ·rw [if_neg e1] at h;exact leaf (by omega) (hU.V _) hz h
  rw [if_neg k3] at h
  by_cases k4:rd bs a=4
  ·rw [if_pos k4] at h
   by_cases e1:(u (a+1)).2.2 ≠ 0
   ·rw [if_pos e1] at h;exact nb h
   rw [if_neg e1] at h
   by_cases e2:(l - 1) / 1 < (u (a+1)).1
   ·rw [if_pos e2] at h;exact nb h
   rw [if_neg e2] at h
   rw [Int.ediv_one] at e2
   by_cases e3:(bs.length:Int) - (u (a+1)).2.1 < (u (a+1)).1
   ·rw [if_pos e3] at h;exact nb h
   ·rw [if_neg e3] at h
    refine leaf (by omega) (by omega) ?_ h
    rw [sa.qBq,List.length_take]
    have:=(hU.R (a+1)).1
    omega
  rw [if_neg k4] at h
  by_cases k5:rd bs a=5
  ·rw [if_pos k5] at h
   by_cases e1:(u (a+1)).2.2 ≠ 0
   ·rw [if_pos e1] at h;exact nb h
   rw [if_neg e1] at h
   by_cases e2:(l - 1) / 1 < (u (a+1)).1
   ·rw [if_pos e2] at h;exact nb h
   rw [if_neg e2] at h
   rw [Int.ediv_one] at e2
   have hN:=hU.N (a+1) (Classical.byContradiction e1)
   rcases hL:sa.arrL (sa.valS bs u i d) (u (a+1)).1.toNat [] (u (a+1)).2.1 (l - 1) with ⟨vs,a3,l3⟩ | ⟨e,p⟩
   ·rw [hL] at h
    have hp:=sa.arrL_sm (p:=sa.sm d) ih _ _ _ _ _ _ _ ⟨by omega,by omega,by omega,by omega⟩ (fun y hy=>by cases hy) hL
    injection h with e1 _ _
    subst e1
    have hlen:vs.length≤2048:=by rw [hp.2];simp;omega
    exact sa.sm.mk (by decide) (by decide) hz hlen (Nat.zero_le _) (fun s hs=>by cases hs) hp.1
   ·rw [hL] at h;exact nb h
  rw [if_neg k5] at h
  by_cases k6:rd bs a=6
  ·rw [if_pos k6] at h
   by_cases e1:(u (a+1)).2.2 ≠ 0
   ·rw [if_pos e1] at h;exact nb h
   rw [if_neg e1] at h
   by_cases e2:(l - 1) / 2 < (u (a+1)).1
   ·rw [if_pos e2] at h;exact nb h
   rw [if_neg e2] at h
   have hN:=hU.N (a+1) (Classical.byContradiction e1)
   have hle:(l - 1) / 2≤l - 1:=Int.ediv_le_self _ (by omega)
   rcases hL:sa.recL bs u (sa.valS bs u i d) (u (a+1)).1.toNat [] [] (u (a+1)).2.1 (l - 1) with ⟨⟨ks,vs⟩,a3,l3⟩ | ⟨e,p⟩
   ·rw [hL] at h
    have hp:=sa.recL_sm hU (p:=sa.sm d) ih _ _ _ _ _ _ _ _ ⟨by omega,by omega,by omega,by omega⟩ (fun y hy=>by cases hy) (fun s hs=>by cases hs) hL
    injection h with e1 _ _
    subst e1
    have hlen:vs.length≤2048:=by have:=hp.2.1;simp at this;omega
    have hlen4:ks.length≤2048:=by have:=hp.2.2.2;simp at this;omega
    exact sa.sm.mk (by decide) (by decide) hz hlen hlen4 hp.2.2.1 hp.1
   ·rw [hL] at h;exact nb h
  rw [if_neg k6] at h
  exact leaf (by omega) (by omega) hz h
theorem sa.keyS_bad {bs:List Int} {u:Int→Int × Int × Int} {ks:List ByteArray} {a l e p:Int} (h:sa.keyS bs u ks a l=.bad e p):e=41 ∨ e=42:=by
 unfold sa.keyS at h
 by_cases h1:(u a).2.2 ≠ 0
 ·rw [if_pos h1] at h;injection h with h _;exact Or.inl h.symm
 rw [if_neg h1] at h
 by_cases h2:(u a).1 > 32
 ·rw [if_pos h2] at h;injection h with h _;exact Or.inl h.symm
 rw [if_neg h2] at h
 by_cases h3:(u a).1 > (bs.length:Int) - (u a).2.1
 ·rw [if_pos h3] at h;injection h with h _;exact Or.inl h.symm
 rw [if_neg h3] at h
 dsimp only at h
 split at h
 ·injection h with h _;exact Or.inl h.symm
 ·split at h
  ·injection h with h _;exact Or.inr h.symm
  ·cases h
theorem sa.takeS_ok {bs:List Int} (hb:Pl.Bytes bs) (hl:bs.length≤140737488351232) {at_:Int} {x:S34} {a2 l2:Int} (hr:sa.takeS bs (Pl.qAe bs) (Pl.intAt bs) at_=.ok x a2 l2) :
  Val x∧Siz x∧sa.Rt x∧0≤at_∧at_ < a2∧a2≤(bs.length:Int)∧bs.drop at_.toNat=en x ++ bs.drop a2.toNat∧a2 - at_=((en x).length:Int):=by
 have hU:=sa.uin_of hb hl
 unfold sa.takeS at hr
 by_cases h:at_ < 0 ∨ at_ > (bs.length:Int)
 ·rw [if_pos h] at hr
  cases hr
 rw [if_neg h] at hr
 have h0:0≤at_:=by
  have:¬ at_ < 0:=fun e=>h (Or.inl e)
  omega
 have h1:at_≤(bs.length:Int):=by
  have:¬ at_ > (bs.length:Int):=fun e=>h (Or.inr e)
  omega
 have hbd:sa.Bd bs.length at_ 2048:=⟨h0,h1,by omega,by omega⟩
 have hs:=sa.valS_sm hU 8 at_ 2048 x a2 l2 hbd hr
 have hv:=sa.sm.val 8 hs
 have hk:=sa.valS_ok hU 8 at_ 2048 x a2 l2 hr
 obtain ⟨q1,q2⟩:=sa.valS_en hb hl hU 8 at_ 2048 x a2 l2 hbd hr
 obtain ⟨p0,p1,p2,p3⟩:=sa.valS_b hU 8 at_ 2048 x a2 l2 hbd hr
 have hp:=en_pos x
 have ha:=sa.at_len h0 q1 hp
 have hal:(sa.at_ bs a2).length=bs.length - a2.toNat:=by unfold sa.at_;rw [List.length_drop]
 rw [hal] at ha
 exact ⟨hv.1,hv.2,⟨hk,by omega⟩,h0,by omega,p1,q1,by omega⟩
end
end Go.Proofs.Ytdommiicjpjfpaa.X
namespace Go.Proofs.Ytdommiicjpjfpaa.X
open Go.RowKit Go.Proofs.YtdommiicjpjfpaaW.PrintWords Go.Proofs.YtdommiicjpjfpaaW.PrintLast Go.Proofs.YtdommiicjpjfpaaW.PrintMore Go.Proofs.YtdommiicjpjfpaaW
section
set_option maxRecDepth 100000
open Go.Proofs.Ytdommiicjpjfpaa
def sa.Pb (n:Nat) (e p:Int):Prop:=(e=41 ∨ e=42)∧0≤p∧p≤(n:Int)
theorem sa.keyS_pl {bs:List Int} {u:Int→Int × Int × Int} {ks:List ByteArray} {a l e p:Int} (hb:sa.Bd bs.length a l) (h:sa.keyS bs u ks a l=.bad e p):sa.Pb bs.length e p:=by
 refine ⟨sa.keyS_bad h, ?_⟩
 have hp:p=a:=by
  unfold sa.keyS at h
  by_cases h1:(u a).2.2 ≠ 0
  ·rw [if_pos h1] at h;injection h with _ h;exact h.symm
  rw [if_neg h1] at h
  by_cases h2:(u a).1 > 32
  ·rw [if_pos h2] at h;injection h with _ h;exact h.symm
  rw [if_neg h2] at h
  by_cases h3:(u a).1 > (bs.length:Int) - (u a).2.1
  ·rw [if_pos h3] at h;injection h with _ h;exact h.symm
  rw [if_neg h3] at h
  dsimp only at h
  split at h
  ·injection h with _ h;exact h.symm
  ·split at h
   ·injection h with _ h;exact h.symm
   ·cases h
 rw [hp]
 exact ⟨hb.1,hb.2.1⟩
theorem sa.arrL_pl {n:Nat} {f:Int→Int→sa.R3 S34} (hf:∀ (a l:Int) (x:S34) (a2 l2:Int),sa.Bd n a l→f a l=.ok x a2 l2→sa.Bd n a2 l2) (hg:∀ a l e p,sa.Bd n a l→f a l=.bad e p→sa.Pb n e p):∀ (k:Nat) (acc:List S34) (a l e p:Int),sa.Bd n a l→sa.arrL f k acc a l=.bad e p→sa.Pb n e p
 | 0,acc,a,l,e,p,hb,h=>by
  unfold sa.arrL at h
  cases h
 | k+1,acc,a,l,e,p,hb,h=>by
  unfold sa.arrL at h
  rcases hfa:f a l with ⟨x,a1,l1⟩ | ⟨e1,q⟩
  ·rw [hfa] at h
   exact sa.arrL_pl hf hg k (acc ++ [x]) a1 l1 e p (hf a l x a1 l1 hb hfa) h
  ·rw [hfa] at h
   injection h with e2 e3
   rw [← e2,← e3]
   exact hg a l e1 q hb hfa
theorem sa.recL_pl {bs:List Int} {u i:Int→Int × Int × Int} (hU:sa.Uin bs u i) {f:Int→Int→sa.R3 S34} (hf:∀ (a l:Int) (x:S34) (a2 l2:Int),sa.Bd bs.length a l→f a l=.ok x a2 l2→sa.Bd bs.length a2 l2) (hg:∀ a l e p,sa.Bd bs.length a l→f a l=.bad e p→sa.Pb bs.length e p):∀ (k:Nat) (ks:List ByteArray) (acc:List S34) (a l e p:Int),sa.Bd bs.length a l→sa.recL bs u f k ks acc a l=.bad e p→sa.Pb bs.length e p
 | 0,ks,acc,a,l,e,p,hb,h=>by
  unfold sa.recL at h
  cases h
 | k+1,ks,acc,a,l,e,p,hb,h=>by
  unfold sa.recL at h
  rcases hk:sa.keyS bs u ks a l with ⟨x,a1,l1⟩ | ⟨e1,q⟩
  ·have hb1:sa.Bd bs.length a1 l1:=sa.keyS_b hU ⟨hb.2.2.1,hb.2.2.2⟩ hk
   rw [hk] at h
   dsimp only at h
   rcases hfa:f a1 l1 with ⟨y,a2,l2⟩ | ⟨e1,q⟩
   ·rw [hfa] at h
    exact sa.recL_pl hU hf hg k (ks ++ [x]) (acc ++ [y]) a2 l2 e p (hf a1 l1 y a2 l2 hb1 hfa) h
   ·rw [hfa] at h
    injection h with e2 e3
    rw [← e2,← e3]
    exact hg a1 l1 e1 q hb1 hfa
  ·rw [hk] at h
   injection h with e2 e3
   rw [← e2,← e3]
   exact sa.keyS_pl hb hk
theorem sa.countS_pl {n:Nat} {u:Int→Int × Int × Int} {t c a l e p:Int} (h0:0≤t) (h1:t≤(n:Int)) (h2:0≤a) (h3:a≤(n:Int)) (h:sa.qCB u t c a l=.bad e p):sa.Pb n e p:=by
 unfold sa.qCB at h
 split at h
 ·injection h with h k;subst h;subst k;exact ⟨Or.inl rfl,h2,h3⟩
 ·split at h
  ·injection h with h k;subst h;subst k;exact ⟨Or.inr rfl,h0,h1⟩
  ·cases h
theorem sa.countS_to {bs:List Int} {u i:Int→Int × Int × Int} (hU:sa.Uin bs u i) {t c a l n a1 l1:Int} (hl:0≤l∧l≤2048) (h:sa.qCB u t c a l=.ok n a1 l1):sa.Bd bs.length a1 l1:=by
 unfold sa.qCB at h
 split at h
 ·cases h
 ·rename_i h1
  split at h
  ·cases h
  ·injection h with e1 e2 e3
   have:=hU.N a (by simpa using h1)
   exact ⟨by omega,by omega,by omega,by omega⟩
theorem sa.valS_pl {bs:List Int} {u i:Int→Int × Int × Int} (hU:sa.Uin bs u i):∀ (d:Nat) (a l e p:Int),sa.Bd bs.length a l→sa.valS bs u i d a l=.bad e p→sa.Pb bs.length e p:=by
 intro d
 induction d with
 | zero =>
  intro a l e p hb h
  unfold sa.valS at h
  split at h
  ·injection h with h k;subst h;subst k;exact ⟨Or.inl rfl,hb.1,hb.2.1⟩
  ·injection h with h k;subst h;subst k;exact ⟨Or.inr rfl,hb.1,hb.2.1⟩
 | succ d ih =>
  intro a l e p hb h
  unfold sa.valS at h
  split at h
  ·injection h with h k;subst h;subst k;exact ⟨Or.inl rfl,hb.1,hb.2.1⟩
  rename_i hne
  have ha1:a+1≤(bs.length:Int):=by
   have h1:a ≠ (bs.length:Int):=fun q=>hne (Or.inl q)
   have:=hb.2.1
   omega
  have h0:=hb.1
  have hle:=hb.2.1
  dsimp only at h
  split at h
  ·injection h with h k;subst h;subst k;exact ⟨Or.inr rfl,hb.1,hb.2.1⟩
  rename_i hl1
  have hl:0≤l - 1∧l - 1≤2048:=⟨by omega,by have:=hb.2.2.2;omega⟩
  split at h
  ·cases h
  split at h
  ·cases h
  split at h
  ·split at h
   ·injection h with h k;subst h;subst k;exact ⟨Or.inl rfl,by omega,ha1⟩
   ·cases h
  split at h
  ·rcases hc:sa.qCB u a 1 (a+1) (l - 1) with ⟨x,a1,l1⟩ | ⟨e1,q⟩
   ·rw [hc] at h
    dsimp only at h
    split at h
    ·injection h with h k;subst h;subst k;exact ⟨Or.inl rfl,by omega,ha1⟩
    ·cases h
   ·rw [hc] at h
    injection h with e2 e3
    rw [← e2,← e3]
    exact sa.countS_pl h0 hle (by omega) ha1 hc
  split at h
  ·rcases hc:sa.qCB u a 1 (a+1) (l - 1) with ⟨x,a1,l1⟩ | ⟨e1,q⟩
   ·have hb1:=sa.countS_to hU hl hc
    rw [hc] at h
    dsimp only at h
    rcases hr:sa.arrL (sa.valS bs u i d) x.toNat [] a1 l1 with ⟨y,a2,l2⟩ | ⟨e1,q⟩
    ·rw [hr] at h;cases h
    ·rw [hr] at h
     injection h with e2 e3
     rw [← e2,← e3]
     exact sa.arrL_pl (sa.valS_b hU d) ih _ _ _ _ _ _ hb1 hr
   ·rw [hc] at h
    injection h with e2 e3
    rw [← e2,← e3]
    exact sa.countS_pl h0 hle (by omega) ha1 hc
  split at h
  ·rcases hc:sa.qCB u a 2 (a+1) (l - 1) with ⟨x,a1,l1⟩ | ⟨e1,q⟩
   ·have hb1:=sa.countS_to hU hl hc
    rw [hc] at h
    dsimp only at h
    rcases hr:sa.recL bs u (sa.valS bs u i d) x.toNat [] [] a1 l1 with ⟨y,a2,l2⟩ | ⟨e1,q⟩
    ·rw [hr] at h;cases h
    ·rw [hr] at h
     injection h with e2 e3
     rw [← e2,← e3]
     exact sa.recL_pl hU (sa.valS_b hU d) ih _ _ _ _ _ _ _ hb1 hr
   ·rw [hc] at h
    injection h with e2 e3
    rw [← e2,← e3]
    exact sa.countS_pl h0 hle (by omega) ha1 hc
  ·cases h
theorem sa.takeS_bad {bs:List Int} (hb:Pl.Bytes bs) (hl:bs.length≤140737488351232) {at_ e p:Int} (hr:sa.takeS bs (Pl.qAe bs) (Pl.intAt bs) at_=.bad e p):sa.Pb bs.length e p:=by
 unfold sa.takeS at hr
 by_cases h:at_ < 0 ∨ at_ > (bs.length:Int)
 ·rw [if_pos h] at hr
  injection hr with h k;subst h;subst k
  exact ⟨Or.inl rfl,Int.le_refl _,Int.natCast_nonneg _⟩
 rw [if_neg h] at hr
 have h0:0≤at_:=by
  have:¬ at_ < 0:=fun e=>h (Or.inl e)
  omega
 have h1:at_≤(bs.length:Int):=by
  have:¬ at_ > (bs.length:Int):=fun e=>h (Or.inr e)
  omega
 exact sa.valS_pl (sa.uin_of hb hl) 8 at_ 2048 e p ⟨h0,h1,by omega,by omega⟩ hr
end
end Go.Proofs.Ytdommiicjpjfpaa.X
namespace Go.Proofs.Ytdommiicjpjfpaa.X
open Go.RowKit Go.Proofs.YtdommiicjpjfpaaW.PrintWords Go.Proofs.YtdommiicjpjfpaaW.PrintLast Go.Proofs.YtdommiicjpjfpaaW.PrintMore Go.Proofs.YtdommiicjpjfpaaW
section
set_option maxHeartbeats 4000000
set_option maxRecDepth 100000
open Go.Proofs.Ytdommiicjpjfpaa Go.Proofs.Ytdommiicjpjfpaa.Pl
def sa.ke:Kd S51:=Kd.iso (Kd.pair Kd.string sa.kt) (fun x:S51=>(x.f0,x.f1))
theorem sa.ke_C {w:World} {A:Option Addr} {n:Nat} {xs:List S51} (h:sa.ke.C w A n xs):k51.C w A n xs:=h
theorem sa.ke_M {w:World} {base:Nat} {ok:Nat→Prop} {k:ByteArray} {x:S34} {v3 v4:Value} (h:sa.kt.M w base ok x [.int .i64 x.f0,.int .i64 x.f1,.string x.f2,v3,v4]):sa.ke.M w base ok ⟨k,x⟩ [.string k,.int .i64 x.f0,.int .i64 x.f1,.string x.f2,v3,v4] :=
 ⟨[.string k],[.int .i64 x.f0,.int .i64 x.f1,.string x.f2,v3,v4],rfl,rfl,h⟩
section
variable {ops:Array Oper} {rest:List Oper} {o:Oper} {a:Act} {Q:Exit→Act→World→Prop}
end
def sa.RB7 (w:World) (g:Nat) (B:Option Addr) (n cb:Nat) (at_ all:Int) (vl:Value):Prop:=w.heap[g]?=some (.cells #[.slice B n cb,.int .i64 at_,.int .i64 all,vl] 75 (0,0))
theorem sa.RB7.below {w w1:World} {g:Nat} {B:Option Addr} {n cb:Nat} {at_ all:Int} {vl:Value} (h:sa.RB7 w g B n cb at_ all vl) (hb:Below w.heap.size w w1):sa.RB7 w1 g B n cb at_ all vl:=qAb h hb
def sa.hv (x:S51):Int:=1+(x.f0.size:Int)+(wt x.f1:Int)
def sa.entF (bs:List Int) (at_ all:Int) (l:List S51):sa.R3 (List S51) :=
 if (qBY bs at_ 32).2.2 ≠ 0 then .bad 71 at_
 else if (qBY bs at_ 32).1.toList=[] ∨ (0 < l.length∧¬ Op.bytesLess (qAM l ((l.length:Int) - 1)).f0.toList (qBY bs at_ 32).1.toList=true) then .bad 70 at_
 else match sa.takeS bs (qAe bs) (intAt bs) (qBY bs at_ 32).2.1 with
  | .bad _ p=>.bad 71 p
  | .ok x a2 _=>if all+sa.hv ⟨(qBY bs at_ 32).1,x⟩ > 32768 then .bad 70 at_ else .ok (l ++ [⟨(qBY bs at_ 32).1,x⟩]) a2 (all+sa.hv ⟨(qBY bs at_ 32).1,x⟩)
def sa.EntT (r:sa.R3 (List S51)) (w0:World) (g:Nat) (B:Option Addr) (n cb:Nat) (e:Ending) (w':World):Prop :=
 match r with
 | .bad c p=>e=.returned (.tuple #[.int .i64 p,.int .i64 c])∧Below w0.heap.size w0 w'
 | .ok l a2 all=>e=.returned (.tuple #[.int .i64 0,.int .i64 0])∧Below w0.heap.size w0 w'∧∃ vl,sa.RB7 w' g B n cb a2 all vl∧sa.ke.R 51 w' w0.heap.size (fun k=>k ≠ g) vl l
end
end Go.Proofs.Ytdommiicjpjfpaa.X
namespace Go.Proofs.Ytdommiicjpjfpaa.X
open Go.RowKit Go.Proofs.YtdommiicjpjfpaaW.PrintWords Go.Proofs.YtdommiicjpjfpaaW.PrintLast Go.Proofs.YtdommiicjpjfpaaW.PrintMore Go.Proofs.YtdommiicjpjfpaaW
section
set_option maxHeartbeats 4000000
set_option maxRecDepth 100000
open Go.Proofs.Ytdommiicjpjfpaa Go.Proofs.Ytdommiicjpjfpaa.Pl
theorem sa.heavy_ev (s:ByteArray) (x:S34) (hx:Val x) (hr:sa.Rt x) (h0:s.toList ≠ []) (h1:(s.size:Int)≤32):∃ K,qAs.f K s x.f0 x.f1 x.f2 x.f3 x.f4=some (sa.hv ⟨s,x⟩):=by
 rcases sa.told1 x hx with ⟨_,hp,_,K,hK⟩ | ⟨hn,_⟩
 ·refine ⟨K, ?_⟩
  have hw:=hr.2
  unfold qAs.f
  have h:=hK K (Nat.le_refl _)
  dsimp only at h
  rw [h,Option.bind_some,if_neg (by omega),if_neg h0,if_neg (by omega)]
  congr 1
  unfold sa.hv wrap64
  dsimp only
  omega
 ·exact absurd hr hn
set_option maxHeartbeats 16000000 in
theorem sa.entry41 {bs:List Int} (hb:Bytes bs) (hl:bs.length≤140737488351232) {w0 w:World} {g:Nat} {B:Option Addr} {cb:Nat} {at_ all:Int} {vl:Value} {l:List S51} (hB:(Kd.int .u8).C w0 B bs.length bs) (hc:bs.length≤cb) (hg:w0.heap.size≤g) (hW:Below w0.heap.size w0 w) (hR:sa.RB7 w g B bs.length cb at_ all vl) (hO:sa.ke.R 51 w w0.heap.size (fun k=>k ≠ g) vl l) (hal:0≤all∧all≤32768) (hll:l.length≤1000) :
  Calls Try.prog 41 #[.pointer (some ⟨g,0,none⟩)] w (sa.EntT (sa.entF bs at_ all l) w0 g B bs.length cb):=by
 have hu34:=Try.underlying34
 have hu51:=Try.underlying51
 have hu75:=Try.underlying75
 have hu22:=Try.underlying22
 obtain ⟨AL,cl,el⟩:=Kd.qBV hO
 subst el
 have TX:=qAA.mk (fun (W:World) (hb2:Below w0.heap.size w0 W)=>qA1.calls 24 B cb bs at_ 32 (qBY bs at_ 32).1 (qBY bs at_ 32).2.1 (qBY bs at_ 32).2.2 W (Kd.qAa hB hb2) hc (by rw [Text_eq 24 (Nat.le_refl _) bs hb (by omega) at_ 32 (by omega) (by omega)]))
 have TK:=qAA.mk (fun (W:World) (hb2:Below w0.heap.size w0 W) (n1:Int)=>sa.take1 (sa.uin_of hb hl) n1 (Kd.qAa hB hb2) hc)
 have TOK:=qAA.mk (fun (n1:Int) (x:S34) (a2 l2:Int) h=>sa.takeS_ok hb hl (at_:=n1) (x:=x) (a2:=a2) (l2:=l2) h)
 have HTS:=qAA.mk (fun h=>textAt_small (l:=bs) hb (a:=at_) (most:=32) (by omega) h)
 have HAL:=qAA.mk hal;have HLL:=qAA.mk hll;have HG:=qAA.mk hg
 have HW:=qAA.mk hW;have HR:=qAA.mk hR;have HO:=qAA.mk hO
 have HGW:=qAA.mk (qAo (show w.heap[g]?=some _ from hR))
 unfold sa.entF
 clear hB hc hg hW hR hO hal hll
 generalize qBY bs at_ 32=t at *
 obtain ⟨s,n1,e1⟩:=t
 dsimp only
 dsimp only at TX HTS
 obtain ⟨n,hn⟩:∃ n,n=l.length:=⟨_,rfl⟩
 have HN:=qAA.mk hn
 rw [← hn] at HR HO
 clear hn
 by_cases h1:e1 ≠ 0
 ·rw [if_pos h1]
  have d1:(e1 != 0)=true:=bne_iff_ne.2 h1
  have d2:(e1 == 0)=false:=beq_eq_false_iff_ne.2 h1
  have d3:decide (e1=0)=false:=decide_eq_false h1
  clear h1
  go_enter Try.func41,Try.ntmps41
  go_wp2
  refine qAz (n:=16) (S:=fun w'=>w'.cell? ⟨g,0,none⟩=some (.slice B bs.length cb)∧w'.cell? ⟨g,1,none⟩=some (.int .i64 at_)) (ds:=[]) #[qF,qF,qF,qF,qF,qF,qF,qF,qF,qF,qF,qF,qF,qF,qF,qF] (by kernel_rfl) rfl rfl ⟨(qAB (show w.drew.heap[g]?=_ from HR.out) 0).trans rfl,(qAB (show w.drew.heap[g]?=_ from HR.out) 1).trans rfl⟩ (fun hHeld => ?_)
  generalize hwd:w.drew=wd at hHeld ⊢
  have Rd:=qAA.mk (hwd▸HR.out.below (qAW (Below.refl _ _)))
  have Wd:=qAA.mk (hwd▸qAW HW.out)
  have Od:=qAA.mk (hwd▸Kd.qA7 HO.out)
  have HGd:=qAA.mk (show g < wd.heap.size from hwd▸HGW.out)
  clear hwd
  refine qAL (i:=0) (N:=some 11) (v := ?_) (a' := ?_) #[qT,qF,qF,qF,qF,qF,qF,qF,qF,qF,qF,qF,qF,qF,qF,qF] rfl rfl (by kernel_rfl) (fun _ _ _ h=>h) (Or.inl ⟨by rfl, ?_⟩) ?_ ?_
  rotate_left
  ·intro w'
   go_simp
   with_reducible rfl
  rotate_left
  ·simp only [Act.put,qs1,qs2,qs3,qAH,qAI]
   rfl
  refine qAL (i:=1) (N:=some 12) (v := ?_) (a' := ?_) #[qT,qT,qF,qF,qF,qF,qF,qF,qF,qF,qF,qF,qF,qF,qF,qF] rfl rfl (by kernel_rfl) (fun _ _ _ h=>h) (Or.inl ⟨by rfl, ?_⟩) ?_ ?_
  rotate_left
  ·intro w'
   go_simp
   with_reducible rfl
  rotate_left
  ·simp only [Act.put,qs1,qs2,qs3,qAH,qAI]
   rfl
  refine qAL (i:=2) (N:=some 13) (v := ?_) (a' := ?_) #[qT,qT,qT,qF,qF,qF,qF,qF,qF,qF,qF,qF,qF,qF,qF,qF] rfl rfl (by kernel_rfl) (fun _ _ _ h=>h) (Or.inl ⟨by rfl, ?_⟩) ?_ ?_
  rotate_left
  ·intro w'
   go_simp
   with_reducible rfl
  rotate_left
  ·simp only [Act.put,qs1,qs2,qs3,qAH,qAI]
   rfl
  refine qAL (i:=4) (N:=some 15) (v := ?_) (a' := ?_) #[qT,qT,qT,qF,qT,qF,qF,qF,qF,qF,qF,qF,qF,qF,qF,qF] rfl rfl (by kernel_rfl) (fun _ _ _ h=>h) (Or.inl ⟨by rfl, ?_⟩) ?_ ?_
  rotate_left
  ·intro w'
   go_simp
   with_reducible rfl
  rotate_left
  ·simp only [Act.put,qs1,qs2,qs3,qAH,qAI]
   rfl
  refine qAL (i:=5) (N:=some 16) (v := ?_) (a' := ?_) #[qT,qT,qT,qF,qT,qT,qF,qF,qF,qF,qF,qF,qF,qF,qF,qF] rfl rfl (by kernel_rfl) (fun _ _ _ h=>h) (Or.inl ⟨by rfl, ?_⟩) ?_ ?_
  rotate_left
  ·intro w'
   go_simp
   with_reducible rfl
  rotate_left
  ·simp only [Act.put,qs1,qs2,qs3,qAH,qAI]
   rfl
  refine qAL (i:=6) (N:=some 17) (v := ?_) (a' := ?_) #[qT,qT,qT,qF,qT,qT,qT,qF,qF,qF,qF,qF,qF,qF,qF,qF] rfl rfl (by kernel_rfl) (fun _ _ _ h=>h) (Or.inl ⟨by rfl, ?_⟩) ?_ ?_
  rotate_left
  ·intro w'
   go_simp
   with_reducible rfl
  rotate_left
  ·simp only [Act.put,qs1,qs2,qs3,qAH,qAI]
   rfl
  refine qAt (i:=3) (N:=some 14) (v := ?_) (a' := ?_) #[qT,qT,qT,qT,qT,qT,qT,qF,qF,qF,qF,qF,qF,qF,qF,qF] rfl rfl (by kernel_rfl) (fun _ _ _ h=>h) (Or.inl ⟨by rfl, ?_⟩) hHeld ?_ ?_
  rotate_left
  ·rintro w' ⟨s0,s1⟩
   go_simp
   with_reducible rfl
  rotate_left
  ·simp only [Act.put,qs1,qs2,qs3,qAH,qAI]
   rfl
  refine qAt (i:=7) (N:=some 18) (v := ?_) (a' := ?_) #[qT,qT,qT,qT,qT,qT,qT,qT,qF,qF,qF,qF,qF,qF,qF,qF] rfl rfl (by kernel_rfl) (fun _ _ _ h=>h) (Or.inl ⟨by rfl, ?_⟩) hHeld ?_ ?_
  rotate_left
  ·rintro w' ⟨s0,s1⟩
   go_simp
   with_reducible rfl
  rotate_left
  ·simp only [Act.put,qs1,qs2,qs3,qAH,qAI]
   rfl
  refine one_ (i:=8) (N:=some 19) #[qT,qT,qT,qT,qT,qT,qT,qT,qT,qF,qF,qF,qF,qF,qF,qF] rfl rfl (by kernel_rfl) (by decide) (fun K hK => ?_)
  refine qBf Try.func60 (by kernel_rfl) rfl #[.slice B bs.length cb,.int .i64 at_,.int .i64 32] (by rfl) rfl rfl (by (try simp only [List.map_toArray,List.map_cons,List.map_nil]);first | done | rfl) ?_
  refine (TX.out wd Wd.out).mono ?_
  rintro e w2 ⟨rfl,hb⟩
  refine ⟨_,rfl, ?_⟩
  have R2:=qAA.mk (Rd.out.below hb.below)
  have W2:=qAA.mk (qAg Wd.out Wd.out.size hb.below)
  have O2:=qAA.mk (Kd.qA2 Od.out hb.below)
  have HG2:=qAA.mk (Nat.lt_of_lt_of_le HGd.out hb.below.size)
  clear hb
  refine hK.out _ _ ⟨(qAB R2.out 0).trans rfl,(qAB R2.out 1).trans rfl⟩ (fun hHeld => ?_)
  clear hK K
  refine qBH (a' := ?_) ?_ ?_
  rotate_left
  ·show Act.put _ (some 19) _=_
   simp only [Act.put,qs1,qs2,qs3,qAH,qAI]
   rfl
  refine qAL (i:=9) (N:=some 10) (v := ?_) (a' := ?_) #[qT,qT,qT,qT,qT,qT,qT,qT,qT,qT,qF,qF,qF,qF,qF,qF] rfl rfl (by kernel_rfl) (fun _ _ _ h=>h) (Or.inl ⟨by rfl, ?_⟩) ?_ ?_
  rotate_left
  ·intro w'
   go_simp
   with_reducible rfl
  rotate_left
  ·simp only [Act.put,qs1,qs2,qs3,qAH,qAI]
   rfl
  refine qAL (i:=10) (N:=some 20) (v := ?_) (a' := ?_) #[qT,qT,qT,qT,qT,qT,qT,qT,qT,qT,qT,qF,qF,qF,qF,qF] rfl rfl (by kernel_rfl) (fun _ _ _ h=>h) (Or.inl ⟨by rfl, ?_⟩) ?_ ?_
  rotate_left
  ·intro w'
   go_simp
   with_reducible rfl
  rotate_left
  ·simp only [Act.put,qs1,qs2,qs3,qAH,qAI]
   rfl
  refine qAL (i:=11) (N:=some 21) (v := ?_) (a' := ?_) #[qT,qT,qT,qT,qT,qT,qT,qT,qT,qT,qT,qT,qF,qF,qF,qF] rfl rfl (by kernel_rfl) (fun _ _ _ h=>h) (Or.inl ⟨by rfl, ?_⟩) ?_ ?_
  rotate_left
  ·intro w'
   go_simp
   with_reducible rfl
  rotate_left
  ·simp only [Act.put,qs1,qs2,qs3,qAH,qAI]
   rfl
  refine qAL (i:=12) (N:=some 22) (v := ?_) (a' := ?_) #[qT,qT,qT,qT,qT,qT,qT,qT,qT,qT,qT,qT,qT,qF,qF,qF] rfl rfl (by kernel_rfl) (fun _ _ _ h=>h) (Or.inl ⟨by rfl, ?_⟩) ?_ ?_
  rotate_left
  ·intro w'
   go_simp
   with_reducible rfl
  rotate_left
  ·simp only [Act.put,qs1,qs2,qs3,qAH,qAI]
   rfl
  refine qAL (i:=13) (N:=some 4) (v := ?_) (a' := ?_) #[qT,qT,qT,qT,qT,qT,qT,qT,qT,qT,qT,qT,qT,qT,qF,qF] rfl rfl (by kernel_rfl) (fun _ _ _ h=>h) (Or.inl ⟨by rfl, ?_⟩) ?_ ?_
  rotate_left
  ·intro w'
   go_simp
   with_reducible rfl
  rotate_left
  ·simp only [Act.put,qs1,qs2,qs3,qAH,qAI]
   rfl
  refine qAL (i:=14) (N:=some 5) (v := ?_) (a' := ?_) #[qT,qT,qT,qT,qT,qT,qT,qT,qT,qT,qT,qT,qT,qT,qT,qF] rfl rfl (by kernel_rfl) (fun _ _ _ h=>h) (Or.inl ⟨by rfl, ?_⟩) ?_ ?_
  rotate_left
  ·intro w'
   go_simp
   with_reducible rfl
  rotate_left
  ·simp only [Act.put,qs1,qs2,qs3,qAH,qAI]
   rfl
  refine qAL (i:=15) (N:=some 6) (v := ?_) (a' := ?_) #[qT,qT,qT,qT,qT,qT,qT,qT,qT,qT,qT,qT,qT,qT,qT,qT] rfl rfl (by kernel_rfl) (fun _ _ _ h=>h) (Or.inl ⟨by rfl, ?_⟩) ?_ ?_
  rotate_left
  ·intro w'
   go_simp
   with_reducible rfl
  rotate_left
  ·simp only [Act.put,qs1,qs2,qs3,qAH,qAI]
   rfl
  refine qBP (by kernel_rfl) ?_
  have z0:w2.cell? ⟨g,0,none⟩=some (.slice B bs.length cb):=(qAB R2.out 0).trans rfl;have z1:w2.cell? ⟨g,1,none⟩=some (.int .i64 at_):=(qAB R2.out 1).trans rfl;have z2:w2.cell? ⟨g,2,none⟩=some (.int .i64 all):=(qAB R2.out 2).trans rfl;have z3:w2.cell? ⟨g,3,none⟩=some (.slice AL n cl):=(qAB R2.out 3).trans rfl
  go_wp2
  go_ret2
  exact ⟨rfl,W2.out⟩
 rw [if_neg h1]
 have he1:e1=0:=Classical.byContradiction h1
 subst he1
 have HSZ:=qAA.mk (HTS.out rfl)
 clear h1 HTS
 by_cases h2:s.toList=[]
 ·rw [if_pos (Or.inl h2)]
  go_enter Try.func41,Try.ntmps41
  go_wp2
  refine qAz (n:=16) (S:=fun w'=>w'.cell? ⟨g,0,none⟩=some (.slice B bs.length cb)∧w'.cell? ⟨g,1,none⟩=some (.int .i64 at_)) (ds:=[]) #[qF,qF,qF,qF,qF,qF,qF,qF,qF,qF,qF,qF,qF,qF,qF,qF] (by kernel_rfl) rfl rfl ⟨(qAB (show w.drew.heap[g]?=_ from HR.out) 0).trans rfl,(qAB (show w.drew.heap[g]?=_ from HR.out) 1).trans rfl⟩ (fun hHeld => ?_)
  generalize hwd:w.drew=wd at hHeld ⊢
  have Rd:=qAA.mk (hwd▸HR.out.below (qAW (Below.refl _ _)))
  have Wd:=qAA.mk (hwd▸qAW HW.out)
  have Od:=qAA.mk (hwd▸Kd.qA7 HO.out)
  have HGd:=qAA.mk (show g < wd.heap.size from hwd▸HGW.out)
  clear hwd
  refine qAL (i:=0) (N:=some 11) (v := ?_) (a' := ?_) #[qT,qF,qF,qF,qF,qF,qF,qF,qF,qF,qF,qF,qF,qF,qF,qF] rfl rfl (by kernel_rfl) (fun _ _ _ h=>h) (Or.inl ⟨by rfl, ?_⟩) ?_ ?_
  rotate_left
  ·intro w'
   go_simp
   with_reducible rfl
  rotate_left
  ·simp only [Act.put,qs1,qs2,qs3,qAH,qAI]
   rfl
  refine qAL (i:=1) (N:=some 12) (v := ?_) (a' := ?_) #[qT,qT,qF,qF,qF,qF,qF,qF,qF,qF,qF,qF,qF,qF,qF,qF] rfl rfl (by kernel_rfl) (fun _ _ _ h=>h) (Or.inl ⟨by rfl, ?_⟩) ?_ ?_
  rotate_left
  ·intro w'
   go_simp
   with_reducible rfl
  rotate_left
  ·simp only [Act.put,qs1,qs2,qs3,qAH,qAI]
   rfl
  refine qAL (i:=2) (N:=some 13) (v := ?_) (a' := ?_) #[qT,qT,qT,qF,qF,qF,qF,qF,qF,qF,qF,qF,qF,qF,qF,qF] rfl rfl (by kernel_rfl) (fun _ _ _ h=>h) (Or.inl ⟨by rfl, ?_⟩) ?_ ?_
  rotate_left
  ·intro w'
   go_simp
   with_reducible rfl
  rotate_left
  ·simp only [Act.put,qs1,qs2,qs3,qAH,qAI]
   rfl
  refine qAL (i:=4) (N:=some 15) (v := ?_) (a' := ?_) #[qT,qT,qT,qF,qT,qF,qF,qF,qF,qF,qF,qF,qF,qF,qF,qF] rfl rfl (by kernel_rfl) (fun _ _ _ h=>h) (Or.inl ⟨by rfl, ?_⟩) ?_ ?_
  rotate_left
  ·intro w'
   go_simp
   with_reducible rfl
  rotate_left
  ·simp only [Act.put,qs1,qs2,qs3,qAH,qAI]
   rfl
  refine qAL (i:=5) (N:=some 16) (v := ?_) (a' := ?_) #[qT,qT,qT,qF,qT,qT,qF,qF,qF,qF,qF,qF,qF,qF,qF,qF] rfl rfl (by kernel_rfl) (fun _ _ _ h=>h) (Or.inl ⟨by rfl, ?_⟩) ?_ ?_
  rotate_left
  ·intro w'
   go_simp
   with_reducible rfl
  rotate_left
  ·simp only [Act.put,qs1,qs2,qs3,qAH,qAI]
   rfl
  refine qAL (i:=6) (N:=some 17) (v := ?_) (a' := ?_) #[qT,qT,qT,qF,qT,qT,qT,qF,qF,qF,qF,qF,qF,qF,qF,qF] rfl rfl (by kernel_rfl) (fun _ _ _ h=>h) (Or.inl ⟨by rfl, ?_⟩) ?_ ?_
  rotate_left
  ·intro w'
   go_simp
   with_reducible rfl
  rotate_left
  ·simp only [Act.put,qs1,qs2,qs3,qAH,qAI]
   rfl
  refine qAt (i:=3) (N:=some 14) (v := ?_) (a' := ?_) #[qT,qT,qT,qT,qT,qT,qT,qF,qF,qF,qF,qF,qF,qF,qF,qF] rfl rfl (by kernel_rfl) (fun _ _ _ h=>h) (Or.inl ⟨by rfl, ?_⟩) hHeld ?_ ?_
  rotate_left
  ·rintro w' ⟨s0,s1⟩
   go_simp
   with_reducible rfl
  rotate_left
  ·simp only [Act.put,qs1,qs2,qs3,qAH,qAI]
   rfl
  refine qAt (i:=7) (N:=some 18) (v := ?_) (a' := ?_) #[qT,qT,qT,qT,qT,qT,qT,qT,qF,qF,qF,qF,qF,qF,qF,qF] rfl rfl (by kernel_rfl) (fun _ _ _ h=>h) (Or.inl ⟨by rfl, ?_⟩) hHeld ?_ ?_
  rotate_left
  ·rintro w' ⟨s0,s1⟩
   go_simp
   with_reducible rfl
  rotate_left
  ·simp only [Act.put,qs1,qs2,qs3,qAH,qAI]
   rfl
  refine one_ (i:=8) (N:=some 19) #[qT,qT,qT,qT,qT,qT,qT,qT,qT,qF,qF,qF,qF,qF,qF,qF] rfl rfl (by kernel_rfl) (by decide) (fun K hK => ?_)
  refine qBf Try.func60 (by kernel_rfl) rfl #[.slice B bs.length cb,.int .i64 at_,.int .i64 32] (by rfl) rfl rfl (by (try simp only [List.map_toArray,List.map_cons,List.map_nil]);first | done | rfl) ?_
  refine (TX.out wd Wd.out).mono ?_
  rintro e w2 ⟨rfl,hb⟩
  refine ⟨_,rfl, ?_⟩
  have R2:=qAA.mk (Rd.out.below hb.below)
  have W2:=qAA.mk (qAg Wd.out Wd.out.size hb.below)
  have O2:=qAA.mk (Kd.qA2 Od.out hb.below)
  have HG2:=qAA.mk (Nat.lt_of_lt_of_le HGd.out hb.below.size)
  clear hb
  refine hK.out _ _ ⟨(qAB R2.out 0).trans rfl,(qAB R2.out 1).trans rfl⟩ (fun hHeld => ?_)
  clear hK K
  refine qBH (a' := ?_) ?_ ?_
  rotate_left
  ·show Act.put _ (some 19) _=_
   simp only [Act.put,qs1,qs2,qs3,qAH,qAI]
   rfl
  refine qAL (i:=9) (N:=some 10) (v := ?_) (a' := ?_) #[qT,qT,qT,qT,qT,qT,qT,qT,qT,qT,qF,qF,qF,qF,qF,qF] rfl rfl (by kernel_rfl) (fun _ _ _ h=>h) (Or.inl ⟨by rfl, ?_⟩) ?_ ?_
  rotate_left
  ·intro w'
   go_simp
   with_reducible rfl
  rotate_left
  ·simp only [Act.put,qs1,qs2,qs3,qAH,qAI]
   rfl
  refine qAL (i:=10) (N:=some 20) (v := ?_) (a' := ?_) #[qT,qT,qT,qT,qT,qT,qT,qT,qT,qT,qT,qF,qF,qF,qF,qF] rfl rfl (by kernel_rfl) (fun _ _ _ h=>h) (Or.inl ⟨by rfl, ?_⟩) ?_ ?_
  rotate_left
  ·intro w'
   go_simp
   with_reducible rfl
  rotate_left
  ·simp only [Act.put,qs1,qs2,qs3,qAH,qAI]
   rfl
  refine qAL (i:=11) (N:=some 21) (v := ?_) (a' := ?_) #[qT,qT,qT,qT,qT,qT,qT,qT,qT,qT,qT,qT,qF,qF,qF,qF] rfl rfl (by kernel_rfl) (fun _ _ _ h=>h) (Or.inl ⟨by rfl, ?_⟩) ?_ ?_
  rotate_left
  ·intro w'
   go_simp
   with_reducible rfl
  rotate_left
  ·simp only [Act.put,qs1,qs2,qs3,qAH,qAI]
   rfl
  refine qAL (i:=12) (N:=some 22) (v := ?_) (a' := ?_) #[qT,qT,qT,qT,qT,qT,qT,qT,qT,qT,qT,qT,qT,qF,qF,qF] rfl rfl (by kernel_rfl) (fun _ _ _ h=>h) (Or.inl ⟨by rfl, ?_⟩) ?_ ?_
  rotate_left
  ·intro w'
   go_simp
   with_reducible rfl
  rotate_left
  ·simp only [Act.put,qs1,qs2,qs3,qAH,qAI]
   rfl
  refine qAL (i:=13) (N:=some 4) (v := ?_) (a' := ?_) #[qT,qT,qT,qT,qT,qT,qT,qT,qT,qT,qT,qT,qT,qT,qF,qF] rfl rfl (by kernel_rfl) (fun _ _ _ h=>h) (Or.inl ⟨by rfl, ?_⟩) ?_ ?_
  rotate_left
  ·intro w'
   go_simp
   with_reducible rfl
  rotate_left
  ·simp only [Act.put,qs1,qs2,qs3,qAH,qAI]
   rfl
  refine qAL (i:=14) (N:=some 5) (v := ?_) (a' := ?_) #[qT,qT,qT,qT,qT,qT,qT,qT,qT,qT,qT,qT,qT,qT,qT,qF] rfl rfl (by kernel_rfl) (fun _ _ _ h=>h) (Or.inl ⟨by rfl, ?_⟩) ?_ ?_
  rotate_left
  ·intro w'
   go_simp
   with_reducible rfl
  rotate_left
  ·simp only [Act.put,qs1,qs2,qs3,qAH,qAI]
   rfl
  refine qAL (i:=15) (N:=some 6) (v := ?_) (a' := ?_) #[qT,qT,qT,qT,qT,qT,qT,qT,qT,qT,qT,qT,qT,qT,qT,qT] rfl rfl (by kernel_rfl) (fun _ _ _ h=>h) (Or.inl ⟨by rfl, ?_⟩) ?_ ?_
  rotate_left
  ·intro w'
   go_simp
   with_reducible rfl
  rotate_left
  ·simp only [Act.put,qs1,qs2,qs3,qAH,qAI]
   rfl
  refine qBP (by kernel_rfl) ?_
  go_wp2
  refine qAz (n:=28) (S:=fun w'=>True) (ds:=[]) #[qF,qF,qF,qF,qF,qF,qF,qF,qF,qF,qF,qF,qF,qF,qF,qF,qF,qF,qF,qF,qF,qF,qF,qF,qF,qF,qF,qF] (by kernel_rfl) rfl rfl trivial (fun hHeld => ?_)
  generalize hwd:w2.drew=wd2 at hHeld ⊢
  have R2d:=qAA.mk (hwd▸R2.out.below (qAW (Below.refl _ _)))
  have W2d:=qAA.mk (hwd▸qAW W2.out)
  have O2d:=qAA.mk (hwd▸Kd.qA7 O2.out)
  have HG2d:=qAA.mk (show g < wd2.heap.size from hwd▸HG2.out)
  have HOB:=qAA.mk (fun k hk=>((Kd.qBg O2d.out).1 k hk).2.2.1)
  clear hwd
  refine qAL (i:=0) (N:=some 31) (v := ?_) (a' := ?_) #[qT,qF,qF,qF,qF,qF,qF,qF,qF,qF,qF,qF,qF,qF,qF,qF,qF,qF,qF,qF,qF,qF,qF,qF,qF,qF,qF,qF] rfl rfl (by kernel_rfl) (fun _ _ _ h=>h) (Or.inl ⟨by rfl, ?_⟩) ?_ ?_
  rotate_left
  ·intro w'
   go_simp
   with_reducible rfl
  rotate_left
  ·simp only [Act.put,qs1,qs2,qs3,qAH,qAI]
   rfl
  refine qAL (i:=1) (N:=some 32) (v := ?_) (a' := ?_) #[qT,qT,qF,qF,qF,qF,qF,qF,qF,qF,qF,qF,qF,qF,qF,qF,qF,qF,qF,qF,qF,qF,qF,qF,qF,qF,qF,qF] rfl rfl (by kernel_rfl) (fun _ _ _ h=>h) (Or.inl ⟨by rfl, ?_⟩) ?_ ?_
  rotate_left
  ·intro w'
   go_simp
   with_reducible rfl
  rotate_left
  ·simp only [Act.put,qs1,qs2,qs3,qAH,qAI]
   rfl
  refine qAL (i:=2) (N:=some 33) (v := ?_) (a' := ?_) #[qT,qT,qT,qF,qF,qF,qF,qF,qF,qF,qF,qF,qF,qF,qF,qF,qF,qF,qF,qF,qF,qF,qF,qF,qF,qF,qF,qF] rfl rfl (by kernel_rfl) (fun _ _ _ h=>h) (Or.inl ⟨by rfl, ?_⟩) ?_ ?_
  rotate_left
  ·intro w'
   go_simp
   with_reducible rfl
  rotate_left
  ·simp only [Act.put,qs1,qs2,qs3,qAH,qAI]
   rfl
  refine qAL (i:=3) (N:=some 34) (v:=undef) (a' := ?_) #[qT,qT,qT,qT,qF,qF,qF,qF,qF,qF,qF,qF,qF,qF,qF,qF,qF,qF,qF,qF,qF,qF,qF,qF,qF,qF,qF,qF] rfl rfl (by kernel_rfl) (fun _ _ _ h=>h) (Or.inr ⟨by rfl,rfl⟩) ?_ ?_
  rotate_left
  ·simp only [Act.put,qs1,qs2,qs3,qAH,qAI]
   rfl
  refine qAL (i:=4) (N:=some 35) (v:=undef) (a' := ?_) #[qT,qT,qT,qT,qT,qF,qF,qF,qF,qF,qF,qF,qF,qF,qF,qF,qF,qF,qF,qF,qF,qF,qF,qF,qF,qF,qF,qF] rfl rfl (by kernel_rfl) (fun _ _ _ h=>h) (Or.inr ⟨by rfl,rfl⟩) ?_ ?_
  rotate_left
  ·simp only [Act.put,qs1,qs2,qs3,qAH,qAI]
   rfl
  refine qAL (i:=5) (N:=some 36) (v:=undef) (a' := ?_) #[qT,qT,qT,qT,qT,qT,qF,qF,qF,qF,qF,qF,qF,qF,qF,qF,qF,qF,qF,qF,qF,qF,qF,qF,qF,qF,qF,qF] rfl rfl (by kernel_rfl) (fun _ _ _ h=>h) (Or.inr ⟨by rfl,rfl⟩) ?_ ?_
  rotate_left
  ·simp only [Act.put,qs1,qs2,qs3,qAH,qAI]
   rfl
  refine qAL (i:=6) (N:=some 37) (v:=undef) (a' := ?_) #[qT,qT,qT,qT,qT,qT,qT,qF,qF,qF,qF,qF,qF,qF,qF,qF,qF,qF,qF,qF,qF,qF,qF,qF,qF,qF,qF,qF] rfl rfl (by kernel_rfl) (fun _ _ _ h=>h) (Or.inr ⟨by rfl,rfl⟩) ?_ ?_
  rotate_left
  ·simp only [Act.put,qs1,qs2,qs3,qAH,qAI]
   rfl
  refine qAL (i:=7) (N:=some 38) (v:=undef) (a' := ?_) #[qT,qT,qT,qT,qT,qT,qT,qT,qF,qF,qF,qF,qF,qF,qF,qF,qF,qF,qF,qF,qF,qF,qF,qF,qF,qF,qF,qF] rfl rfl (by kernel_rfl) (fun _ _ _ h=>h) (Or.inr ⟨by rfl,rfl⟩) ?_ ?_
  rotate_left
  ·simp only [Act.put,qs1,qs2,qs3,qAH,qAI]
   rfl
  refine qAL (i:=8) (N:=some 39) (v:=undef) (a' := ?_) #[qT,qT,qT,qT,qT,qT,qT,qT,qT,qF,qF,qF,qF,qF,qF,qF,qF,qF,qF,qF,qF,qF,qF,qF,qF,qF,qF,qF] rfl rfl (by kernel_rfl) (fun _ _ _ h=>h) (Or.inr ⟨by rfl,rfl⟩) ?_ ?_
  rotate_left
  ·simp only [Act.put,qs1,qs2,qs3,qAH,qAI]
   rfl
  refine qAL (i:=9) (N:=some 40) (v:=undef) (a' := ?_) #[qT,qT,qT,qT,qT,qT,qT,qT,qT,qT,qF,qF,qF,qF,qF,qF,qF,qF,qF,qF,qF,qF,qF,qF,qF,qF,qF,qF] rfl rfl (by kernel_rfl) (fun _ _ _ h=>h) (Or.inr ⟨by rfl,rfl⟩) ?_ ?_
  rotate_left
  ·simp only [Act.put,qs1,qs2,qs3,qAH,qAI]
   rfl
  refine qAL (i:=10) (N:=some 41) (v:=undef) (a' := ?_) #[qT,qT,qT,qT,qT,qT,qT,qT,qT,qT,qT,qF,qF,qF,qF,qF,qF,qF,qF,qF,qF,qF,qF,qF,qF,qF,qF,qF] rfl rfl (by kernel_rfl) (fun _ _ _ h=>h) (Or.inr ⟨by rfl,rfl⟩) ?_ ?_
  rotate_left
  ·simp only [Act.put,qs1,qs2,qs3,qAH,qAI]
   rfl
  refine qAL (i:=11) (N:=some 42) (v:=undef) (a' := ?_) #[qT,qT,qT,qT,qT,qT,qT,qT,qT,qT,qT,qT,qF,qF,qF,qF,qF,qF,qF,qF,qF,qF,qF,qF,qF,qF,qF,qF] rfl rfl (by kernel_rfl) (fun _ _ _ h=>h) (Or.inr ⟨by rfl,rfl⟩) ?_ ?_
  rotate_left
  ·simp only [Act.put,qs1,qs2,qs3,qAH,qAI]
   rfl
  refine qAL (i:=12) (N:=some 43) (v:=undef) (a' := ?_) #[qT,qT,qT,qT,qT,qT,qT,qT,qT,qT,qT,qT,qT,qF,qF,qF,qF,qF,qF,qF,qF,qF,qF,qF,qF,qF,qF,qF] rfl rfl (by kernel_rfl) (fun _ _ _ h=>h) (Or.inr ⟨by rfl,rfl⟩) ?_ ?_
  rotate_left
  ·simp only [Act.put,qs1,qs2,qs3,qAH,qAI]
   rfl
  refine qAL (i:=13) (N:=some 44) (v:=undef) (a' := ?_) #[qT,qT,qT,qT,qT,qT,qT,qT,qT,qT,qT,qT,qT,qT,qF,qF,qF,qF,qF,qF,qF,qF,qF,qF,qF,qF,qF,qF] rfl rfl (by kernel_rfl) (fun _ _ _ h=>h) (Or.inr ⟨by rfl,rfl⟩) ?_ ?_
  rotate_left
  ·simp only [Act.put,qs1,qs2,qs3,qAH,qAI]
   rfl
  refine qAL (i:=14) (N:=some 45) (v:=undef) (a' := ?_) #[qT,qT,qT,qT,qT,qT,qT,qT,qT,qT,qT,qT,qT,qT,qT,qF,qF,qF,qF,qF,qF,qF,qF,qF,qF,qF,qF,qF] rfl rfl (by kernel_rfl) (fun _ _ _ h=>h) (Or.inr ⟨by rfl,rfl⟩) ?_ ?_
  rotate_left
  ·simp only [Act.put,qs1,qs2,qs3,qAH,qAI]
   rfl
  refine qAL (i:=15) (N:=some 46) (v:=undef) (a' := ?_) #[qT,qT,qT,qT,qT,qT,qT,qT,qT,qT,qT,qT,qT,qT,qT,qT,qF,qF,qF,qF,qF,qF,qF,qF,qF,qF,qF,qF] rfl rfl (by kernel_rfl) (fun _ _ _ h=>h) (Or.inr ⟨by rfl,rfl⟩) ?_ ?_
  rotate_left
  ·simp only [Act.put,qs1,qs2,qs3,qAH,qAI]
   rfl
  refine qAL (i:=16) (N:=some 47) (v:=undef) (a' := ?_) #[qT,qT,qT,qT,qT,qT,qT,qT,qT,qT,qT,qT,qT,qT,qT,qT,qT,qF,qF,qF,qF,qF,qF,qF,qF,qF,qF,qF] rfl rfl (by kernel_rfl) (fun _ _ _ h=>h) (Or.inr ⟨by rfl,rfl⟩) ?_ ?_
  rotate_left
  ·simp only [Act.put,qs1,qs2,qs3,qAH,qAI]
   rfl
  refine qAL (i:=17) (N:=some 48) (v:=undef) (a' := ?_) #[qT,qT,qT,qT,qT,qT,qT,qT,qT,qT,qT,qT,qT,qT,qT,qT,qT,qT,qF,qF,qF,qF,qF,qF,qF,qF,qF,qF] rfl rfl (by kernel_rfl) (fun _ _ _ h=>h) (Or.inr ⟨by rfl,rfl⟩) ?_ ?_
  rotate_left
  ·simp only [Act.put,qs1,qs2,qs3,qAH,qAI]
   rfl
  refine qAL (i:=18) (N:=some 49) (v:=undef) (a' := ?_) #[qT,qT,qT,qT,qT,qT,qT,qT,qT,qT,qT,qT,qT,qT,qT,qT,qT,qT,qT,qF,qF,qF,qF,qF,qF,qF,qF,qF] rfl rfl (by kernel_rfl) (fun _ _ _ h=>h) (Or.inr ⟨by rfl,rfl⟩) ?_ ?_
  rotate_left
  ·simp only [Act.put,qs1,qs2,qs3,qAH,qAI]
   rfl
  refine qAL (i:=19) (N:=some 50) (v:=undef) (a' := ?_) #[qT,qT,qT,qT,qT,qT,qT,qT,qT,qT,qT,qT,qT,qT,qT,qT,qT,qT,qT,qT,qF,qF,qF,qF,qF,qF,qF,qF] rfl rfl (by kernel_rfl) (fun _ _ _ h=>h) (Or.inr ⟨by rfl,rfl⟩) ?_ ?_
  rotate_left
  ·simp only [Act.put,qs1,qs2,qs3,qAH,qAI]
   rfl
  refine qAL (i:=20) (N:=some 51) (v:=undef) (a' := ?_) #[qT,qT,qT,qT,qT,qT,qT,qT,qT,qT,qT,qT,qT,qT,qT,qT,qT,qT,qT,qT,qT,qF,qF,qF,qF,qF,qF,qF] rfl rfl (by kernel_rfl) (fun _ _ _ h=>h) (Or.inr ⟨by rfl,rfl⟩) ?_ ?_
  rotate_left
  ·simp only [Act.put,qs1,qs2,qs3,qAH,qAI]
   rfl
  refine qAL (i:=21) (N:=some 52) (v:=undef) (a' := ?_) #[qT,qT,qT,qT,qT,qT,qT,qT,qT,qT,qT,qT,qT,qT,qT,qT,qT,qT,qT,qT,qT,qT,qF,qF,qF,qF,qF,qF] rfl rfl (by kernel_rfl) (fun _ _ _ h=>h) (Or.inr ⟨by rfl,rfl⟩) ?_ ?_
  rotate_left
  ·simp only [Act.put,qs1,qs2,qs3,qAH,qAI]
   rfl
  refine qAL (i:=22) (N:=some 53) (v:=undef) (a' := ?_) #[qT,qT,qT,qT,qT,qT,qT,qT,qT,qT,qT,qT,qT,qT,qT,qT,qT,qT,qT,qT,qT,qT,qT,qF,qF,qF,qF,qF] rfl rfl (by kernel_rfl) (fun _ _ _ h=>h) (Or.inr ⟨by rfl,rfl⟩) ?_ ?_
  rotate_left
  ·simp only [Act.put,qs1,qs2,qs3,qAH,qAI]
   rfl
  refine qAL (i:=23) (N:=some 54) (v:=undef) (a' := ?_) #[qT,qT,qT,qT,qT,qT,qT,qT,qT,qT,qT,qT,qT,qT,qT,qT,qT,qT,qT,qT,qT,qT,qT,qT,qF,qF,qF,qF] rfl rfl (by kernel_rfl) (fun _ _ _ h=>h) (Or.inr ⟨by rfl,rfl⟩) ?_ ?_
  rotate_left
  ·simp only [Act.put,qs1,qs2,qs3,qAH,qAI]
   rfl
  refine qAL (i:=24) (N:=some 55) (v:=undef) (a' := ?_) #[qT,qT,qT,qT,qT,qT,qT,qT,qT,qT,qT,qT,qT,qT,qT,qT,qT,qT,qT,qT,qT,qT,qT,qT,qT,qF,qF,qF] rfl rfl (by kernel_rfl) (fun _ _ _ h=>h) (Or.inr ⟨by rfl,rfl⟩) ?_ ?_
  rotate_left
  ·simp only [Act.put,qs1,qs2,qs3,qAH,qAI]
   rfl
  refine qAL (i:=25) (N:=some 56) (v:=undef) (a' := ?_) #[qT,qT,qT,qT,qT,qT,qT,qT,qT,qT,qT,qT,qT,qT,qT,qT,qT,qT,qT,qT,qT,qT,qT,qT,qT,qT,qF,qF] rfl rfl (by kernel_rfl) (fun _ _ _ h=>h) (Or.inr ⟨by rfl,rfl⟩) ?_ ?_
  rotate_left
  ·simp only [Act.put,qs1,qs2,qs3,qAH,qAI]
   rfl
  refine qAL (i:=26) (N:=some 57) (v := ?_) (a' := ?_) #[qT,qT,qT,qT,qT,qT,qT,qT,qT,qT,qT,qT,qT,qT,qT,qT,qT,qT,qT,qT,qT,qT,qT,qT,qT,qT,qT,qF] rfl rfl (by kernel_rfl) (fun _ _ _ h=>h) (Or.inl ⟨by rfl, ?_⟩) ?_ ?_
  rotate_left
  ·intro w'
   go_simp
   with_reducible rfl
  rotate_left
  ·simp only [Act.put,qs1,qs2,qs3,qAH,qAI]
   rfl
  refine qAL (i:=27) (N:=some 30) (v := ?_) (a' := ?_) #[qT,qT,qT,qT,qT,qT,qT,qT,qT,qT,qT,qT,qT,qT,qT,qT,qT,qT,qT,qT,qT,qT,qT,qT,qT,qT,qT,qT] rfl rfl (by kernel_rfl) (fun _ _ _ h=>h) (Or.inl ⟨by rfl, ?_⟩) ?_ ?_
  rotate_left
  ·intro w'
   go_simp
   with_reducible rfl
  rotate_left
  ·simp only [Act.put,qs1,qs2,qs3,qAH,qAI]
   rfl
  refine qBP (by kernel_rfl) ?_
  have z1:wd2.cell? ⟨g,1,none⟩=some (.int .i64 at_):=(qAB R2d.out 1).trans rfl
  go_wp2
  go_ret2
  exact ⟨rfl,W2d.out⟩
 have k2:(s.toList == [])=false:=by simpa using h2
 have H2:=qAA.mk h2
 have HBB:=qAA.mk (And.intro hb hl)
 clear hb hl
 rcases Nat.eq_zero_or_pos n with hn0 | hn0
 ·have hcond:¬ (s.toList=[] ∨ (0 < l.length∧¬ Op.bytesLess (qAM l ((l.length:Int) - 1)).f0.toList s.toList=true)):=by
   have:=HN.out
   rintro (h | ⟨h,_⟩)
   ·exact h2 h
   ·omega
  rw [if_neg hcond]
  subst hn0
  clear h2 hcond
  rcases hr:sa.takeS bs (qAe bs) (intAt bs) n1 with ⟨x,a2,l2⟩ | ⟨ee,pp⟩
  case bad =>
   have TB:=qAA.mk (sa.takeS_bad HBB.out.1 HBB.out.2 hr)
   have TKB:=qAA.mk (fun (W:World) (hb2:Below w0.heap.size w0 W)=>show Calls Try.prog 61 #[.slice B bs.length cb,.int .i64 n1] W (fun e w'=>e=.returned (.tuple #[.agg #[.int .i64 0,.int .i64 0,.string ⟨#[]⟩,.slice none 0 0,.slice none 0 0],.int .i64 pp,.int .i64 ee])∧Below W.heap.size W w') from by have h:=TK.out W hb2 n1;rw [hr] at h;exact h)
   dsimp only
   have hee:ee ≠ 0:=by have:=TB.out.1;omega
   have d1:(ee != 0)=true:=bne_iff_ne.2 hee
   have d2:(ee == 0)=false:=beq_eq_false_iff_ne.2 hee
   have d3:decide (ee=0)=false:=decide_eq_false hee
   clear hr hee
   go_enter Try.func41,Try.ntmps41
   go_wp2
   refine qAz (n:=16) (S:=fun w'=>w'.cell? ⟨g,0,none⟩=some (.slice B bs.length cb)∧w'.cell? ⟨g,1,none⟩=some (.int .i64 at_)) (ds:=[]) #[qF,qF,qF,qF,qF,qF,qF,qF,qF,qF,qF,qF,qF,qF,qF,qF] (by kernel_rfl) rfl rfl ⟨(qAB (show w.drew.heap[g]?=_ from HR.out) 0).trans rfl,(qAB (show w.drew.heap[g]?=_ from HR.out) 1).trans rfl⟩ (fun hHeld => ?_)
   generalize hwd:w.drew=wd at hHeld ⊢
   have Rd:=qAA.mk (hwd▸HR.out.below (qAW (Below.refl _ _)))
   have Wd:=qAA.mk (hwd▸qAW HW.out)
   have Od:=qAA.mk (hwd▸Kd.qA7 HO.out)
   have HGd:=qAA.mk (show g < wd.heap.size from hwd▸HGW.out)
   clear hwd
   refine qAL (i:=0) (N:=some 11) (v := ?_) (a' := ?_) #[qT,qF,qF,qF,qF,qF,qF,qF,qF,qF,qF,qF,qF,qF,qF,qF] rfl rfl (by kernel_rfl) (fun _ _ _ h=>h) (Or.inl ⟨by rfl, ?_⟩) ?_ ?_
   rotate_left
   ·intro w'
    go_simp
    with_reducible rfl
   rotate_left
   ·simp only [Act.put,qs1,qs2,qs3,qAH,qAI]
    rfl
   refine qAL (i:=1) (N:=some 12) (v := ?_) (a' := ?_) #[qT,qT,qF,qF,qF,qF,qF,qF,qF,qF,qF,qF,qF,qF,qF,qF] rfl rfl (by kernel_rfl) (fun _ _ _ h=>h) (Or.inl ⟨by rfl, ?_⟩) ?_ ?_
   rotate_left
   ·intro w'
    go_simp
    with_reducible rfl
   rotate_left
   ·simp only [Act.put,qs1,qs2,qs3,qAH,qAI]
    rfl
   refine qAL (i:=2) (N:=some 13) (v := ?_) (a' := ?_) #[qT,qT,qT,qF,qF,qF,qF,qF,qF,qF,qF,qF,qF,qF,qF,qF] rfl rfl (by kernel_rfl) (fun _ _ _ h=>h) (Or.inl ⟨by rfl, ?_⟩) ?_ ?_
   rotate_left
   ·intro w'
    go_simp
    with_reducible rfl
   rotate_left
   ·simp only [Act.put,qs1,qs2,qs3,qAH,qAI]
    rfl
   refine qAL (i:=4) (N:=some 15) (v := ?_) (a' := ?_) #[qT,qT,qT,qF,qT,qF,qF,qF,qF,qF,qF,qF,qF,qF,qF,qF] rfl rfl (by kernel_rfl) (fun _ _ _ h=>h) (Or.inl ⟨by rfl, ?_⟩) ?_ ?_
   rotate_left
   ·intro w'
    go_simp
    with_reducible rfl
   rotate_left
   ·simp only [Act.put,qs1,qs2,qs3,qAH,qAI]
    rfl
   refine qAL (i:=5) (N:=some 16) (v := ?_) (a' := ?_) #[qT,qT,qT,qF,qT,qT,qF,qF,qF,qF,qF,qF,qF,qF,qF,qF] rfl rfl (by kernel_rfl) (fun _ _ _ h=>h) (Or.inl ⟨by rfl, ?_⟩) ?_ ?_
   rotate_left
   ·intro w'
    go_simp
    with_reducible rfl
   rotate_left
   ·simp only [Act.put,qs1,qs2,qs3,qAH,qAI]
    rfl
   refine qAL (i:=6) (N:=some 17) (v := ?_) (a' := ?_) #[qT,qT,qT,qF,qT,qT,qT,qF,qF,qF,qF,qF,qF,qF,qF,qF] rfl rfl (by kernel_rfl) (fun _ _ _ h=>h) (Or.inl ⟨by rfl, ?_⟩) ?_ ?_
   rotate_left
   ·intro w'
    go_simp
    with_reducible rfl
   rotate_left
   ·simp only [Act.put,qs1,qs2,qs3,qAH,qAI]
    rfl
   refine qAt (i:=3) (N:=some 14) (v := ?_) (a' := ?_) #[qT,qT,qT,qT,qT,qT,qT,qF,qF,qF,qF,qF,qF,qF,qF,qF] rfl rfl (by kernel_rfl) (fun _ _ _ h=>h) (Or.inl ⟨by rfl, ?_⟩) hHeld ?_ ?_
   rotate_left
   ·rintro w' ⟨s0,s1⟩
    go_simp
    with_reducible rfl
   rotate_left
   ·simp only [Act.put,qs1,qs2,qs3,qAH,qAI]
    rfl
   refine qAt (i:=7) (N:=some 18) (v := ?_) (a' := ?_) #[qT,qT,qT,qT,qT,qT,qT,qT,qF,qF,qF,qF,qF,qF,qF,qF] rfl rfl (by kernel_rfl) (fun _ _ _ h=>h) (Or.inl ⟨by rfl, ?_⟩) hHeld ?_ ?_
   rotate_left
   ·rintro w' ⟨s0,s1⟩
    go_simp
    with_reducible rfl
   rotate_left
   ·simp only [Act.put,qs1,qs2,qs3,qAH,qAI]
    rfl
   refine one_ (i:=8) (N:=some 19) #[qT,qT,qT,qT,qT,qT,qT,qT,qT,qF,qF,qF,qF,qF,qF,qF] rfl rfl (by kernel_rfl) (by decide) (fun K hK => ?_)
   refine qBf Try.func60 (by kernel_rfl) rfl #[.slice B bs.length cb,.int .i64 at_,.int .i64 32] (by rfl) rfl rfl (by (try simp only [List.map_toArray,List.map_cons,List.map_nil]);first | done | rfl) ?_
   refine (TX.out wd Wd.out).mono ?_
   rintro e w2 ⟨rfl,hb⟩
   refine ⟨_,rfl, ?_⟩
   have R2:=qAA.mk (Rd.out.below hb.below)
   have W2:=qAA.mk (qAg Wd.out Wd.out.size hb.below)
   have O2:=qAA.mk (Kd.qA2 Od.out hb.below)
   have HG2:=qAA.mk (Nat.lt_of_lt_of_le HGd.out hb.below.size)
   clear hb
   refine hK.out _ _ ⟨(qAB R2.out 0).trans rfl,(qAB R2.out 1).trans rfl⟩ (fun hHeld => ?_)
   clear hK K
   refine qBH (a' := ?_) ?_ ?_
   rotate_left
   ·show Act.put _ (some 19) _=_
    simp only [Act.put,qs1,qs2,qs3,qAH,qAI]
    rfl
   refine qAL (i:=9) (N:=some 10) (v := ?_) (a' := ?_) #[qT,qT,qT,qT,qT,qT,qT,qT,qT,qT,qF,qF,qF,qF,qF,qF] rfl rfl (by kernel_rfl) (fun _ _ _ h=>h) (Or.inl ⟨by rfl, ?_⟩) ?_ ?_
   rotate_left
   ·intro w'
    go_simp
    with_reducible rfl
   rotate_left
   ·simp only [Act.put,qs1,qs2,qs3,qAH,qAI]
    rfl
   refine qAL (i:=10) (N:=some 20) (v := ?_) (a' := ?_) #[qT,qT,qT,qT,qT,qT,qT,qT,qT,qT,qT,qF,qF,qF,qF,qF] rfl rfl (by kernel_rfl) (fun _ _ _ h=>h) (Or.inl ⟨by rfl, ?_⟩) ?_ ?_
   rotate_left
   ·intro w'
    go_simp
    with_reducible rfl
   rotate_left
   ·simp only [Act.put,qs1,qs2,qs3,qAH,qAI]
    rfl
   refine qAL (i:=11) (N:=some 21) (v := ?_) (a' := ?_) #[qT,qT,qT,qT,qT,qT,qT,qT,qT,qT,qT,qT,qF,qF,qF,qF] rfl rfl (by kernel_rfl) (fun _ _ _ h=>h) (Or.inl ⟨by rfl, ?_⟩) ?_ ?_
   rotate_left
   ·intro w'
    go_simp
    with_reducible rfl
   rotate_left
   ·simp only [Act.put,qs1,qs2,qs3,qAH,qAI]
    rfl
   refine qAL (i:=12) (N:=some 22) (v := ?_) (a' := ?_) #[qT,qT,qT,qT,qT,qT,qT,qT,qT,qT,qT,qT,qT,qF,qF,qF] rfl rfl (by kernel_rfl) (fun _ _ _ h=>h) (Or.inl ⟨by rfl, ?_⟩) ?_ ?_
   rotate_left
   ·intro w'
    go_simp
    with_reducible rfl
   rotate_left
   ·simp only [Act.put,qs1,qs2,qs3,qAH,qAI]
    rfl
   refine qAL (i:=13) (N:=some 4) (v := ?_) (a' := ?_) #[qT,qT,qT,qT,qT,qT,qT,qT,qT,qT,qT,qT,qT,qT,qF,qF] rfl rfl (by kernel_rfl) (fun _ _ _ h=>h) (Or.inl ⟨by rfl, ?_⟩) ?_ ?_
   rotate_left
   ·intro w'
    go_simp
    with_reducible rfl
   rotate_left
   ·simp only [Act.put,qs1,qs2,qs3,qAH,qAI]
    rfl
   refine qAL (i:=14) (N:=some 5) (v := ?_) (a' := ?_) #[qT,qT,qT,qT,qT,qT,qT,qT,qT,qT,qT,qT,qT,qT,qT,qF] rfl rfl (by kernel_rfl) (fun _ _ _ h=>h) (Or.inl ⟨by rfl, ?_⟩) ?_ ?_
   rotate_left
   ·intro w'
    go_simp
    with_reducible rfl
   rotate_left
   ·simp only [Act.put,qs1,qs2,qs3,qAH,qAI]
    rfl
   refine qAL (i:=15) (N:=some 6) (v := ?_) (a' := ?_) #[qT,qT,qT,qT,qT,qT,qT,qT,qT,qT,qT,qT,qT,qT,qT,qT] rfl rfl (by kernel_rfl) (fun _ _ _ h=>h) (Or.inl ⟨by rfl, ?_⟩) ?_ ?_
   rotate_left
   ·intro w'
    go_simp
    with_reducible rfl
   rotate_left
   ·simp only [Act.put,qs1,qs2,qs3,qAH,qAI]
    rfl
   refine qBP (by kernel_rfl) ?_
   go_wp2
   refine qAz (n:=28) (S:=fun w'=>w'.cell? ⟨g,3,none⟩=some (.slice AL 0 cl)) (ds:=[]) #[qF,qF,qF,qF,qF,qF,qF,qF,qF,qF,qF,qF,qF,qF,qF,qF,qF,qF,qF,qF,qF,qF,qF,qF,qF,qF,qF,qF] (by kernel_rfl) rfl rfl ((qAB (show w2.drew.heap[g]?=_ from R2.out) 3).trans rfl) (fun hHeld => ?_)
   generalize hwd:w2.drew=wd2 at hHeld ⊢
   have R2d:=qAA.mk (hwd▸R2.out.below (qAW (Below.refl _ _)))
   have W2d:=qAA.mk (hwd▸qAW W2.out)
   have O2d:=qAA.mk (hwd▸Kd.qA7 O2.out)
   have HG2d:=qAA.mk (show g < wd2.heap.size from hwd▸HG2.out)
   have HOB:=qAA.mk (fun k hk=>((Kd.qBg O2d.out).1 k hk).2.2.1)
   clear hwd
   refine qAL (i:=0) (N:=some 31) (v := ?_) (a' := ?_) #[qT,qF,qF,qF,qF,qF,qF,qF,qF,qF,qF,qF,qF,qF,qF,qF,qF,qF,qF,qF,qF,qF,qF,qF,qF,qF,qF,qF] rfl rfl (by kernel_rfl) (fun _ _ _ h=>h) (Or.inl ⟨by rfl, ?_⟩) ?_ ?_
   rotate_left
   ·intro w'
    go_simp
    with_reducible rfl
   rotate_left
   ·simp only [Act.put,qs1,qs2,qs3,qAH,qAI]
    rfl
   refine qAL (i:=1) (N:=some 32) (v := ?_) (a' := ?_) #[qT,qT,qF,qF,qF,qF,qF,qF,qF,qF,qF,qF,qF,qF,qF,qF,qF,qF,qF,qF,qF,qF,qF,qF,qF,qF,qF,qF] rfl rfl (by kernel_rfl) (fun _ _ _ h=>h) (Or.inl ⟨by rfl, ?_⟩) ?_ ?_
   rotate_left
   ·intro w'
    go_simp
    with_reducible rfl
   rotate_left
   ·simp only [Act.put,qs1,qs2,qs3,qAH,qAI]
    rfl
   refine qAL (i:=2) (N:=some 33) (v := ?_) (a' := ?_) #[qT,qT,qT,qF,qF,qF,qF,qF,qF,qF,qF,qF,qF,qF,qF,qF,qF,qF,qF,qF,qF,qF,qF,qF,qF,qF,qF,qF] rfl rfl (by kernel_rfl) (fun _ _ _ h=>h) (Or.inl ⟨by rfl, ?_⟩) ?_ ?_
   rotate_left
   ·intro w'
    go_simp
    with_reducible rfl
   rotate_left
   ·simp only [Act.put,qs1,qs2,qs3,qAH,qAI]
    rfl
   refine qAL (i:=3) (N:=some 34) (v := ?_) (a' := ?_) #[qT,qT,qT,qT,qF,qF,qF,qF,qF,qF,qF,qF,qF,qF,qF,qF,qF,qF,qF,qF,qF,qF,qF,qF,qF,qF,qF,qF] rfl rfl (by kernel_rfl) (fun _ _ _ h=>h) (Or.inl ⟨by rfl, ?_⟩) ?_ ?_
   rotate_left
   ·intro w'
    go_simp
    with_reducible rfl
   rotate_left
   ·simp only [Act.put,qs1,qs2,qs3,qAH,qAI]
    rfl
   refine qAL (i:=4) (N:=some 35) (v := ?_) (a' := ?_) #[qT,qT,qT,qT,qT,qF,qF,qF,qF,qF,qF,qF,qF,qF,qF,qF,qF,qF,qF,qF,qF,qF,qF,qF,qF,qF,qF,qF] rfl rfl (by kernel_rfl) (fun _ _ _ h=>h) (Or.inl ⟨by rfl, ?_⟩) ?_ ?_
   rotate_left
   ·intro w'
    go_simp
    with_reducible rfl
   rotate_left
   ·simp only [Act.put,qs1,qs2,qs3,qAH,qAI]
    rfl
   refine qAL (i:=5) (N:=some 36) (v := ?_) (a' := ?_) #[qT,qT,qT,qT,qT,qT,qF,qF,qF,qF,qF,qF,qF,qF,qF,qF,qF,qF,qF,qF,qF,qF,qF,qF,qF,qF,qF,qF] rfl rfl (by kernel_rfl) (fun _ _ _ h=>h) (Or.inl ⟨by rfl, ?_⟩) ?_ ?_
   rotate_left
   ·intro w'
    go_simp
    with_reducible rfl
   rotate_left
   ·simp only [Act.put,qs1,qs2,qs3,qAH,qAI]
    rfl
   refine qAt (i:=6) (N:=some 37) (v := ?_) (a' := ?_) #[qT,qT,qT,qT,qT,qT,qT,qF,qF,qF,qF,qF,qF,qF,qF,qF,qF,qF,qF,qF,qF,qF,qF,qF,qF,qF,qF,qF] rfl rfl (by kernel_rfl) (fun _ _ _ h=>h) (Or.inl ⟨by rfl, ?_⟩) hHeld ?_ ?_
   rotate_left
   ·intro w' s0
    go_simp
    with_reducible rfl
   rotate_left
   ·simp only [Act.put,qs1,qs2,qs3,qAH,qAI]
    rfl
   refine qAL (i:=7) (N:=some 38) (v := ?_) (a' := ?_) #[qT,qT,qT,qT,qT,qT,qT,qT,qF,qF,qF,qF,qF,qF,qF,qF,qF,qF,qF,qF,qF,qF,qF,qF,qF,qF,qF,qF] rfl rfl (by kernel_rfl) (fun _ _ _ h=>h) (Or.inl ⟨by rfl, ?_⟩) ?_ ?_
   rotate_left
   ·intro w'
    go_simp
    with_reducible rfl
   rotate_left
   ·simp only [Act.put,qs1,qs2,qs3,qAH,qAI]
    rfl
   refine qAL (i:=8) (N:=some 39) (v := ?_) (a' := ?_) #[qT,qT,qT,qT,qT,qT,qT,qT,qT,qF,qF,qF,qF,qF,qF,qF,qF,qF,qF,qF,qF,qF,qF,qF,qF,qF,qF,qF] rfl rfl (by kernel_rfl) (fun _ _ _ h=>h) (Or.inl ⟨by rfl, ?_⟩) ?_ ?_
   rotate_left
   ·intro w'
    go_simp
    with_reducible rfl
   rotate_left
   ·simp only [Act.put,qs1,qs2,qs3,qAH,qAI]
    rfl
   refine qAL (i:=9) (N:=some 40) (v := ?_) (a' := ?_) #[qT,qT,qT,qT,qT,qT,qT,qT,qT,qT,qF,qF,qF,qF,qF,qF,qF,qF,qF,qF,qF,qF,qF,qF,qF,qF,qF,qF] rfl rfl (by kernel_rfl) (fun _ _ _ h=>h) (Or.inl ⟨by rfl, ?_⟩) ?_ ?_
   rotate_left
   ·intro w'
    go_simp
    with_reducible rfl
   rotate_left
   ·simp only [Act.put,qs1,qs2,qs3,qAH,qAI]
    rfl
   refine qAL (i:=10) (N:=some 41) (v:=undef) (a' := ?_) #[qT,qT,qT,qT,qT,qT,qT,qT,qT,qT,qT,qF,qF,qF,qF,qF,qF,qF,qF,qF,qF,qF,qF,qF,qF,qF,qF,qF] rfl rfl (by kernel_rfl) (fun _ _ _ h=>h) (Or.inr ⟨by rfl,rfl⟩) ?_ ?_
   rotate_left
   ·simp only [Act.put,qs1,qs2,qs3,qAH,qAI]
    rfl
   refine qAL (i:=11) (N:=some 42) (v:=undef) (a' := ?_) #[qT,qT,qT,qT,qT,qT,qT,qT,qT,qT,qT,qT,qF,qF,qF,qF,qF,qF,qF,qF,qF,qF,qF,qF,qF,qF,qF,qF] rfl rfl (by kernel_rfl) (fun _ _ _ h=>h) (Or.inr ⟨by rfl,rfl⟩) ?_ ?_
   rotate_left
   ·simp only [Act.put,qs1,qs2,qs3,qAH,qAI]
    rfl
   refine qAL (i:=12) (N:=some 43) (v:=undef) (a' := ?_) #[qT,qT,qT,qT,qT,qT,qT,qT,qT,qT,qT,qT,qT,qF,qF,qF,qF,qF,qF,qF,qF,qF,qF,qF,qF,qF,qF,qF] rfl rfl (by kernel_rfl) (fun _ _ _ h=>h) (Or.inr ⟨by rfl,rfl⟩) ?_ ?_
   rotate_left
   ·simp only [Act.put,qs1,qs2,qs3,qAH,qAI]
    rfl
   refine qAL (i:=13) (N:=some 44) (v:=undef) (a' := ?_) #[qT,qT,qT,qT,qT,qT,qT,qT,qT,qT,qT,qT,qT,qT,qF,qF,qF,qF,qF,qF,qF,qF,qF,qF,qF,qF,qF,qF] rfl rfl (by kernel_rfl) (fun _ _ _ h=>h) (Or.inr ⟨by rfl,rfl⟩) ?_ ?_
   rotate_left
   ·simp only [Act.put,qs1,qs2,qs3,qAH,qAI]
    rfl
   refine qAL (i:=14) (N:=some 45) (v:=undef) (a' := ?_) #[qT,qT,qT,qT,qT,qT,qT,qT,qT,qT,qT,qT,qT,qT,qT,qF,qF,qF,qF,qF,qF,qF,qF,qF,qF,qF,qF,qF] rfl rfl (by kernel_rfl) (fun _ _ _ h=>h) (Or.inr ⟨by rfl,rfl⟩) ?_ ?_
   rotate_left
   ·simp only [Act.put,qs1,qs2,qs3,qAH,qAI]
    rfl
   refine qAL (i:=15) (N:=some 46) (v:=undef) (a' := ?_) #[qT,qT,qT,qT,qT,qT,qT,qT,qT,qT,qT,qT,qT,qT,qT,qT,qF,qF,qF,qF,qF,qF,qF,qF,qF,qF,qF,qF] rfl rfl (by kernel_rfl) (fun _ _ _ h=>h) (Or.inr ⟨by rfl,rfl⟩) ?_ ?_
   rotate_left
   ·simp only [Act.put,qs1,qs2,qs3,qAH,qAI]
    rfl
   refine qAL (i:=16) (N:=some 47) (v:=undef) (a' := ?_) #[qT,qT,qT,qT,qT,qT,qT,qT,qT,qT,qT,qT,qT,qT,qT,qT,qT,qF,qF,qF,qF,qF,qF,qF,qF,qF,qF,qF] rfl rfl (by kernel_rfl) (fun _ _ _ h=>h) (Or.inr ⟨by rfl,rfl⟩) ?_ ?_
   rotate_left
   ·simp only [Act.put,qs1,qs2,qs3,qAH,qAI]
    rfl
   refine qAL (i:=17) (N:=some 48) (v:=undef) (a' := ?_) #[qT,qT,qT,qT,qT,qT,qT,qT,qT,qT,qT,qT,qT,qT,qT,qT,qT,qT,qF,qF,qF,qF,qF,qF,qF,qF,qF,qF] rfl rfl (by kernel_rfl) (fun _ _ _ h=>h) (Or.inr ⟨by rfl,rfl⟩) ?_ ?_
   rotate_left
   ·simp only [Act.put,qs1,qs2,qs3,qAH,qAI]
    rfl
   refine qAL (i:=18) (N:=some 49) (v:=undef) (a' := ?_) #[qT,qT,qT,qT,qT,qT,qT,qT,qT,qT,qT,qT,qT,qT,qT,qT,qT,qT,qT,qF,qF,qF,qF,qF,qF,qF,qF,qF] rfl rfl (by kernel_rfl) (fun _ _ _ h=>h) (Or.inr ⟨by rfl,rfl⟩) ?_ ?_
   rotate_left
   ·simp only [Act.put,qs1,qs2,qs3,qAH,qAI]
    rfl
   refine qAL (i:=19) (N:=some 50) (v:=undef) (a' := ?_) #[qT,qT,qT,qT,qT,qT,qT,qT,qT,qT,qT,qT,qT,qT,qT,qT,qT,qT,qT,qT,qF,qF,qF,qF,qF,qF,qF,qF] rfl rfl (by kernel_rfl) (fun _ _ _ h=>h) (Or.inr ⟨by rfl,rfl⟩) ?_ ?_
   rotate_left
   ·simp only [Act.put,qs1,qs2,qs3,qAH,qAI]
    rfl
   refine qAL (i:=20) (N:=some 51) (v:=undef) (a' := ?_) #[qT,qT,qT,qT,qT,qT,qT,qT,qT,qT,qT,qT,qT,qT,qT,qT,qT,qT,qT,qT,qT,qF,qF,qF,qF,qF,qF,qF] rfl rfl (by kernel_rfl) (fun _ _ _ h=>h) (Or.inr ⟨by rfl,rfl⟩) ?_ ?_
   rotate_left
   ·simp only [Act.put,qs1,qs2,qs3,qAH,qAI]
    rfl
   refine qAL (i:=21) (N:=some 52) (v:=undef) (a' := ?_) #[qT,qT,qT,qT,qT,qT,qT,qT,qT,qT,qT,qT,qT,qT,qT,qT,qT,qT,qT,qT,qT,qT,qF,qF,qF,qF,qF,qF] rfl rfl (by kernel_rfl) (fun _ _ _ h=>h) (Or.inr ⟨by rfl,rfl⟩) ?_ ?_
   rotate_left
   ·simp only [Act.put,qs1,qs2,qs3,qAH,qAI]
    rfl
   refine qAL (i:=22) (N:=some 53) (v:=undef) (a' := ?_) #[qT,qT,qT,qT,qT,qT,qT,qT,qT,qT,qT,qT,qT,qT,qT,qT,qT,qT,qT,qT,qT,qT,qT,qF,qF,qF,qF,qF] rfl rfl (by kernel_rfl) (fun _ _ _ h=>h) (Or.inr ⟨by rfl,rfl⟩) ?_ ?_
   rotate_left
   ·simp only [Act.put,qs1,qs2,qs3,qAH,qAI]
    rfl
   refine qAL (i:=23) (N:=some 54) (v:=undef) (a' := ?_) #[qT,qT,qT,qT,qT,qT,qT,qT,qT,qT,qT,qT,qT,qT,qT,qT,qT,qT,qT,qT,qT,qT,qT,qT,qF,qF,qF,qF] rfl rfl (by kernel_rfl) (fun _ _ _ h=>h) (Or.inr ⟨by rfl,rfl⟩) ?_ ?_
   rotate_left
   ·simp only [Act.put,qs1,qs2,qs3,qAH,qAI]
    rfl
   refine qAL (i:=24) (N:=some 55) (v:=undef) (a' := ?_) #[qT,qT,qT,qT,qT,qT,qT,qT,qT,qT,qT,qT,qT,qT,qT,qT,qT,qT,qT,qT,qT,qT,qT,qT,qT,qF,qF,qF] rfl rfl (by kernel_rfl) (fun _ _ _ h=>h) (Or.inr ⟨by rfl,rfl⟩) ?_ ?_
   rotate_left
   ·simp only [Act.put,qs1,qs2,qs3,qAH,qAI]
    rfl
   refine qAL (i:=25) (N:=some 56) (v := ?_) (a' := ?_) #[qT,qT,qT,qT,qT,qT,qT,qT,qT,qT,qT,qT,qT,qT,qT,qT,qT,qT,qT,qT,qT,qT,qT,qT,qT,qT,qF,qF] rfl rfl (by kernel_rfl) (fun _ _ _ h=>h) (Or.inl ⟨by rfl, ?_⟩) ?_ ?_
   rotate_left
   ·intro w'
    go_simp
    with_reducible rfl
   rotate_left
   ·simp only [Act.put,qs1,qs2,qs3,qAH,qAI]
    rfl
   refine qAL (i:=26) (N:=some 57) (v := ?_) (a' := ?_) #[qT,qT,qT,qT,qT,qT,qT,qT,qT,qT,qT,qT,qT,qT,qT,qT,qT,qT,qT,qT,qT,qT,qT,qT,qT,qT,qT,qF] rfl rfl (by kernel_rfl) (fun _ _ _ h=>h) (Or.inl ⟨by rfl, ?_⟩) ?_ ?_
   rotate_left
   ·intro w'
    go_simp
    with_reducible rfl
   rotate_left
   ·simp only [Act.put,qs1,qs2,qs3,qAH,qAI]
    rfl
   refine qAL (i:=27) (N:=some 30) (v := ?_) (a' := ?_) #[qT,qT,qT,qT,qT,qT,qT,qT,qT,qT,qT,qT,qT,qT,qT,qT,qT,qT,qT,qT,qT,qT,qT,qT,qT,qT,qT,qT] rfl rfl (by kernel_rfl) (fun _ _ _ h=>h) (Or.inl ⟨by rfl, ?_⟩) ?_ ?_
   rotate_left
   ·intro w'
    go_simp
    with_reducible rfl
   rotate_left
   ·simp only [Act.put,qs1,qs2,qs3,qAH,qAI]
    rfl
   refine qBP (by kernel_rfl) ?_
   have z0:wd2.cell? ⟨g,0,none⟩=some (.slice B bs.length cb):=(qAB R2d.out 0).trans rfl
   go_wp2_with (first | (go_at_call 61;refine (TKB.out _ W2d.out).mono ?_;rintro e_ w3 ⟨rfl,hb⟩;have W3:=qAA.mk (qAg W2d.out W2d.out.size hb);clear hb z0))
   go_ret2
   exact ⟨rfl,qAF W3.out _⟩
  case ok =>
   obtain ⟨hv0,_,hrt,p0,p1,p2,_,_⟩:=TOK.out n1 x a2 l2 hr
   obtain ⟨KH,hKH⟩:=sa.heavy_ev s x hv0 hrt H2.out HSZ.out
   have TKO:=qAA.mk (fun (W:World) (hb2:Below w0.heap.size w0 W)=>show Calls Try.prog 61 #[.slice B bs.length cb,.int .i64 n1] W (fun e w'=>∃ v3 v4:Value,e=.returned (.tuple #[.agg #[.int .i64 x.f0,.int .i64 x.f1,.string x.f2,v3,v4],.int .i64 a2,.int .i64 0])∧sa.VRow w' (fun k=>W.heap.size≤k∧k < w'.heap.size) 8 v3 x.f3∧sa.KRow w' (fun k=>W.heap.size≤k∧k < w'.heap.size) v4 x.f4∧Below W.heap.size W w') from by have h:=TK.out W hb2 n1;rw [hr] at h;exact h)
   dsimp only
   have hhv:0≤sa.hv ⟨s,x⟩∧sa.hv ⟨s,x⟩≤4000:=by have:=hrt.2;have:=HSZ.out;unfold sa.hv;dsimp only;omega
   generalize sa.hv ⟨s,x⟩=hw at hKH hhv ⊢
   have HKH:=qAA.mk hKH
   have hwa:wrap64 (all+hw)=all+hw:=by have:=HAL.out;unfold wrap64;omega
   have hwb:IntKind.i64.wrap (all+hw)=all+hw:=(qAH _).trans hwa
   clear hr hKH hv0 hrt p0 p1 p2
   by_cases hbig:all+hw > 32768
   case pos =>
    rw [if_pos hbig]
    have d1:decide (all+hw > 32768)=true:=decide_eq_true (by omega)
    have d2:decide (32768 < all+hw)=true:=decide_eq_true (by omega)
    have HBG:=qAA.mk hbig
    clear hbig hhv
    go_enter Try.func41,Try.ntmps41
    go_wp2
    refine qAz (n:=16) (S:=fun w'=>w'.cell? ⟨g,0,none⟩=some (.slice B bs.length cb)∧w'.cell? ⟨g,1,none⟩=some (.int .i64 at_)) (ds:=[]) #[qF,qF,qF,qF,qF,qF,qF,qF,qF,qF,qF,qF,qF,qF,qF,qF] (by kernel_rfl) rfl rfl ⟨(qAB (show w.drew.heap[g]?=_ from HR.out) 0).trans rfl,(qAB (show w.drew.heap[g]?=_ from HR.out) 1).trans rfl⟩ (fun hHeld => ?_)
    generalize hwd:w.drew=wd at hHeld ⊢
    have Rd:=qAA.mk (hwd▸HR.out.below (qAW (Below.refl _ _)))
    have Wd:=qAA.mk (hwd▸qAW HW.out)
    have Od:=qAA.mk (hwd▸Kd.qA7 HO.out)
    have HGd:=qAA.mk (show g < wd.heap.size from hwd▸HGW.out)
    clear hwd
    refine qAL (i:=0) (N:=some 11) (v := ?_) (a' := ?_) #[qT,qF,qF,qF,qF,qF,qF,qF,qF,qF,qF,qF,qF,qF,qF,qF] rfl rfl (by kernel_rfl) (fun _ _ _ h=>h) (Or.inl ⟨by rfl, ?_⟩) ?_ ?_
    rotate_left
    ·intro w'
     go_simp
     with_reducible rfl
    rotate_left
    ·simp only [Act.put,qs1,qs2,qs3,qAH,qAI]
     rfl
    refine qAL (i:=1) (N:=some 12) (v := ?_) (a' := ?_) #[qT,qT,qF,qF,qF,qF,qF,qF,qF,qF,qF,qF,qF,qF,qF,qF] rfl rfl (by kernel_rfl) (fun _ _ _ h=>h) (Or.inl ⟨by rfl, ?_⟩) ?_ ?_
    rotate_left
    ·intro w'
     go_simp
     with_reducible rfl
    rotate_left
    ·simp only [Act.put,qs1,qs2,qs3,qAH,qAI]
     rfl
    refine qAL (i:=2) (N:=some 13) (v := ?_) (a' := ?_) #[qT,qT,qT,qF,qF,qF,qF,qF,qF,qF,qF,qF,qF,qF,qF,qF] rfl rfl (by kernel_rfl) (fun _ _ _ h=>h) (Or.inl ⟨by rfl, ?_⟩) ?_ ?_
    rotate_left
    ·intro w'
     go_simp
     with_reducible rfl
    rotate_left
    ·simp only [Act.put,qs1,qs2,qs3,qAH,qAI]
     rfl
    refine qAL (i:=4) (N:=some 15) (v := ?_) (a' := ?_) #[qT,qT,qT,qF,qT,qF,qF,qF,qF,qF,qF,qF,qF,qF,qF,qF] rfl rfl (by kernel_rfl) (fun _ _ _ h=>h) (Or.inl ⟨by rfl, ?_⟩) ?_ ?_
    rotate_left
    ·intro w'
     go_simp
     with_reducible rfl
    rotate_left
    ·simp only [Act.put,qs1,qs2,qs3,qAH,qAI]
     rfl
    refine qAL (i:=5) (N:=some 16) (v := ?_) (a' := ?_) #[qT,qT,qT,qF,qT,qT,qF,qF,qF,qF,qF,qF,qF,qF,qF,qF] rfl rfl (by kernel_rfl) (fun _ _ _ h=>h) (Or.inl ⟨by rfl, ?_⟩) ?_ ?_
    rotate_left
    ·intro w'
     go_simp
     with_reducible rfl
    rotate_left
    ·simp only [Act.put,qs1,qs2,qs3,qAH,qAI]
     rfl
    refine qAL (i:=6) (N:=some 17) (v := ?_) (a' := ?_) #[qT,qT,qT,qF,qT,qT,qT,qF,qF,qF,qF,qF,qF,qF,qF,qF] rfl rfl (by kernel_rfl) (fun _ _ _ h=>h) (Or.inl ⟨by rfl, ?_⟩) ?_ ?_
    rotate_left
    ·intro w'
     go_simp
     with_reducible rfl
    rotate_left
    ·simp only [Act.put,qs1,qs2,qs3,qAH,qAI]
     rfl
    refine qAt (i:=3) (N:=some 14) (v := ?_) (a' := ?_) #[qT,qT,qT,qT,qT,qT,qT,qF,qF,qF,qF,qF,qF,qF,qF,qF] rfl rfl (by kernel_rfl) (fun _ _ _ h=>h) (Or.inl ⟨by rfl, ?_⟩) hHeld ?_ ?_
    rotate_left
    ·rintro w' ⟨s0,s1⟩
     go_simp
     with_reducible rfl
    rotate_left
    ·simp only [Act.put,qs1,qs2,qs3,qAH,qAI]
     rfl
    refine qAt (i:=7) (N:=some 18) (v := ?_) (a' := ?_) #[qT,qT,qT,qT,qT,qT,qT,qT,qF,qF,qF,qF,qF,qF,qF,qF] rfl rfl (by kernel_rfl) (fun _ _ _ h=>h) (Or.inl ⟨by rfl, ?_⟩) hHeld ?_ ?_
    rotate_left
    ·rintro w' ⟨s0,s1⟩
     go_simp
     with_reducible rfl
    rotate_left
    ·simp only [Act.put,qs1,qs2,qs3,qAH,qAI]
     rfl
    refine one_ (i:=8) (N:=some 19) #[qT,qT,qT,qT,qT,qT,qT,qT,qT,qF,qF,qF,qF,qF,qF,qF] rfl rfl (by kernel_rfl) (by decide) (fun K hK => ?_)
    refine qBf Try.func60 (by kernel_rfl) rfl #[.slice B bs.length cb,.int .i64 at_,.int .i64 32] (by rfl) rfl rfl (by (try simp only [List.map_toArray,List.map_cons,List.map_nil]);first | done | rfl) ?_
    refine (TX.out wd Wd.out).mono ?_
    rintro e w2 ⟨rfl,hb⟩
    refine ⟨_,rfl, ?_⟩
    have R2:=qAA.mk (Rd.out.below hb.below)
    have W2:=qAA.mk (qAg Wd.out Wd.out.size hb.below)
    have O2:=qAA.mk (Kd.qA2 Od.out hb.below)
    have HG2:=qAA.mk (Nat.lt_of_lt_of_le HGd.out hb.below.size)
    clear hb
    refine hK.out _ _ ⟨(qAB R2.out 0).trans rfl,(qAB R2.out 1).trans rfl⟩ (fun hHeld => ?_)
    clear hK K
    refine qBH (a' := ?_) ?_ ?_
    rotate_left
    ·show Act.put _ (some 19) _=_
     simp only [Act.put,qs1,qs2,qs3,qAH,qAI]
     rfl
    refine qAL (i:=9) (N:=some 10) (v := ?_) (a' := ?_) #[qT,qT,qT,qT,qT,qT,qT,qT,qT,qT,qF,qF,qF,qF,qF,qF] rfl rfl (by kernel_rfl) (fun _ _ _ h=>h) (Or.inl ⟨by rfl, ?_⟩) ?_ ?_
    rotate_left
    ·intro w'
     go_simp
     with_reducible rfl
    rotate_left
    ·simp only [Act.put,qs1,qs2,qs3,qAH,qAI]
     rfl
    refine qAL (i:=10) (N:=some 20) (v := ?_) (a' := ?_) #[qT,qT,qT,qT,qT,qT,qT,qT,qT,qT,qT,qF,qF,qF,qF,qF] rfl rfl (by kernel_rfl) (fun _ _ _ h=>h) (Or.inl ⟨by rfl, ?_⟩) ?_ ?_
    rotate_left
    ·intro w'
     go_simp
     with_reducible rfl
    rotate_left
    ·simp only [Act.put,qs1,qs2,qs3,qAH,qAI]
     rfl
    refine qAL (i:=11) (N:=some 21) (v := ?_) (a' := ?_) #[qT,qT,qT,qT,qT,qT,qT,qT,qT,qT,qT,qT,qF,qF,qF,qF] rfl rfl (by kernel_rfl) (fun _ _ _ h=>h) (Or.inl ⟨by rfl, ?_⟩) ?_ ?_
    rotate_left
    ·intro w'
     go_simp
     with_reducible rfl
    rotate_left
    ·simp only [Act.put,qs1,qs2,qs3,qAH,qAI]
     rfl
    refine qAL (i:=12) (N:=some 22) (v := ?_) (a' := ?_) #[qT,qT,qT,qT,qT,qT,qT,qT,qT,qT,qT,qT,qT,qF,qF,qF] rfl rfl (by kernel_rfl) (fun _ _ _ h=>h) (Or.inl ⟨by rfl, ?_⟩) ?_ ?_
    rotate_left
    ·intro w'
     go_simp
     with_reducible rfl
    rotate_left
    ·simp only [Act.put,qs1,qs2,qs3,qAH,qAI]
     rfl
    refine qAL (i:=13) (N:=some 4) (v := ?_) (a' := ?_) #[qT,qT,qT,qT,qT,qT,qT,qT,qT,qT,qT,qT,qT,qT,qF,qF] rfl rfl (by kernel_rfl) (fun _ _ _ h=>h) (Or.inl ⟨by rfl, ?_⟩) ?_ ?_
    rotate_left
    ·intro w'
     go_simp
     with_reducible rfl
    rotate_left
    ·simp only [Act.put,qs1,qs2,qs3,qAH,qAI]
     rfl
    refine qAL (i:=14) (N:=some 5) (v := ?_) (a' := ?_) #[qT,qT,qT,qT,qT,qT,qT,qT,qT,qT,qT,qT,qT,qT,qT,qF] rfl rfl (by kernel_rfl) (fun _ _ _ h=>h) (Or.inl ⟨by rfl, ?_⟩) ?_ ?_
    rotate_left
    ·intro w'
     go_simp
     with_reducible rfl
    rotate_left
    ·simp only [Act.put,qs1,qs2,qs3,qAH,qAI]
     rfl
    refine qAL (i:=15) (N:=some 6) (v := ?_) (a' := ?_) #[qT,qT,qT,qT,qT,qT,qT,qT,qT,qT,qT,qT,qT,qT,qT,qT] rfl rfl (by kernel_rfl) (fun _ _ _ h=>h) (Or.inl ⟨by rfl, ?_⟩) ?_ ?_
    rotate_left
    ·intro w'
     go_simp
     with_reducible rfl
    rotate_left
    ·simp only [Act.put,qs1,qs2,qs3,qAH,qAI]
     rfl
    refine qBP (by kernel_rfl) ?_
    go_wp2
    refine qAz (n:=28) (S:=fun w'=>w'.cell? ⟨g,3,none⟩=some (.slice AL 0 cl)) (ds:=[]) #[qF,qF,qF,qF,qF,qF,qF,qF,qF,qF,qF,qF,qF,qF,qF,qF,qF,qF,qF,qF,qF,qF,qF,qF,qF,qF,qF,qF] (by kernel_rfl) rfl rfl ((qAB (show w2.drew.heap[g]?=_ from R2.out) 3).trans rfl) (fun hHeld => ?_)
    generalize hwd:w2.drew=wd2 at hHeld ⊢
    have R2d:=qAA.mk (hwd▸R2.out.below (qAW (Below.refl _ _)))
    have W2d:=qAA.mk (hwd▸qAW W2.out)
    have O2d:=qAA.mk (hwd▸Kd.qA7 O2.out)
    have HG2d:=qAA.mk (show g < wd2.heap.size from hwd▸HG2.out)
    have HOB:=qAA.mk (fun k hk=>((Kd.qBg O2d.out).1 k hk).2.2.1)
    clear hwd
    refine qAL (i:=0) (N:=some 31) (v := ?_) (a' := ?_) #[qT,qF,qF,qF,qF,qF,qF,qF,qF,qF,qF,qF,qF,qF,qF,qF,qF,qF,qF,qF,qF,qF,qF,qF,qF,qF,qF,qF] rfl rfl (by kernel_rfl) (fun _ _ _ h=>h) (Or.inl ⟨by rfl, ?_⟩) ?_ ?_
    rotate_left
    ·intro w'
     go_simp
     with_reducible rfl
    rotate_left
    ·simp only [Act.put,qs1,qs2,qs3,qAH,qAI]
     rfl
    refine qAL (i:=1) (N:=some 32) (v := ?_) (a' := ?_) #[qT,qT,qF,qF,qF,qF,qF,qF,qF,qF,qF,qF,qF,qF,qF,qF,qF,qF,qF,qF,qF,qF,qF,qF,qF,qF,qF,qF] rfl rfl (by kernel_rfl) (fun _ _ _ h=>h) (Or.inl ⟨by rfl, ?_⟩) ?_ ?_
    rotate_left
    ·intro w'
     go_simp
     with_reducible rfl
    rotate_left
    ·simp only [Act.put,qs1,qs2,qs3,qAH,qAI]
     rfl
    refine qAL (i:=2) (N:=some 33) (v := ?_) (a' := ?_) #[qT,qT,qT,qF,qF,qF,qF,qF,qF,qF,qF,qF,qF,qF,qF,qF,qF,qF,qF,qF,qF,qF,qF,qF,qF,qF,qF,qF] rfl rfl (by kernel_rfl) (fun _ _ _ h=>h) (Or.inl ⟨by rfl, ?_⟩) ?_ ?_
    rotate_left
    ·intro w'
     go_simp
     with_reducible rfl
    rotate_left
    ·simp only [Act.put,qs1,qs2,qs3,qAH,qAI]
     rfl
    refine qAL (i:=3) (N:=some 34) (v := ?_) (a' := ?_) #[qT,qT,qT,qT,qF,qF,qF,qF,qF,qF,qF,qF,qF,qF,qF,qF,qF,qF,qF,qF,qF,qF,qF,qF,qF,qF,qF,qF] rfl rfl (by kernel_rfl) (fun _ _ _ h=>h) (Or.inl ⟨by rfl, ?_⟩) ?_ ?_
    rotate_left
    ·intro w'
     go_simp
     with_reducible rfl
    rotate_left
    ·simp only [Act.put,qs1,qs2,qs3,qAH,qAI]
     rfl
    refine qAL (i:=4) (N:=some 35) (v := ?_) (a' := ?_) #[qT,qT,qT,qT,qT,qF,qF,qF,qF,qF,qF,qF,qF,qF,qF,qF,qF,qF,qF,qF,qF,qF,qF,qF,qF,qF,qF,qF] rfl rfl (by kernel_rfl) (fun _ _ _ h=>h) (Or.inl ⟨by rfl, ?_⟩) ?_ ?_
    rotate_left
    ·intro w'
     go_simp
     with_reducible rfl
    rotate_left
    ·simp only [Act.put,qs1,qs2,qs3,qAH,qAI]
     rfl
    refine qAL (i:=5) (N:=some 36) (v := ?_) (a' := ?_) #[qT,qT,qT,qT,qT,qT,qF,qF,qF,qF,qF,qF,qF,qF,qF,qF,qF,qF,qF,qF,qF,qF,qF,qF,qF,qF,qF,qF] rfl rfl (by kernel_rfl) (fun _ _ _ h=>h) (Or.inl ⟨by rfl, ?_⟩) ?_ ?_
    rotate_left
    ·intro w'
     go_simp
     with_reducible rfl
    rotate_left
    ·simp only [Act.put,qs1,qs2,qs3,qAH,qAI]
     rfl
    refine qAt (i:=6) (N:=some 37) (v := ?_) (a' := ?_) #[qT,qT,qT,qT,qT,qT,qT,qF,qF,qF,qF,qF,qF,qF,qF,qF,qF,qF,qF,qF,qF,qF,qF,qF,qF,qF,qF,qF] rfl rfl (by kernel_rfl) (fun _ _ _ h=>h) (Or.inl ⟨by rfl, ?_⟩) hHeld ?_ ?_
    rotate_left
    ·intro w' s0
     go_simp
     with_reducible rfl
    rotate_left
    ·simp only [Act.put,qs1,qs2,qs3,qAH,qAI]
     rfl
    refine qAL (i:=7) (N:=some 38) (v := ?_) (a' := ?_) #[qT,qT,qT,qT,qT,qT,qT,qT,qF,qF,qF,qF,qF,qF,qF,qF,qF,qF,qF,qF,qF,qF,qF,qF,qF,qF,qF,qF] rfl rfl (by kernel_rfl) (fun _ _ _ h=>h) (Or.inl ⟨by rfl, ?_⟩) ?_ ?_
    rotate_left
    ·intro w'
     go_simp
     with_reducible rfl
    rotate_left
    ·simp only [Act.put,qs1,qs2,qs3,qAH,qAI]
     rfl
    refine qAL (i:=8) (N:=some 39) (v := ?_) (a' := ?_) #[qT,qT,qT,qT,qT,qT,qT,qT,qT,qF,qF,qF,qF,qF,qF,qF,qF,qF,qF,qF,qF,qF,qF,qF,qF,qF,qF,qF] rfl rfl (by kernel_rfl) (fun _ _ _ h=>h) (Or.inl ⟨by rfl, ?_⟩) ?_ ?_
    rotate_left
    ·intro w'
     go_simp
     with_reducible rfl
    rotate_left
    ·simp only [Act.put,qs1,qs2,qs3,qAH,qAI]
     rfl
    refine qAL (i:=9) (N:=some 40) (v := ?_) (a' := ?_) #[qT,qT,qT,qT,qT,qT,qT,qT,qT,qT,qF,qF,qF,qF,qF,qF,qF,qF,qF,qF,qF,qF,qF,qF,qF,qF,qF,qF] rfl rfl (by kernel_rfl) (fun _ _ _ h=>h) (Or.inl ⟨by rfl, ?_⟩) ?_ ?_
    rotate_left
    ·intro w'
     go_simp
     with_reducible rfl
    rotate_left
    ·simp only [Act.put,qs1,qs2,qs3,qAH,qAI]
     rfl
    refine qAL (i:=10) (N:=some 41) (v:=undef) (a' := ?_) #[qT,qT,qT,qT,qT,qT,qT,qT,qT,qT,qT,qF,qF,qF,qF,qF,qF,qF,qF,qF,qF,qF,qF,qF,qF,qF,qF,qF] rfl rfl (by kernel_rfl) (fun _ _ _ h=>h) (Or.inr ⟨by rfl,rfl⟩) ?_ ?_
    rotate_left
    ·simp only [Act.put,qs1,qs2,qs3,qAH,qAI]
     rfl
    refine qAL (i:=11) (N:=some 42) (v:=undef) (a' := ?_) #[qT,qT,qT,qT,qT,qT,qT,qT,qT,qT,qT,qT,qF,qF,qF,qF,qF,qF,qF,qF,qF,qF,qF,qF,qF,qF,qF,qF] rfl rfl (by kernel_rfl) (fun _ _ _ h=>h) (Or.inr ⟨by rfl,rfl⟩) ?_ ?_
    rotate_left
    ·simp only [Act.put,qs1,qs2,qs3,qAH,qAI]
     rfl
    refine qAL (i:=12) (N:=some 43) (v:=undef) (a' := ?_) #[qT,qT,qT,qT,qT,qT,qT,qT,qT,qT,qT,qT,qT,qF,qF,qF,qF,qF,qF,qF,qF,qF,qF,qF,qF,qF,qF,qF] rfl rfl (by kernel_rfl) (fun _ _ _ h=>h) (Or.inr ⟨by rfl,rfl⟩) ?_ ?_
    rotate_left
    ·simp only [Act.put,qs1,qs2,qs3,qAH,qAI]
     rfl
    refine qAL (i:=13) (N:=some 44) (v:=undef) (a' := ?_) #[qT,qT,qT,qT,qT,qT,qT,qT,qT,qT,qT,qT,qT,qT,qF,qF,qF,qF,qF,qF,qF,qF,qF,qF,qF,qF,qF,qF] rfl rfl (by kernel_rfl) (fun _ _ _ h=>h) (Or.inr ⟨by rfl,rfl⟩) ?_ ?_
    rotate_left
    ·simp only [Act.put,qs1,qs2,qs3,qAH,qAI]
     rfl
    refine qAL (i:=14) (N:=some 45) (v:=undef) (a' := ?_) #[qT,qT,qT,qT,qT,qT,qT,qT,qT,qT,qT,qT,qT,qT,qT,qF,qF,qF,qF,qF,qF,qF,qF,qF,qF,qF,qF,qF] rfl rfl (by kernel_rfl) (fun _ _ _ h=>h) (Or.inr ⟨by rfl,rfl⟩) ?_ ?_
    rotate_left
    ·simp only [Act.put,qs1,qs2,qs3,qAH,qAI]
     rfl
    refine qAL (i:=15) (N:=some 46) (v:=undef) (a' := ?_) #[qT,qT,qT,qT,qT,qT,qT,qT,qT,qT,qT,qT,qT,qT,qT,qT,qF,qF,qF,qF,qF,qF,qF,qF,qF,qF,qF,qF] rfl rfl (by kernel_rfl) (fun _ _ _ h=>h) (Or.inr ⟨by rfl,rfl⟩) ?_ ?_
    rotate_left
    ·simp only [Act.put,qs1,qs2,qs3,qAH,qAI]
     rfl
    refine qAL (i:=16) (N:=some 47) (v:=undef) (a' := ?_) #[qT,qT,qT,qT,qT,qT,qT,qT,qT,qT,qT,qT,qT,qT,qT,qT,qT,qF,qF,qF,qF,qF,qF,qF,qF,qF,qF,qF] rfl rfl (by kernel_rfl) (fun _ _ _ h=>h) (Or.inr ⟨by rfl,rfl⟩) ?_ ?_
    rotate_left
    ·simp only [Act.put,qs1,qs2,qs3,qAH,qAI]
     rfl
    refine qAL (i:=17) (N:=some 48) (v:=undef) (a' := ?_) #[qT,qT,qT,qT,qT,qT,qT,qT,qT,qT,qT,qT,qT,qT,qT,qT,qT,qT,qF,qF,qF,qF,qF,qF,qF,qF,qF,qF] rfl rfl (by kernel_rfl) (fun _ _ _ h=>h) (Or.inr ⟨by rfl,rfl⟩) ?_ ?_
    rotate_left
    ·simp only [Act.put,qs1,qs2,qs3,qAH,qAI]
     rfl
    refine qAL (i:=18) (N:=some 49) (v:=undef) (a' := ?_) #[qT,qT,qT,qT,qT,qT,qT,qT,qT,qT,qT,qT,qT,qT,qT,qT,qT,qT,qT,qF,qF,qF,qF,qF,qF,qF,qF,qF] rfl rfl (by kernel_rfl) (fun _ _ _ h=>h) (Or.inr ⟨by rfl,rfl⟩) ?_ ?_
    rotate_left
    ·simp only [Act.put,qs1,qs2,qs3,qAH,qAI]
     rfl
    refine qAL (i:=19) (N:=some 50) (v:=undef) (a' := ?_) #[qT,qT,qT,qT,qT,qT,qT,qT,qT,qT,qT,qT,qT,qT,qT,qT,qT,qT,qT,qT,qF,qF,qF,qF,qF,qF,qF,qF] rfl rfl (by kernel_rfl) (fun _ _ _ h=>h) (Or.inr ⟨by rfl,rfl⟩) ?_ ?_
    rotate_left
    ·simp only [Act.put,qs1,qs2,qs3,qAH,qAI]
     rfl
    refine qAL (i:=20) (N:=some 51) (v:=undef) (a' := ?_) #[qT,qT,qT,qT,qT,qT,qT,qT,qT,qT,qT,qT,qT,qT,qT,qT,qT,qT,qT,qT,qT,qF,qF,qF,qF,qF,qF,qF] rfl rfl (by kernel_rfl) (fun _ _ _ h=>h) (Or.inr ⟨by rfl,rfl⟩) ?_ ?_
    rotate_left
    ·simp only [Act.put,qs1,qs2,qs3,qAH,qAI]
     rfl
    refine qAL (i:=21) (N:=some 52) (v:=undef) (a' := ?_) #[qT,qT,qT,qT,qT,qT,qT,qT,qT,qT,qT,qT,qT,qT,qT,qT,qT,qT,qT,qT,qT,qT,qF,qF,qF,qF,qF,qF] rfl rfl (by kernel_rfl) (fun _ _ _ h=>h) (Or.inr ⟨by rfl,rfl⟩) ?_ ?_
    rotate_left
    ·simp only [Act.put,qs1,qs2,qs3,qAH,qAI]
     rfl
    refine qAL (i:=22) (N:=some 53) (v:=undef) (a' := ?_) #[qT,qT,qT,qT,qT,qT,qT,qT,qT,qT,qT,qT,qT,qT,qT,qT,qT,qT,qT,qT,qT,qT,qT,qF,qF,qF,qF,qF] rfl rfl (by kernel_rfl) (fun _ _ _ h=>h) (Or.inr ⟨by rfl,rfl⟩) ?_ ?_
    rotate_left
    ·simp only [Act.put,qs1,qs2,qs3,qAH,qAI]
     rfl
    refine qAL (i:=23) (N:=some 54) (v:=undef) (a' := ?_) #[qT,qT,qT,qT,qT,qT,qT,qT,qT,qT,qT,qT,qT,qT,qT,qT,qT,qT,qT,qT,qT,qT,qT,qT,qF,qF,qF,qF] rfl rfl (by kernel_rfl) (fun _ _ _ h=>h) (Or.inr ⟨by rfl,rfl⟩) ?_ ?_
    rotate_left
    ·simp only [Act.put,qs1,qs2,qs3,qAH,qAI]
     rfl
    refine qAL (i:=24) (N:=some 55) (v:=undef) (a' := ?_) #[qT,qT,qT,qT,qT,qT,qT,qT,qT,qT,qT,qT,qT,qT,qT,qT,qT,qT,qT,qT,qT,qT,qT,qT,qT,qF,qF,qF] rfl rfl (by kernel_rfl) (fun _ _ _ h=>h) (Or.inr ⟨by rfl,rfl⟩) ?_ ?_
    rotate_left
    ·simp only [Act.put,qs1,qs2,qs3,qAH,qAI]
     rfl
    refine qAL (i:=25) (N:=some 56) (v := ?_) (a' := ?_) #[qT,qT,qT,qT,qT,qT,qT,qT,qT,qT,qT,qT,qT,qT,qT,qT,qT,qT,qT,qT,qT,qT,qT,qT,qT,qT,qF,qF] rfl rfl (by kernel_rfl) (fun _ _ _ h=>h) (Or.inl ⟨by rfl, ?_⟩) ?_ ?_
    rotate_left
    ·intro w'
     go_simp
     with_reducible rfl
    rotate_left
    ·simp only [Act.put,qs1,qs2,qs3,qAH,qAI]
     rfl
    refine qAL (i:=26) (N:=some 57) (v := ?_) (a' := ?_) #[qT,qT,qT,qT,qT,qT,qT,qT,qT,qT,qT,qT,qT,qT,qT,qT,qT,qT,qT,qT,qT,qT,qT,qT,qT,qT,qT,qF] rfl rfl (by kernel_rfl) (fun _ _ _ h=>h) (Or.inl ⟨by rfl, ?_⟩) ?_ ?_
    rotate_left
    ·intro w'
     go_simp
     with_reducible rfl
    rotate_left
    ·simp only [Act.put,qs1,qs2,qs3,qAH,qAI]
     rfl
    refine qAL (i:=27) (N:=some 30) (v := ?_) (a' := ?_) #[qT,qT,qT,qT,qT,qT,qT,qT,qT,qT,qT,qT,qT,qT,qT,qT,qT,qT,qT,qT,qT,qT,qT,qT,qT,qT,qT,qT] rfl rfl (by kernel_rfl) (fun _ _ _ h=>h) (Or.inl ⟨by rfl, ?_⟩) ?_ ?_
    rotate_left
    ·intro w'
     go_simp
     with_reducible rfl
    rotate_left
    ·simp only [Act.put,qs1,qs2,qs3,qAH,qAI]
     rfl
    refine qBP (by kernel_rfl) ?_
    have z0:wd2.cell? ⟨g,0,none⟩=some (.slice B bs.length cb):=(qAB R2d.out 0).trans rfl
    go_wp2_with (first | (go_at_call 61;refine (TKO.out _ W2d.out).mono ?_;rintro e_ w3 ⟨v3,v4,rfl,h3,h4,hb⟩;obtain ⟨A3,c3,e3,l3,C3⟩:=h3.C 8;obtain ⟨A4,c4,e4,l4,C4⟩:=h4.C;subst e3;subst e4;have KT3:=qAA.mk (sa.kt_got2 W2d.out.size h3 h4);have HS3:=qAA.mk hb.size;have K3:=qAA.mk C3;have K4:=qAA.mk C4;have L3:=qAA.mk l3;have L4:=qAA.mk l4;have W3:=qAA.mk (qAg W2d.out W2d.out.size hb);have R3:=qAA.mk (R2d.out.below hb);have O3:=qAA.mk (Kd.qA2 O2d.out hb);clear hb h3 h4 C3 C4 l3 l4 z0))
    have B5:=qAA.mk (show Below w3.heap.size w3 ((w3.alloc (.cells #[.int .i64 x.f0,.int .i64 x.f1,.string x.f2,.slice A3 x.f3.length c3,.slice A4 x.f4.length c4] 34)).alloc (.cells #[.string s,.int .i64 x.f0,.int .i64 x.f1,.string x.f2,.slice A3 x.f3.length c3,.slice A4 x.f4.length c4] 51)) from qAF (qAF (Below.refl _ _) _) _)
    have X5:=qAA.mk (show ((w3.alloc (.cells #[.int .i64 x.f0,.int .i64 x.f1,.string x.f2,.slice A3 x.f3.length c3,.slice A4 x.f4.length c4] 34)).alloc (.cells #[.string s,.int .i64 x.f0,.int .i64 x.f1,.string x.f2,.slice A3 x.f3.length c3,.slice A4 x.f4.length c4] 51)).heap[w3.heap.size+1]?=some (.cells #[.string s,.int .i64 x.f0,.int .i64 x.f1,.string x.f2,.slice A3 x.f3.length c3,.slice A4 x.f4.length c4] 51 (0,0)) from by simpa using heap_alloc_new (w3.alloc (.cells #[.int .i64 x.f0,.int .i64 x.f1,.string x.f2,.slice A3 x.f3.length c3,.slice A4 x.f4.length c4] 34)) (.cells #[.string s,.int .i64 x.f0,.int .i64 x.f1,.string x.f2,.slice A3 x.f3.length c3,.slice A4 x.f4.length c4] 51))
    generalize (w3.alloc (.cells #[.int .i64 x.f0,.int .i64 x.f1,.string x.f2,.slice A3 x.f3.length c3,.slice A4 x.f4.length c4] 34)).alloc (.cells #[.string s,.int .i64 x.f0,.int .i64 x.f1,.string x.f2,.slice A3 x.f3.length c3,.slice A4 x.f4.length c4] 51)=w5 at *
    have W5:=qAA.mk (qAg W3.out W3.out.size B5.out)
    have R5:=qAA.mk (R3.out.below B5.out)
    have Q5:=qAA.mk (Kd.qA2 O3.out B5.out)
    have KT5:=qAA.mk (Kd.qBh KT3.out B5.out)
    have J3:=qAA.mk (Kd.qAa K3.out B5.out)
    have J4:=qAA.mk (Kd.qAa K4.out B5.out)
    have HGX:=qAA.mk (show w3.heap.size+1 ≠ g from by have:=HG2d.out;have:=HS3.out;omega)
    have HGX2:=qAA.mk (show wd2.heap.size≤w3.heap.size+1 from by have:=HS3.out;omega)
    generalize w3.heap.size+1=gx at *
    clear K3 K4 R3 O3 KT3 B5 HS3 W3
    refine qAz (n:=10) (S:=fun w'=>w'.cell? ⟨g,2,none⟩=some (.int .i64 all)∧w'.cell? ⟨gx,0,none⟩=some (.string s)∧w'.cell? ⟨gx,1,none⟩=some (.int .i64 x.f0)∧w'.cell? ⟨gx,2,none⟩=some (.int .i64 x.f1)∧w'.cell? ⟨gx,3,none⟩=some (.string x.f2)∧w'.cell? ⟨gx,4,none⟩=some (.slice A3 x.f3.length c3)∧w'.cell? ⟨gx,5,none⟩=some (.slice A4 x.f4.length c4)) (ds:=[9]) #[qF,qF,qF,qF,qF,qF,qF,qF,qF,qF] (by kernel_rfl) rfl rfl ⟨(qAB (show w5.drew.heap[g]?=_ from R5.out) 2).trans rfl,(qAB (qAO X5.out) 0).trans rfl,(qAB (qAO X5.out) 1).trans rfl,(qAB (qAO X5.out) 2).trans rfl,(qAB (qAO X5.out) 3).trans rfl,(qAB (qAO X5.out) 4).trans rfl,(qAB (qAO X5.out) 5).trans rfl⟩ (fun hHeld => ?_)
    generalize hwd:w5.drew=wd5 at hHeld ⊢
    have R6:=qAA.mk (hwd▸R5.out.below (qAW (Below.refl _ _)))
    have W6:=qAA.mk (hwd▸qAW W5.out)
    have Q6:=qAA.mk (hwd▸Kd.qA7 Q5.out)
    have KT6:=qAA.mk (hwd▸Kd.qBh KT5.out (qAW (Below.refl _ _)))
    have X6:=qAA.mk (hwd▸qAO X5.out)
    have I3:=qAA.mk (hwd▸Kd.qAr J3.out)
    have I4:=qAA.mk (hwd▸Kd.qAr J4.out)
    clear hwd R5 W5 Q5 KT5 X5 J3 J4
    refine qAL (i:=0) (N:=some 78) (v := ?_) (a' := ?_) #[qT,qF,qF,qF,qF,qF,qF,qF,qF,qF] rfl rfl (by kernel_rfl) (fun _ _ _ h=>h) (Or.inl ⟨by rfl, ?_⟩) ?_ ?_
    rotate_left
    ·intro w'
     go_simp
     with_reducible rfl
    rotate_left
    ·simp only [Act.put,qs1,qs2,qs3,qAH,qAI]
     rfl
    refine qAL (i:=1) (N:=some 79) (v := ?_) (a' := ?_) #[qT,qT,qF,qF,qF,qF,qF,qF,qF,qF] rfl rfl (by kernel_rfl) (fun _ _ _ h=>h) (Or.inl ⟨by rfl, ?_⟩) ?_ ?_
    rotate_left
    ·intro w'
     go_simp
     with_reducible rfl
    rotate_left
    ·simp only [Act.put,qs1,qs2,qs3,qAH,qAI]
     rfl
    refine qAL (i:=2) (N:=some 80) (v := ?_) (a' := ?_) #[qT,qT,qT,qF,qF,qF,qF,qF,qF,qF] rfl rfl (by kernel_rfl) (fun _ _ _ h=>h) (Or.inl ⟨by rfl, ?_⟩) ?_ ?_
    rotate_left
    ·intro w'
     go_simp
     with_reducible rfl
    rotate_left
    ·simp only [Act.put,qs1,qs2,qs3,qAH,qAI]
     rfl
    refine qAt (i:=3) (N:=some 81) (v := ?_) (a' := ?_) #[qT,qT,qT,qT,qF,qF,qF,qF,qF,qF] rfl rfl (by kernel_rfl) (fun _ _ _ h=>h) (Or.inl ⟨by rfl, ?_⟩) hHeld ?_ ?_
    rotate_left
    ·rintro w' ⟨s0,s1,s2,s3,s4,s5,s6⟩
     go_simp
     with_reducible rfl
    rotate_left
    ·simp only [Act.put,qs1,qs2,qs3,qAH,qAI]
     rfl
    refine qAt (i:=4) (N:=some 82) (v := ?_) (a' := ?_) #[qT,qT,qT,qT,qT,qF,qF,qF,qF,qF] rfl rfl (by kernel_rfl) (fun _ _ _ h=>h) (Or.inl ⟨by rfl, ?_⟩) hHeld ?_ ?_
    rotate_left
    ·rintro w' ⟨s0,s1,s2,s3,s4,s5,s6⟩
     go_simp
     with_reducible rfl
    rotate_left
    ·simp only [Act.put,qs1,qs2,qs3,qAH,qAI]
     rfl
    refine one_ (i:=5) (N:=some 83) #[qT,qT,qT,qT,qT,qT,qF,qF,qF,qF] rfl rfl (by kernel_rfl) (by decide) (fun K hK => ?_)
    refine qBf Try.func49 (by kernel_rfl) rfl #[.agg #[.string s,.int .i64 x.f0,.int .i64 x.f1,.string x.f2,.slice A3 x.f3.length c3,.slice A4 x.f4.length c4]] (by rfl) rfl rfl (by (try simp only [List.map_toArray,List.map_cons,List.map_nil]);first | done | rfl) ?_
    refine (qAs.calls KH s x.f0 x.f1 x.f2 A3 c3 x.f3 A4 c4 x.f4 hw wd5 I3.out L3.out I4.out L4.out HKH.out).mono ?_
    rintro e w7 ⟨rfl,hb⟩
    refine ⟨_,rfl, ?_⟩
    have R7:=qAA.mk (R6.out.below hb)
    have W7:=qAA.mk (qAg W6.out W6.out.size hb)
    have Q7:=qAA.mk (Kd.qA2 Q6.out hb)
    have KT7:=qAA.mk (Kd.qBh KT6.out hb)
    have X7:=qAA.mk (qAb X6.out hb)
    clear hb
    have s2:=(qAB R7.out 2).trans rfl
    have s2f:=qAC R7.out 2
    refine hK.out _ _ ⟨(qAB R7.out 2).trans rfl,(qAB X7.out 0).trans rfl,(qAB X7.out 1).trans rfl,(qAB X7.out 2).trans rfl,(qAB X7.out 3).trans rfl,(qAB X7.out 4).trans rfl,(qAB X7.out 5).trans rfl⟩ (fun hHeld => ?_)
    clear hK K
    refine qBH (a' := ?_) ?_ ?_
    rotate_left
    ·show Act.put _ (some 83) _=_
     simp only [Act.put,qs1,qs2,qs3,qAH,qAI]
     rfl
    refine qAL (i:=6) (N:=some 84) (v := ?_) (a' := ?_) #[qT,qT,qT,qT,qT,qT,qT,qF,qF,qF] rfl rfl (by kernel_rfl) (fun _ _ _ h=>h) (Or.inl ⟨by rfl, ?_⟩) ?_ ?_
    rotate_left
    ·intro w'
     go_simp
     with_reducible rfl
    rotate_left
    ·simp only [Act.put,qs1,qs2,qs3,qAH,qAI]
     rfl
    refine qAL (i:=7) (N:=some 85) (v := ?_) (a' := ?_) #[qT,qT,qT,qT,qT,qT,qT,qT,qF,qF] rfl rfl (by kernel_rfl) (fun _ _ _ h=>h) (Or.inl ⟨by rfl, ?_⟩) ?_ ?_
    rotate_left
    ·intro w'
     go_simp
     with_reducible rfl
    rotate_left
    ·simp only [Act.put,qs1,qs2,qs3,qAH,qAI]
     rfl
    refine qAL (i:=8) (N:=some 86) (v := ?_) (a' := ?_) #[qT,qT,qT,qT,qT,qT,qT,qT,qT,qF] rfl rfl (by kernel_rfl) (fun _ _ _ h=>h) (Or.inl ⟨by rfl, ?_⟩) ?_ ?_
    rotate_left
    ·intro w'
     go_simp
     with_reducible rfl
    rotate_left
    ·simp only [Act.put,qs1,qs2,qs3,qAH,qAI]
     rfl
    refine last_ (i:=9) (N:=none) #[qT,qT,qT,qT,qT,qT,qT,qT,qT,qT] rfl rfl (by kernel_rfl) (by decide) (fun K hK => ?_)
    refine skip_ (w1 := ?_) (by rfl) rfl ?_ ?_
    rotate_left
    ·go_simp
     rfl
    clear s2 s2f
    refine hK.out _ _ ?_
    clear hK K
    refine qBP (by kernel_rfl) ?_
    have R8:=qAA.mk (show sa.RB7 (w7.setCell ⟨g,2,none⟩ (.int .i64 (all+hw))) g B bs.length cb at_ (all+hw) (.slice AL 0 cl) from qAx R7.out 2 _ rfl)
    have W8:=qAA.mk (show Below w0.heap.size w0 (w7.setCell ⟨g,2,none⟩ (.int .i64 (all+hw))) from qAP W7.out HG.out)
    have Q8:=qAA.mk (Kd.R_far Q7.out (p:=⟨g,2,none⟩) (fun k hk=>hk) (.int .i64 (all+hw)))
    have KT8:=qAA.mk (Kd.M_far KT7.out (p:=⟨g,2,none⟩) (fun k hk=>by have:=HG2d.out;dsimp only;omega) (.int .i64 (all+hw)))
    have X8:=qAA.mk ((Below.heap_setCell w7 ⟨g,2,none⟩ (.int .i64 (all+hw)) gx HGX.out).trans X7.out)
    generalize w7.setCell ⟨g,2,none⟩ (.int .i64 (all+hw))=w8 at *
    have z2:w8.cell? ⟨g,2,none⟩=some (.int .i64 (all+hw)):=(qAB R8.out 2).trans rfl
    have z1:w8.cell? ⟨g,1,none⟩=some (.int .i64 at_):=(qAB R8.out 1).trans rfl
    go_wp2
    go_ret2
    exact ⟨rfl,W8.out⟩
   case neg =>
    rw [if_neg hbig]
    have d1:decide (all+hw > 32768)=false:=decide_eq_false (by omega)
    have d2:decide (32768 < all+hw)=false:=decide_eq_false (by omega)
    have HBG:=qAA.mk hbig
    clear hbig hhv
    go_enter Try.func41,Try.ntmps41
    go_wp2
    refine qAz (n:=16) (S:=fun w'=>w'.cell? ⟨g,0,none⟩=some (.slice B bs.length cb)∧w'.cell? ⟨g,1,none⟩=some (.int .i64 at_)) (ds:=[]) #[qF,qF,qF,qF,qF,qF,qF,qF,qF,qF,qF,qF,qF,qF,qF,qF] (by kernel_rfl) rfl rfl ⟨(qAB (show w.drew.heap[g]?=_ from HR.out) 0).trans rfl,(qAB (show w.drew.heap[g]?=_ from HR.out) 1).trans rfl⟩ (fun hHeld => ?_)
    generalize hwd:w.drew=wd at hHeld ⊢
    have Rd:=qAA.mk (hwd▸HR.out.below (qAW (Below.refl _ _)))
    have Wd:=qAA.mk (hwd▸qAW HW.out)
    have Od:=qAA.mk (hwd▸Kd.qA7 HO.out)
    have HGd:=qAA.mk (show g < wd.heap.size from hwd▸HGW.out)
    clear hwd
    refine qAL (i:=0) (N:=some 11) (v := ?_) (a' := ?_) #[qT,qF,qF,qF,qF,qF,qF,qF,qF,qF,qF,qF,qF,qF,qF,qF] rfl rfl (by kernel_rfl) (fun _ _ _ h=>h) (Or.inl ⟨by rfl, ?_⟩) ?_ ?_
    rotate_left
    ·intro w'
     go_simp
     with_reducible rfl
    rotate_left
    ·simp only [Act.put,qs1,qs2,qs3,qAH,qAI]
     rfl
    refine qAL (i:=1) (N:=some 12) (v := ?_) (a' := ?_) #[qT,qT,qF,qF,qF,qF,qF,qF,qF,qF,qF,qF,qF,qF,qF,qF] rfl rfl (by kernel_rfl) (fun _ _ _ h=>h) (Or.inl ⟨by rfl, ?_⟩) ?_ ?_
    rotate_left
    ·intro w'
     go_simp
     with_reducible rfl
    rotate_left
    ·simp only [Act.put,qs1,qs2,qs3,qAH,qAI]
     rfl
    refine qAL (i:=2) (N:=some 13) (v := ?_) (a' := ?_) #[qT,qT,qT,qF,qF,qF,qF,qF,qF,qF,qF,qF,qF,qF,qF,qF] rfl rfl (by kernel_rfl) (fun _ _ _ h=>h) (Or.inl ⟨by rfl, ?_⟩) ?_ ?_
    rotate_left
    ·intro w'
     go_simp
     with_reducible rfl
    rotate_left
    ·simp only [Act.put,qs1,qs2,qs3,qAH,qAI]
     rfl
    refine qAL (i:=4) (N:=some 15) (v := ?_) (a' := ?_) #[qT,qT,qT,qF,qT,qF,qF,qF,qF,qF,qF,qF,qF,qF,qF,qF] rfl rfl (by kernel_rfl) (fun _ _ _ h=>h) (Or.inl ⟨by rfl, ?_⟩) ?_ ?_
    rotate_left
    ·intro w'
     go_simp
     with_reducible rfl
    rotate_left
    ·simp only [Act.put,qs1,qs2,qs3,qAH,qAI]
     rfl
    refine qAL (i:=5) (N:=some 16) (v := ?_) (a' := ?_) #[qT,qT,qT,qF,qT,qT,qF,qF,qF,qF,qF,qF,qF,qF,qF,qF] rfl rfl (by kernel_rfl) (fun _ _ _ h=>h) (Or.inl ⟨by rfl, ?_⟩) ?_ ?_
    rotate_left
    ·intro w'
     go_simp
     with_reducible rfl
    rotate_left
    ·simp only [Act.put,qs1,qs2,qs3,qAH,qAI]
     rfl
    refine qAL (i:=6) (N:=some 17) (v := ?_) (a' := ?_) #[qT,qT,qT,qF,qT,qT,qT,qF,qF,qF,qF,qF,qF,qF,qF,qF] rfl rfl (by kernel_rfl) (fun _ _ _ h=>h) (Or.inl ⟨by rfl, ?_⟩) ?_ ?_
    rotate_left
    ·intro w'
     go_simp
     with_reducible rfl
    rotate_left
    ·simp only [Act.put,qs1,qs2,qs3,qAH,qAI]
     rfl
    refine qAt (i:=3) (N:=some 14) (v := ?_) (a' := ?_) #[qT,qT,qT,qT,qT,qT,qT,qF,qF,qF,qF,qF,qF,qF,qF,qF] rfl rfl (by kernel_rfl) (fun _ _ _ h=>h) (Or.inl ⟨by rfl, ?_⟩) hHeld ?_ ?_
    rotate_left
    ·rintro w' ⟨s0,s1⟩
     go_simp
     with_reducible rfl
    rotate_left
    ·simp only [Act.put,qs1,qs2,qs3,qAH,qAI]
     rfl
    refine qAt (i:=7) (N:=some 18) (v := ?_) (a' := ?_) #[qT,qT,qT,qT,qT,qT,qT,qT,qF,qF,qF,qF,qF,qF,qF,qF] rfl rfl (by kernel_rfl) (fun _ _ _ h=>h) (Or.inl ⟨by rfl, ?_⟩) hHeld ?_ ?_
    rotate_left
    ·rintro w' ⟨s0,s1⟩
     go_simp
     with_reducible rfl
    rotate_left
    ·simp only [Act.put,qs1,qs2,qs3,qAH,qAI]
     rfl
    refine one_ (i:=8) (N:=some 19) #[qT,qT,qT,qT,qT,qT,qT,qT,qT,qF,qF,qF,qF,qF,qF,qF] rfl rfl (by kernel_rfl) (by decide) (fun K hK => ?_)
    refine qBf Try.func60 (by kernel_rfl) rfl #[.slice B bs.length cb,.int .i64 at_,.int .i64 32] (by rfl) rfl rfl (by (try simp only [List.map_toArray,List.map_cons,List.map_nil]);first | done | rfl) ?_
    refine (TX.out wd Wd.out).mono ?_
    rintro e w2 ⟨rfl,hb⟩
    refine ⟨_,rfl, ?_⟩
    have R2:=qAA.mk (Rd.out.below hb.below)
    have W2:=qAA.mk (qAg Wd.out Wd.out.size hb.below)
    have O2:=qAA.mk (Kd.qA2 Od.out hb.below)
    have HG2:=qAA.mk (Nat.lt_of_lt_of_le HGd.out hb.below.size)
    clear hb
    refine hK.out _ _ ⟨(qAB R2.out 0).trans rfl,(qAB R2.out 1).trans rfl⟩ (fun hHeld => ?_)
    clear hK K
    refine qBH (a' := ?_) ?_ ?_
    rotate_left
    ·show Act.put _ (some 19) _=_
     simp only [Act.put,qs1,qs2,qs3,qAH,qAI]
     rfl
    refine qAL (i:=9) (N:=some 10) (v := ?_) (a' := ?_) #[qT,qT,qT,qT,qT,qT,qT,qT,qT,qT,qF,qF,qF,qF,qF,qF] rfl rfl (by kernel_rfl) (fun _ _ _ h=>h) (Or.inl ⟨by rfl, ?_⟩) ?_ ?_
    rotate_left
    ·intro w'
     go_simp
     with_reducible rfl
    rotate_left
    ·simp only [Act.put,qs1,qs2,qs3,qAH,qAI]
     rfl
    refine qAL (i:=10) (N:=some 20) (v := ?_) (a' := ?_) #[qT,qT,qT,qT,qT,qT,qT,qT,qT,qT,qT,qF,qF,qF,qF,qF] rfl rfl (by kernel_rfl) (fun _ _ _ h=>h) (Or.inl ⟨by rfl, ?_⟩) ?_ ?_
    rotate_left
    ·intro w'
     go_simp
     with_reducible rfl
    rotate_left
    ·simp only [Act.put,qs1,qs2,qs3,qAH,qAI]
     rfl
    refine qAL (i:=11) (N:=some 21) (v := ?_) (a' := ?_) #[qT,qT,qT,qT,qT,qT,qT,qT,qT,qT,qT,qT,qF,qF,qF,qF] rfl rfl (by kernel_rfl) (fun _ _ _ h=>h) (Or.inl ⟨by rfl, ?_⟩) ?_ ?_
    rotate_left
    ·intro w'
     go_simp
     with_reducible rfl
    rotate_left
    ·simp only [Act.put,qs1,qs2,qs3,qAH,qAI]
     rfl
    refine qAL (i:=12) (N:=some 22) (v := ?_) (a' := ?_) #[qT,qT,qT,qT,qT,qT,qT,qT,qT,qT,qT,qT,qT,qF,qF,qF] rfl rfl (by kernel_rfl) (fun _ _ _ h=>h) (Or.inl ⟨by rfl, ?_⟩) ?_ ?_
    rotate_left
    ·intro w'
     go_simp
     with_reducible rfl
    rotate_left
    ·simp only [Act.put,qs1,qs2,qs3,qAH,qAI]
     rfl
    refine qAL (i:=13) (N:=some 4) (v := ?_) (a' := ?_) #[qT,qT,qT,qT,qT,qT,qT,qT,qT,qT,qT,qT,qT,qT,qF,qF] rfl rfl (by kernel_rfl) (fun _ _ _ h=>h) (Or.inl ⟨by rfl, ?_⟩) ?_ ?_
    rotate_left
    ·intro w'
     go_simp
     with_reducible rfl
    rotate_left
    ·simp only [Act.put,qs1,qs2,qs3,qAH,qAI]
     rfl
    refine qAL (i:=14) (N:=some 5) (v := ?_) (a' := ?_) #[qT,qT,qT,qT,qT,qT,qT,qT,qT,qT,qT,qT,qT,qT,qT,qF] rfl rfl (by kernel_rfl) (fun _ _ _ h=>h) (Or.inl ⟨by rfl, ?_⟩) ?_ ?_
    rotate_left
    ·intro w'
     go_simp
     with_reducible rfl
    rotate_left
    ·simp only [Act.put,qs1,qs2,qs3,qAH,qAI]
     rfl
    refine qAL (i:=15) (N:=some 6) (v := ?_) (a' := ?_) #[qT,qT,qT,qT,qT,qT,qT,qT,qT,qT,qT,qT,qT,qT,qT,qT] rfl rfl (by kernel_rfl) (fun _ _ _ h=>h) (Or.inl ⟨by rfl, ?_⟩) ?_ ?_
    rotate_left
    ·intro w'
     go_simp
     with_reducible rfl
    rotate_left
    ·simp only [Act.put,qs1,qs2,qs3,qAH,qAI]
     rfl
    refine qBP (by kernel_rfl) ?_
    go_wp2
    refine qAz (n:=28) (S:=fun w'=>w'.cell? ⟨g,3,none⟩=some (.slice AL 0 cl)) (ds:=[]) #[qF,qF,qF,qF,qF,qF,qF,qF,qF,qF,qF,qF,qF,qF,qF,qF,qF,qF,qF,qF,qF,qF,qF,qF,qF,qF,qF,qF] (by kernel_rfl) rfl rfl ((qAB (show w2.drew.heap[g]?=_ from R2.out) 3).trans rfl) (fun hHeld => ?_)
    generalize hwd:w2.drew=wd2 at hHeld ⊢
    have R2d:=qAA.mk (hwd▸R2.out.below (qAW (Below.refl _ _)))
    have W2d:=qAA.mk (hwd▸qAW W2.out)
    have O2d:=qAA.mk (hwd▸Kd.qA7 O2.out)
    have HG2d:=qAA.mk (show g < wd2.heap.size from hwd▸HG2.out)
    have HOB:=qAA.mk (fun k hk=>((Kd.qBg O2d.out).1 k hk).2.2.1)
    clear hwd
    refine qAL (i:=0) (N:=some 31) (v := ?_) (a' := ?_) #[qT,qF,qF,qF,qF,qF,qF,qF,qF,qF,qF,qF,qF,qF,qF,qF,qF,qF,qF,qF,qF,qF,qF,qF,qF,qF,qF,qF] rfl rfl (by kernel_rfl) (fun _ _ _ h=>h) (Or.inl ⟨by rfl, ?_⟩) ?_ ?_
    rotate_left
    ·intro w'
     go_simp
     with_reducible rfl
    rotate_left
    ·simp only [Act.put,qs1,qs2,qs3,qAH,qAI]
     rfl
    refine qAL (i:=1) (N:=some 32) (v := ?_) (a' := ?_) #[qT,qT,qF,qF,qF,qF,qF,qF,qF,qF,qF,qF,qF,qF,qF,qF,qF,qF,qF,qF,qF,qF,qF,qF,qF,qF,qF,qF] rfl rfl (by kernel_rfl) (fun _ _ _ h=>h) (Or.inl ⟨by rfl, ?_⟩) ?_ ?_
    rotate_left
    ·intro w'
     go_simp
     with_reducible rfl
    rotate_left
    ·simp only [Act.put,qs1,qs2,qs3,qAH,qAI]
     rfl
    refine qAL (i:=2) (N:=some 33) (v := ?_) (a' := ?_) #[qT,qT,qT,qF,qF,qF,qF,qF,qF,qF,qF,qF,qF,qF,qF,qF,qF,qF,qF,qF,qF,qF,qF,qF,qF,qF,qF,qF] rfl rfl (by kernel_rfl) (fun _ _ _ h=>h) (Or.inl ⟨by rfl, ?_⟩) ?_ ?_
    rotate_left
    ·intro w'
     go_simp
     with_reducible rfl
    rotate_left
    ·simp only [Act.put,qs1,qs2,qs3,qAH,qAI]
     rfl
    refine qAL (i:=3) (N:=some 34) (v := ?_) (a' := ?_) #[qT,qT,qT,qT,qF,qF,qF,qF,qF,qF,qF,qF,qF,qF,qF,qF,qF,qF,qF,qF,qF,qF,qF,qF,qF,qF,qF,qF] rfl rfl (by kernel_rfl) (fun _ _ _ h=>h) (Or.inl ⟨by rfl, ?_⟩) ?_ ?_
    rotate_left
    ·intro w'
     go_simp
     with_reducible rfl
    rotate_left
    ·simp only [Act.put,qs1,qs2,qs3,qAH,qAI]
     rfl
    refine qAL (i:=4) (N:=some 35) (v := ?_) (a' := ?_) #[qT,qT,qT,qT,qT,qF,qF,qF,qF,qF,qF,qF,qF,qF,qF,qF,qF,qF,qF,qF,qF,qF,qF,qF,qF,qF,qF,qF] rfl rfl (by kernel_rfl) (fun _ _ _ h=>h) (Or.inl ⟨by rfl, ?_⟩) ?_ ?_
    rotate_left
    ·intro w'
     go_simp
     with_reducible rfl
    rotate_left
    ·simp only [Act.put,qs1,qs2,qs3,qAH,qAI]
     rfl
    refine qAL (i:=5) (N:=some 36) (v := ?_) (a' := ?_) #[qT,qT,qT,qT,qT,qT,qF,qF,qF,qF,qF,qF,qF,qF,qF,qF,qF,qF,qF,qF,qF,qF,qF,qF,qF,qF,qF,qF] rfl rfl (by kernel_rfl) (fun _ _ _ h=>h) (Or.inl ⟨by rfl, ?_⟩) ?_ ?_
    rotate_left
    ·intro w'
     go_simp
     with_reducible rfl
    rotate_left
    ·simp only [Act.put,qs1,qs2,qs3,qAH,qAI]
     rfl
    refine qAt (i:=6) (N:=some 37) (v := ?_) (a' := ?_) #[qT,qT,qT,qT,qT,qT,qT,qF,qF,qF,qF,qF,qF,qF,qF,qF,qF,qF,qF,qF,qF,qF,qF,qF,qF,qF,qF,qF] rfl rfl (by kernel_rfl) (fun _ _ _ h=>h) (Or.inl ⟨by rfl, ?_⟩) hHeld ?_ ?_
    rotate_left
    ·intro w' s0
     go_simp
     with_reducible rfl
    rotate_left
    ·simp only [Act.put,qs1,qs2,qs3,qAH,qAI]
     rfl
    refine qAL (i:=7) (N:=some 38) (v := ?_) (a' := ?_) #[qT,qT,qT,qT,qT,qT,qT,qT,qF,qF,qF,qF,qF,qF,qF,qF,qF,qF,qF,qF,qF,qF,qF,qF,qF,qF,qF,qF] rfl rfl (by kernel_rfl) (fun _ _ _ h=>h) (Or.inl ⟨by rfl, ?_⟩) ?_ ?_
    rotate_left
    ·intro w'
     go_simp
     with_reducible rfl
    rotate_left
    ·simp only [Act.put,qs1,qs2,qs3,qAH,qAI]
     rfl
    refine qAL (i:=8) (N:=some 39) (v := ?_) (a' := ?_) #[qT,qT,qT,qT,qT,qT,qT,qT,qT,qF,qF,qF,qF,qF,qF,qF,qF,qF,qF,qF,qF,qF,qF,qF,qF,qF,qF,qF] rfl rfl (by kernel_rfl) (fun _ _ _ h=>h) (Or.inl ⟨by rfl, ?_⟩) ?_ ?_
    rotate_left
    ·intro w'
     go_simp
     with_reducible rfl
    rotate_left
    ·simp only [Act.put,qs1,qs2,qs3,qAH,qAI]
     rfl
    refine qAL (i:=9) (N:=some 40) (v := ?_) (a' := ?_) #[qT,qT,qT,qT,qT,qT,qT,qT,qT,qT,qF,qF,qF,qF,qF,qF,qF,qF,qF,qF,qF,qF,qF,qF,qF,qF,qF,qF] rfl rfl (by kernel_rfl) (fun _ _ _ h=>h) (Or.inl ⟨by rfl, ?_⟩) ?_ ?_
    rotate_left
    ·intro w'
     go_simp
     with_reducible rfl
    rotate_left
    ·simp only [Act.put,qs1,qs2,qs3,qAH,qAI]
     rfl
    refine qAL (i:=10) (N:=some 41) (v:=undef) (a' := ?_) #[qT,qT,qT,qT,qT,qT,qT,qT,qT,qT,qT,qF,qF,qF,qF,qF,qF,qF,qF,qF,qF,qF,qF,qF,qF,qF,qF,qF] rfl rfl (by kernel_rfl) (fun _ _ _ h=>h) (Or.inr ⟨by rfl,rfl⟩) ?_ ?_
    rotate_left
    ·simp only [Act.put,qs1,qs2,qs3,qAH,qAI]
     rfl
    refine qAL (i:=11) (N:=some 42) (v:=undef) (a' := ?_) #[qT,qT,qT,qT,qT,qT,qT,qT,qT,qT,qT,qT,qF,qF,qF,qF,qF,qF,qF,qF,qF,qF,qF,qF,qF,qF,qF,qF] rfl rfl (by kernel_rfl) (fun _ _ _ h=>h) (Or.inr ⟨by rfl,rfl⟩) ?_ ?_
    rotate_left
    ·simp only [Act.put,qs1,qs2,qs3,qAH,qAI]
     rfl
    refine qAL (i:=12) (N:=some 43) (v:=undef) (a' := ?_) #[qT,qT,qT,qT,qT,qT,qT,qT,qT,qT,qT,qT,qT,qF,qF,qF,qF,qF,qF,qF,qF,qF,qF,qF,qF,qF,qF,qF] rfl rfl (by kernel_rfl) (fun _ _ _ h=>h) (Or.inr ⟨by rfl,rfl⟩) ?_ ?_
    rotate_left
    ·simp only [Act.put,qs1,qs2,qs3,qAH,qAI]
     rfl
    refine qAL (i:=13) (N:=some 44) (v:=undef) (a' := ?_) #[qT,qT,qT,qT,qT,qT,qT,qT,qT,qT,qT,qT,qT,qT,qF,qF,qF,qF,qF,qF,qF,qF,qF,qF,qF,qF,qF,qF] rfl rfl (by kernel_rfl) (fun _ _ _ h=>h) (Or.inr ⟨by rfl,rfl⟩) ?_ ?_
    rotate_left
    ·simp only [Act.put,qs1,qs2,qs3,qAH,qAI]
     rfl
    refine qAL (i:=14) (N:=some 45) (v:=undef) (a' := ?_) #[qT,qT,qT,qT,qT,qT,qT,qT,qT,qT,qT,qT,qT,qT,qT,qF,qF,qF,qF,qF,qF,qF,qF,qF,qF,qF,qF,qF] rfl rfl (by kernel_rfl) (fun _ _ _ h=>h) (Or.inr ⟨by rfl,rfl⟩) ?_ ?_
    rotate_left
    ·simp only [Act.put,qs1,qs2,qs3,qAH,qAI]
     rfl
    refine qAL (i:=15) (N:=some 46) (v:=undef) (a' := ?_) #[qT,qT,qT,qT,qT,qT,qT,qT,qT,qT,qT,qT,qT,qT,qT,qT,qF,qF,qF,qF,qF,qF,qF,qF,qF,qF,qF,qF] rfl rfl (by kernel_rfl) (fun _ _ _ h=>h) (Or.inr ⟨by rfl,rfl⟩) ?_ ?_
    rotate_left
    ·simp only [Act.put,qs1,qs2,qs3,qAH,qAI]
     rfl
    refine qAL (i:=16) (N:=some 47) (v:=undef) (a' := ?_) #[qT,qT,qT,qT,qT,qT,qT,qT,qT,qT,qT,qT,qT,qT,qT,qT,qT,qF,qF,qF,qF,qF,qF,qF,qF,qF,qF,qF] rfl rfl (by kernel_rfl) (fun _ _ _ h=>h) (Or.inr ⟨by rfl,rfl⟩) ?_ ?_
    rotate_left
    ·simp only [Act.put,qs1,qs2,qs3,qAH,qAI]
     rfl
    refine qAL (i:=17) (N:=some 48) (v:=undef) (a' := ?_) #[qT,qT,qT,qT,qT,qT,qT,qT,qT,qT,qT,qT,qT,qT,qT,qT,qT,qT,qF,qF,qF,qF,qF,qF,qF,qF,qF,qF] rfl rfl (by kernel_rfl) (fun _ _ _ h=>h) (Or.inr ⟨by rfl,rfl⟩) ?_ ?_
    rotate_left
    ·simp only [Act.put,qs1,qs2,qs3,qAH,qAI]
     rfl
    refine qAL (i:=18) (N:=some 49) (v:=undef) (a' := ?_) #[qT,qT,qT,qT,qT,qT,qT,qT,qT,qT,qT,qT,qT,qT,qT,qT,qT,qT,qT,qF,qF,qF,qF,qF,qF,qF,qF,qF] rfl rfl (by kernel_rfl) (fun _ _ _ h=>h) (Or.inr ⟨by rfl,rfl⟩) ?_ ?_
    rotate_left
    ·simp only [Act.put,qs1,qs2,qs3,qAH,qAI]
     rfl
    refine qAL (i:=19) (N:=some 50) (v:=undef) (a' := ?_) #[qT,qT,qT,qT,qT,qT,qT,qT,qT,qT,qT,qT,qT,qT,qT,qT,qT,qT,qT,qT,qF,qF,qF,qF,qF,qF,qF,qF] rfl rfl (by kernel_rfl) (fun _ _ _ h=>h) (Or.inr ⟨by rfl,rfl⟩) ?_ ?_
    rotate_left
    ·simp only [Act.put,qs1,qs2,qs3,qAH,qAI]
     rfl
    refine qAL (i:=20) (N:=some 51) (v:=undef) (a' := ?_) #[qT,qT,qT,qT,qT,qT,qT,qT,qT,qT,qT,qT,qT,qT,qT,qT,qT,qT,qT,qT,qT,qF,qF,qF,qF,qF,qF,qF] rfl rfl (by kernel_rfl) (fun _ _ _ h=>h) (Or.inr ⟨by rfl,rfl⟩) ?_ ?_
    rotate_left
    ·simp only [Act.put,qs1,qs2,qs3,qAH,qAI]
     rfl
    refine qAL (i:=21) (N:=some 52) (v:=undef) (a' := ?_) #[qT,qT,qT,qT,qT,qT,qT,qT,qT,qT,qT,qT,qT,qT,qT,qT,qT,qT,qT,qT,qT,qT,qF,qF,qF,qF,qF,qF] rfl rfl (by kernel_rfl) (fun _ _ _ h=>h) (Or.inr ⟨by rfl,rfl⟩) ?_ ?_
    rotate_left
    ·simp only [Act.put,qs1,qs2,qs3,qAH,qAI]
     rfl
    refine qAL (i:=22) (N:=some 53) (v:=undef) (a' := ?_) #[qT,qT,qT,qT,qT,qT,qT,qT,qT,qT,qT,qT,qT,qT,qT,qT,qT,qT,qT,qT,qT,qT,qT,qF,qF,qF,qF,qF] rfl rfl (by kernel_rfl) (fun _ _ _ h=>h) (Or.inr ⟨by rfl,rfl⟩) ?_ ?_
    rotate_left
    ·simp only [Act.put,qs1,qs2,qs3,qAH,qAI]
     rfl
    refine qAL (i:=23) (N:=some 54) (v:=undef) (a' := ?_) #[qT,qT,qT,qT,qT,qT,qT,qT,qT,qT,qT,qT,qT,qT,qT,qT,qT,qT,qT,qT,qT,qT,qT,qT,qF,qF,qF,qF] rfl rfl (by kernel_rfl) (fun _ _ _ h=>h) (Or.inr ⟨by rfl,rfl⟩) ?_ ?_
    rotate_left
    ·simp only [Act.put,qs1,qs2,qs3,qAH,qAI]
     rfl
    refine qAL (i:=24) (N:=some 55) (v:=undef) (a' := ?_) #[qT,qT,qT,qT,qT,qT,qT,qT,qT,qT,qT,qT,qT,qT,qT,qT,qT,qT,qT,qT,qT,qT,qT,qT,qT,qF,qF,qF] rfl rfl (by kernel_rfl) (fun _ _ _ h=>h) (Or.inr ⟨by rfl,rfl⟩) ?_ ?_
    rotate_left
    ·simp only [Act.put,qs1,qs2,qs3,qAH,qAI]
     rfl
    refine qAL (i:=25) (N:=some 56) (v := ?_) (a' := ?_) #[qT,qT,qT,qT,qT,qT,qT,qT,qT,qT,qT,qT,qT,qT,qT,qT,qT,qT,qT,qT,qT,qT,qT,qT,qT,qT,qF,qF] rfl rfl (by kernel_rfl) (fun _ _ _ h=>h) (Or.inl ⟨by rfl, ?_⟩) ?_ ?_
    rotate_left
    ·intro w'
     go_simp
     with_reducible rfl
    rotate_left
    ·simp only [Act.put,qs1,qs2,qs3,qAH,qAI]
     rfl
    refine qAL (i:=26) (N:=some 57) (v := ?_) (a' := ?_) #[qT,qT,qT,qT,qT,qT,qT,qT,qT,qT,qT,qT,qT,qT,qT,qT,qT,qT,qT,qT,qT,qT,qT,qT,qT,qT,qT,qF] rfl rfl (by kernel_rfl) (fun _ _ _ h=>h) (Or.inl ⟨by rfl, ?_⟩) ?_ ?_
    rotate_left
    ·intro w'
     go_simp
     with_reducible rfl
    rotate_left
    ·simp only [Act.put,qs1,qs2,qs3,qAH,qAI]
     rfl
    refine qAL (i:=27) (N:=some 30) (v := ?_) (a' := ?_) #[qT,qT,qT,qT,qT,qT,qT,qT,qT,qT,qT,qT,qT,qT,qT,qT,qT,qT,qT,qT,qT,qT,qT,qT,qT,qT,qT,qT] rfl rfl (by kernel_rfl) (fun _ _ _ h=>h) (Or.inl ⟨by rfl, ?_⟩) ?_ ?_
    rotate_left
    ·intro w'
     go_simp
     with_reducible rfl
    rotate_left
    ·simp only [Act.put,qs1,qs2,qs3,qAH,qAI]
     rfl
    refine qBP (by kernel_rfl) ?_
    have z0:wd2.cell? ⟨g,0,none⟩=some (.slice B bs.length cb):=(qAB R2d.out 0).trans rfl
    go_wp2_with (first | (go_at_call 61;refine (TKO.out _ W2d.out).mono ?_;rintro e_ w3 ⟨v3,v4,rfl,h3,h4,hb⟩;obtain ⟨A3,c3,e3,l3,C3⟩:=h3.C 8;obtain ⟨A4,c4,e4,l4,C4⟩:=h4.C;subst e3;subst e4;have KT3:=qAA.mk (sa.kt_got2 W2d.out.size h3 h4);have HS3:=qAA.mk hb.size;have K3:=qAA.mk C3;have K4:=qAA.mk C4;have L3:=qAA.mk l3;have L4:=qAA.mk l4;have W3:=qAA.mk (qAg W2d.out W2d.out.size hb);have R3:=qAA.mk (R2d.out.below hb);have O3:=qAA.mk (Kd.qA2 O2d.out hb);clear hb h3 h4 C3 C4 l3 l4 z0))
    have B5:=qAA.mk (show Below w3.heap.size w3 ((w3.alloc (.cells #[.int .i64 x.f0,.int .i64 x.f1,.string x.f2,.slice A3 x.f3.length c3,.slice A4 x.f4.length c4] 34)).alloc (.cells #[.string s,.int .i64 x.f0,.int .i64 x.f1,.string x.f2,.slice A3 x.f3.length c3,.slice A4 x.f4.length c4] 51)) from qAF (qAF (Below.refl _ _) _) _)
    have X5:=qAA.mk (show ((w3.alloc (.cells #[.int .i64 x.f0,.int .i64 x.f1,.string x.f2,.slice A3 x.f3.length c3,.slice A4 x.f4.length c4] 34)).alloc (.cells #[.string s,.int .i64 x.f0,.int .i64 x.f1,.string x.f2,.slice A3 x.f3.length c3,.slice A4 x.f4.length c4] 51)).heap[w3.heap.size+1]?=some (.cells #[.string s,.int .i64 x.f0,.int .i64 x.f1,.string x.f2,.slice A3 x.f3.length c3,.slice A4 x.f4.length c4] 51 (0,0)) from by simpa using heap_alloc_new (w3.alloc (.cells #[.int .i64 x.f0,.int .i64 x.f1,.string x.f2,.slice A3 x.f3.length c3,.slice A4 x.f4.length c4] 34)) (.cells #[.string s,.int .i64 x.f0,.int .i64 x.f1,.string x.f2,.slice A3 x.f3.length c3,.slice A4 x.f4.length c4] 51))
    generalize (w3.alloc (.cells #[.int .i64 x.f0,.int .i64 x.f1,.string x.f2,.slice A3 x.f3.length c3,.slice A4 x.f4.length c4] 34)).alloc (.cells #[.string s,.int .i64 x.f0,.int .i64 x.f1,.string x.f2,.slice A3 x.f3.length c3,.slice A4 x.f4.length c4] 51)=w5 at *
    have W5:=qAA.mk (qAg W3.out W3.out.size B5.out)
    have R5:=qAA.mk (R3.out.below B5.out)
    have Q5:=qAA.mk (Kd.qA2 O3.out B5.out)
    have KT5:=qAA.mk (Kd.qBh KT3.out B5.out)
    have J3:=qAA.mk (Kd.qAa K3.out B5.out)
    have J4:=qAA.mk (Kd.qAa K4.out B5.out)
    have HGX:=qAA.mk (show w3.heap.size+1 ≠ g from by have:=HG2d.out;have:=HS3.out;omega)
    have HGX2:=qAA.mk (show wd2.heap.size≤w3.heap.size+1 from by have:=HS3.out;omega)
    generalize w3.heap.size+1=gx at *
    clear K3 K4 R3 O3 KT3 B5 HS3 W3
    refine qAz (n:=10) (S:=fun w'=>w'.cell? ⟨g,2,none⟩=some (.int .i64 all)∧w'.cell? ⟨gx,0,none⟩=some (.string s)∧w'.cell? ⟨gx,1,none⟩=some (.int .i64 x.f0)∧w'.cell? ⟨gx,2,none⟩=some (.int .i64 x.f1)∧w'.cell? ⟨gx,3,none⟩=some (.string x.f2)∧w'.cell? ⟨gx,4,none⟩=some (.slice A3 x.f3.length c3)∧w'.cell? ⟨gx,5,none⟩=some (.slice A4 x.f4.length c4)) (ds:=[9]) #[qF,qF,qF,qF,qF,qF,qF,qF,qF,qF] (by kernel_rfl) rfl rfl ⟨(qAB (show w5.drew.heap[g]?=_ from R5.out) 2).trans rfl,(qAB (qAO X5.out) 0).trans rfl,(qAB (qAO X5.out) 1).trans rfl,(qAB (qAO X5.out) 2).trans rfl,(qAB (qAO X5.out) 3).trans rfl,(qAB (qAO X5.out) 4).trans rfl,(qAB (qAO X5.out) 5).trans rfl⟩ (fun hHeld => ?_)
    generalize hwd:w5.drew=wd5 at hHeld ⊢
    have R6:=qAA.mk (hwd▸R5.out.below (qAW (Below.refl _ _)))
    have W6:=qAA.mk (hwd▸qAW W5.out)
    have Q6:=qAA.mk (hwd▸Kd.qA7 Q5.out)
    have KT6:=qAA.mk (hwd▸Kd.qBh KT5.out (qAW (Below.refl _ _)))
    have X6:=qAA.mk (hwd▸qAO X5.out)
    have I3:=qAA.mk (hwd▸Kd.qAr J3.out)
    have I4:=qAA.mk (hwd▸Kd.qAr J4.out)
    clear hwd R5 W5 Q5 KT5 X5 J3 J4
    refine qAL (i:=0) (N:=some 78) (v := ?_) (a' := ?_) #[qT,qF,qF,qF,qF,qF,qF,qF,qF,qF] rfl rfl (by kernel_rfl) (fun _ _ _ h=>h) (Or.inl ⟨by rfl, ?_⟩) ?_ ?_
    rotate_left
    ·intro w'
     go_simp
     with_reducible rfl
    rotate_left
    ·simp only [Act.put,qs1,qs2,qs3,qAH,qAI]
     rfl
    refine qAL (i:=1) (N:=some 79) (v := ?_) (a' := ?_) #[qT,qT,qF,qF,qF,qF,qF,qF,qF,qF] rfl rfl (by kernel_rfl) (fun _ _ _ h=>h) (Or.inl ⟨by rfl, ?_⟩) ?_ ?_
    rotate_left
    ·intro w'
     go_simp
     with_reducible rfl
    rotate_left
    ·simp only [Act.put,qs1,qs2,qs3,qAH,qAI]
     rfl
    refine qAL (i:=2) (N:=some 80) (v := ?_) (a' := ?_) #[qT,qT,qT,qF,qF,qF,qF,qF,qF,qF] rfl rfl (by kernel_rfl) (fun _ _ _ h=>h) (Or.inl ⟨by rfl, ?_⟩) ?_ ?_
    rotate_left
    ·intro w'
     go_simp
     with_reducible rfl
    rotate_left
    ·simp only [Act.put,qs1,qs2,qs3,qAH,qAI]
     rfl
    refine qAt (i:=3) (N:=some 81) (v := ?_) (a' := ?_) #[qT,qT,qT,qT,qF,qF,qF,qF,qF,qF] rfl rfl (by kernel_rfl) (fun _ _ _ h=>h) (Or.inl ⟨by rfl, ?_⟩) hHeld ?_ ?_
    rotate_left
    ·rintro w' ⟨s0,s1,s2,s3,s4,s5,s6⟩
     go_simp
     with_reducible rfl
    rotate_left
    ·simp only [Act.put,qs1,qs2,qs3,qAH,qAI]
     rfl
    refine qAt (i:=4) (N:=some 82) (v := ?_) (a' := ?_) #[qT,qT,qT,qT,qT,qF,qF,qF,qF,qF] rfl rfl (by kernel_rfl) (fun _ _ _ h=>h) (Or.inl ⟨by rfl, ?_⟩) hHeld ?_ ?_
    rotate_left
    ·rintro w' ⟨s0,s1,s2,s3,s4,s5,s6⟩
     go_simp
     with_reducible rfl
    rotate_left
    ·simp only [Act.put,qs1,qs2,qs3,qAH,qAI]
     rfl
    refine one_ (i:=5) (N:=some 83) #[qT,qT,qT,qT,qT,qT,qF,qF,qF,qF] rfl rfl (by kernel_rfl) (by decide) (fun K hK => ?_)
    refine qBf Try.func49 (by kernel_rfl) rfl #[.agg #[.string s,.int .i64 x.f0,.int .i64 x.f1,.string x.f2,.slice A3 x.f3.length c3,.slice A4 x.f4.length c4]] (by rfl) rfl rfl (by (try simp only [List.map_toArray,List.map_cons,List.map_nil]);first | done | rfl) ?_
    refine (qAs.calls KH s x.f0 x.f1 x.f2 A3 c3 x.f3 A4 c4 x.f4 hw wd5 I3.out L3.out I4.out L4.out HKH.out).mono ?_
    rintro e w7 ⟨rfl,hb⟩
    refine ⟨_,rfl, ?_⟩
    have R7:=qAA.mk (R6.out.below hb)
    have W7:=qAA.mk (qAg W6.out W6.out.size hb)
    have Q7:=qAA.mk (Kd.qA2 Q6.out hb)
    have KT7:=qAA.mk (Kd.qBh KT6.out hb)
    have X7:=qAA.mk (qAb X6.out hb)
    clear hb
    have s2:=(qAB R7.out 2).trans rfl
    have s2f:=qAC R7.out 2
    refine hK.out _ _ ⟨(qAB R7.out 2).trans rfl,(qAB X7.out 0).trans rfl,(qAB X7.out 1).trans rfl,(qAB X7.out 2).trans rfl,(qAB X7.out 3).trans rfl,(qAB X7.out 4).trans rfl,(qAB X7.out 5).trans rfl⟩ (fun hHeld => ?_)
    clear hK K
    refine qBH (a' := ?_) ?_ ?_
    rotate_left
    ·show Act.put _ (some 83) _=_
     simp only [Act.put,qs1,qs2,qs3,qAH,qAI]
     rfl
    refine qAL (i:=6) (N:=some 84) (v := ?_) (a' := ?_) #[qT,qT,qT,qT,qT,qT,qT,qF,qF,qF] rfl rfl (by kernel_rfl) (fun _ _ _ h=>h) (Or.inl ⟨by rfl, ?_⟩) ?_ ?_
    rotate_left
    ·intro w'
     go_simp
     with_reducible rfl
    rotate_left
    ·simp only [Act.put,qs1,qs2,qs3,qAH,qAI]
     rfl
    refine qAL (i:=7) (N:=some 85) (v := ?_) (a' := ?_) #[qT,qT,qT,qT,qT,qT,qT,qT,qF,qF] rfl rfl (by kernel_rfl) (fun _ _ _ h=>h) (Or.inl ⟨by rfl, ?_⟩) ?_ ?_
    rotate_left
    ·intro w'
     go_simp
     with_reducible rfl
    rotate_left
    ·simp only [Act.put,qs1,qs2,qs3,qAH,qAI]
     rfl
    refine qAL (i:=8) (N:=some 86) (v := ?_) (a' := ?_) #[qT,qT,qT,qT,qT,qT,qT,qT,qT,qF] rfl rfl (by kernel_rfl) (fun _ _ _ h=>h) (Or.inl ⟨by rfl, ?_⟩) ?_ ?_
    rotate_left
    ·intro w'
     go_simp
     with_reducible rfl
    rotate_left
    ·simp only [Act.put,qs1,qs2,qs3,qAH,qAI]
     rfl
    refine last_ (i:=9) (N:=none) #[qT,qT,qT,qT,qT,qT,qT,qT,qT,qT] rfl rfl (by kernel_rfl) (by decide) (fun K hK => ?_)
    refine skip_ (w1 := ?_) (by rfl) rfl ?_ ?_
    rotate_left
    ·go_simp
     rfl
    clear s2 s2f
    refine hK.out _ _ ?_
    clear hK K
    refine qBP (by kernel_rfl) ?_
    have R8:=qAA.mk (show sa.RB7 (w7.setCell ⟨g,2,none⟩ (.int .i64 (all+hw))) g B bs.length cb at_ (all+hw) (.slice AL 0 cl) from qAx R7.out 2 _ rfl)
    have W8:=qAA.mk (show Below w0.heap.size w0 (w7.setCell ⟨g,2,none⟩ (.int .i64 (all+hw))) from qAP W7.out HG.out)
    have Q8:=qAA.mk (Kd.R_far Q7.out (p:=⟨g,2,none⟩) (fun k hk=>hk) (.int .i64 (all+hw)))
    have KT8:=qAA.mk (Kd.M_far KT7.out (p:=⟨g,2,none⟩) (fun k hk=>by have:=HG2d.out;dsimp only;omega) (.int .i64 (all+hw)))
    have X8:=qAA.mk ((Below.heap_setCell w7 ⟨g,2,none⟩ (.int .i64 (all+hw)) gx HGX.out).trans X7.out)
    generalize w7.setCell ⟨g,2,none⟩ (.int .i64 (all+hw))=w8 at *
    have z2:w8.cell? ⟨g,2,none⟩=some (.int .i64 (all+hw)):=(qAB R8.out 2).trans rfl
    go_wp2
    clear z2
    refine qAz (n:=11) (S:=fun w'=>w'.cell? ⟨g,3,none⟩=some (.slice AL 0 cl)∧w'.cell? ⟨gx,0,none⟩=some (.string s)∧w'.cell? ⟨gx,1,none⟩=some (.int .i64 x.f0)∧w'.cell? ⟨gx,2,none⟩=some (.int .i64 x.f1)∧w'.cell? ⟨gx,3,none⟩=some (.string x.f2)∧w'.cell? ⟨gx,4,none⟩=some (.slice A3 x.f3.length c3)∧w'.cell? ⟨gx,5,none⟩=some (.slice A4 x.f4.length c4)) (ds:=[10]) #[qF,qF,qF,qF,qF,qF,qF,qF,qF,qF,qF] (by kernel_rfl) rfl rfl ⟨(qAB (show w8.drew.heap[g]?=_ from R8.out) 3).trans rfl,(qAB (qAO X8.out) 0).trans rfl,(qAB (qAO X8.out) 1).trans rfl,(qAB (qAO X8.out) 2).trans rfl,(qAB (qAO X8.out) 3).trans rfl,(qAB (qAO X8.out) 4).trans rfl,(qAB (qAO X8.out) 5).trans rfl⟩ (fun hHeld => ?_)
    generalize hwd:w8.drew=wd8 at hHeld ⊢
    have R9:=qAA.mk (hwd▸R8.out.below (qAW (Below.refl _ _)))
    have W9:=qAA.mk (hwd▸qAW W8.out)
    have Q9:=qAA.mk (hwd▸Kd.qA7 Q8.out)
    have KT9:=qAA.mk (hwd▸Kd.qBh KT8.out (qAW (Below.refl _ _)))
    have X9:=qAA.mk (hwd▸qAO X8.out)
    clear hwd R8 W8 Q8 KT8 X8
    refine qAL (i:=0) (N:=some 96) (v := ?_) (a' := ?_) #[qT,qF,qF,qF,qF,qF,qF,qF,qF,qF,qF] rfl rfl (by kernel_rfl) (fun _ _ _ h=>h) (Or.inl ⟨by rfl, ?_⟩) ?_ ?_
    rotate_left
    ·intro w'
     go_simp
     with_reducible rfl
    rotate_left
    ·simp only [Act.put,qs1,qs2,qs3,qAH,qAI]
     rfl
    refine qAL (i:=1) (N:=some 97) (v := ?_) (a' := ?_) #[qT,qT,qF,qF,qF,qF,qF,qF,qF,qF,qF] rfl rfl (by kernel_rfl) (fun _ _ _ h=>h) (Or.inl ⟨by rfl, ?_⟩) ?_ ?_
    rotate_left
    ·intro w'
     go_simp
     with_reducible rfl
    rotate_left
    ·simp only [Act.put,qs1,qs2,qs3,qAH,qAI]
     rfl
    refine qAL (i:=2) (N:=some 98) (v := ?_) (a' := ?_) #[qT,qT,qT,qF,qF,qF,qF,qF,qF,qF,qF] rfl rfl (by kernel_rfl) (fun _ _ _ h=>h) (Or.inl ⟨by rfl, ?_⟩) ?_ ?_
    rotate_left
    ·intro w'
     go_simp
     with_reducible rfl
    rotate_left
    ·simp only [Act.put,qs1,qs2,qs3,qAH,qAI]
     rfl
    refine qAL (i:=3) (N:=some 99) (v := ?_) (a' := ?_) #[qT,qT,qT,qT,qF,qF,qF,qF,qF,qF,qF] rfl rfl (by kernel_rfl) (fun _ _ _ h=>h) (Or.inl ⟨by rfl, ?_⟩) ?_ ?_
    rotate_left
    ·intro w'
     go_simp
     with_reducible rfl
    rotate_left
    ·simp only [Act.put,qs1,qs2,qs3,qAH,qAI]
     rfl
    refine qAt (i:=4) (N:=some 100) (v := ?_) (a' := ?_) #[qT,qT,qT,qT,qT,qF,qF,qF,qF,qF,qF] rfl rfl (by kernel_rfl) (fun _ _ _ h=>h) (Or.inl ⟨by rfl, ?_⟩) hHeld ?_ ?_
    rotate_left
    ·rintro w' ⟨s0,s1,s2,s3,s4,s5,s6⟩
     go_simp
     with_reducible rfl
    rotate_left
    ·simp only [Act.put,qs1,qs2,qs3,qAH,qAI]
     rfl
    refine qAt (i:=5) (N:=some 101) (v := ?_) (a' := ?_) #[qT,qT,qT,qT,qT,qT,qF,qF,qF,qF,qF] rfl rfl (by kernel_rfl) (fun _ _ _ h=>h) (Or.inl ⟨by rfl, ?_⟩) hHeld ?_ ?_
    rotate_left
    ·rintro w' ⟨s0,s1,s2,s3,s4,s5,s6⟩
     go_simp
     with_reducible rfl
    rotate_left
    ·simp only [Act.put,qs1,qs2,qs3,qAH,qAI]
     rfl
    refine one_ (i:=6) (N:=some 102) #[qT,qT,qT,qT,qT,qT,qT,qF,qF,qF,qF] rfl rfl (by kernel_rfl) (by decide) (fun K hK => ?_)
    refine value_ (w1 := ?_) (v := ?_) (by rfl) rfl ?_ ?_
    rotate_left 2
    ·go_simp
     constructor
     ·rfl
     ·rfl
    refine hK.out _ _ ⟨(qAB (qAR R9.out _) 3).trans rfl,(qAB (qAR X9.out _) 0).trans rfl,(qAB (qAR X9.out _) 1).trans rfl,(qAB (qAR X9.out _) 2).trans rfl,(qAB (qAR X9.out _) 3).trans rfl,(qAB (qAR X9.out _) 4).trans rfl,(qAB (qAR X9.out _) 5).trans rfl⟩ (fun hHeld => ?_)
    clear hK K
    refine qBH (a' := ?_) ?_ ?_
    rotate_left
    ·show Act.put _ (some 102) _=_
     simp only [Act.put,qs1,qs2,qs3,qAH,qAI]
     rfl
    refine one_ (i:=7) (N:=some 103) #[qT,qT,qT,qT,qT,qT,qT,qT,qF,qF,qF] rfl rfl (by kernel_rfl) (by decide) (fun K hK => ?_)
    refine Kd.qBQ sa.ke (w0:=w0) w0.heap.size (by rfl) (.tmp 100) (.tmp 102) 22 51 (.agg #[.string ⟨#[]⟩,.int .i64 0,.int .i64 0,.string ⟨#[]⟩,.slice none 0 0,.slice none 0 0]) 96 rfl Try.underlying22 info51 rfl (by decide) (by omega) _ l ⟨s,x⟩ [.string s,.int .i64 x.f0,.int .i64 x.f1,.string x.f2,.slice A3 x.f3.length c3,.slice A4 x.f4.length c4] (fun k=>k ≠ g) (fun k=>wd2.heap.size≤k) rfl rfl ?aM ?aF ?aN ?aO ?aB ?aS ?aL ?_
    (case aM=>exact sa.ke_M KT9.out)
    (case aF=>exact fun k hk=>⟨by have:=HG2d.out;omega,fun e=>by have:=HOB.out k e.symm;omega⟩)
    (case aN=>exact fun k hk=>by have:=qAo (show wd8.heap[g]?=some _ from R9.out);omega)
    (case aO=>exact Q9.out)
    (case aB=>exact W9.out)
    (case aS=>exact W9.out.size)
    (case aL=>have:=HLL.out;omega)
    intro v11 w11 hr hb hg hat
    obtain ⟨A11,c11,e11⟩:=Kd.qBV hr
    subst e11
    rw [show (l ++ [(⟨s,x⟩:S51)]).length=l.length+1 from by simp] at hr
    have R11:=qAA.mk (qBI R9.out hg (Kd.R_away Q9.out (fun _ hk=>hk)))
    have X11:=qAA.mk (qBI X9.out hg (fun e=>by have:=HOB.out gx e.symm;have:=HGX2.out;omega))
    have Q11:=qAA.mk hr
    have W11:=qAA.mk hb
    clear hr hb hg hat
    have s3:=(qAB R11.out 3).trans rfl
    have s3f:=qAC R11.out 3
    refine hK.out _ _ ⟨(qAB R11.out 3).trans rfl,(qAB X11.out 0).trans rfl,(qAB X11.out 1).trans rfl,(qAB X11.out 2).trans rfl,(qAB X11.out 3).trans rfl,(qAB X11.out 4).trans rfl,(qAB X11.out 5).trans rfl⟩ (fun hHeld => ?_)
    clear hK K
    refine qBH (a' := ?_) ?_ ?_
    rotate_left
    ·show Act.put _ (some 103) _=_
     simp only [Act.put,qs1,qs2,qs3,qAH,qAI]
     rfl
    refine qAL (i:=8) (N:=some 104) (v := ?_) (a' := ?_) #[qT,qT,qT,qT,qT,qT,qT,qT,qT,qF,qF] rfl rfl (by kernel_rfl) (fun _ _ _ h=>h) (Or.inl ⟨by rfl, ?_⟩) ?_ ?_
    rotate_left
    ·intro w'
     go_simp
     with_reducible rfl
    rotate_left
    ·simp only [Act.put,qs1,qs2,qs3,qAH,qAI]
     rfl
    refine qAL (i:=9) (N:=some 105) (v := ?_) (a' := ?_) #[qT,qT,qT,qT,qT,qT,qT,qT,qT,qT,qF] rfl rfl (by kernel_rfl) (fun _ _ _ h=>h) (Or.inl ⟨by rfl, ?_⟩) ?_ ?_
    rotate_left
    ·intro w'
     go_simp
     with_reducible rfl
    rotate_left
    ·simp only [Act.put,qs1,qs2,qs3,qAH,qAI]
     rfl
    refine last_ (i:=10) (N:=none) #[qT,qT,qT,qT,qT,qT,qT,qT,qT,qT,qT] rfl rfl (by kernel_rfl) (by decide) (fun K hK => ?_)
    refine skip_ (w1 := ?_) (by rfl) rfl ?_ ?_
    rotate_left
    ·go_simp
     rfl
    clear s3 s3f
    refine hK.out _ _ ?_
    clear hK K
    refine qBP (by kernel_rfl) ?_
    have R12:=qAA.mk (show sa.RB7 (w11.setCell ⟨g,3,none⟩ (.slice A11 (l.length+1) c11)) g B bs.length cb at_ (all+hw) (.slice A11 (l.length+1) c11) from qAx R11.out 3 _ rfl)
    have W12:=qAA.mk (show Below w0.heap.size w0 (w11.setCell ⟨g,3,none⟩ (.slice A11 (l.length+1) c11)) from qAP W11.out HG.out)
    have Q12:=qAA.mk (Kd.R_far Q11.out (p:=⟨g,3,none⟩) (fun k hk=>hk) (.slice A11 (l.length+1) c11))
    generalize w11.setCell ⟨g,3,none⟩ (.slice A11 (l.length+1) c11)=w12 at *
    have z1:w12.cell? ⟨g,1,none⟩=some (.int .i64 at_):=(qAB R12.out 1).trans rfl
    have z1f:=qAC R12.out 1
    go_wp2
    go_ret2
    exact ⟨rfl,qAP W12.out HG.out,_,qAx R12.out 1 _ rfl,Kd.R_far Q12.out (p:=⟨g,1,none⟩) (fun k hk=>hk) _⟩
 obtain ⟨k,rfl⟩:∃ k,n=k+1:=⟨n - 1,by omega⟩
 have hkl:(k:Int)=(l.length:Int) - 1:=by have:=HN.out;omega
 rw [← hkl]
 have hk0:(0:Int)≤(k:Int):=by omega
 have hk1:wrap64 (((k+1:Nat):Int) - 1)=(k:Int):=by have:=HN.out;have:=HLL.out;unfold wrap64;omega
 have hk5:wrap64 (k:Int)=(k:Int):=by have:=HN.out;have:=HLL.out;unfold wrap64;omega
 have hk6:IntKind.i64.wrap (k:Int)=(k:Int):=(qAH _).trans hk5
 have hk2:(((k+1:Nat):Int)) > 0:=by omega
 have hk3:decide ((((k+1:Nat):Int)) > 0)=true:=decide_eq_true hk2
 have hk4:(k:Int) < ((k+1:Nat):Int):=by omega
 have hk8:(k:Int) < (k:Int)+1:=by omega
 have hk9:((k:Int) < (k:Int)+1)=True:=eq_true hk8
 have hk7:0 < l.length:=by have:=HN.out;omega
 have HAT:=qAA.mk (fun (W:World) (hC:sa.ke.C W AL l.length l)=>qB6 (sa.ke_C hC) (k:Int) (by omega) (by have:=HN.out;omega))
 generalize qAM l (k:Int)=y at HAT ⊢
 clear hkl hn0
 cases p3:Op.bytesLess y.f0.toList s.toList with
 | false =>
  rw [if_pos (Or.inr ⟨hk7,by simp⟩)]
  clear h2 hk7
  go_enter Try.func41,Try.ntmps41
  go_wp2
  refine qAz (n:=16) (S:=fun w'=>w'.cell? ⟨g,0,none⟩=some (.slice B bs.length cb)∧w'.cell? ⟨g,1,none⟩=some (.int .i64 at_)) (ds:=[]) #[qF,qF,qF,qF,qF,qF,qF,qF,qF,qF,qF,qF,qF,qF,qF,qF] (by kernel_rfl) rfl rfl ⟨(qAB (show w.drew.heap[g]?=_ from HR.out) 0).trans rfl,(qAB (show w.drew.heap[g]?=_ from HR.out) 1).trans rfl⟩ (fun hHeld => ?_)
  generalize hwd:w.drew=wd at hHeld ⊢
  have Rd:=qAA.mk (hwd▸HR.out.below (qAW (Below.refl _ _)))
  have Wd:=qAA.mk (hwd▸qAW HW.out)
  have Od:=qAA.mk (hwd▸Kd.qA7 HO.out)
  have HGd:=qAA.mk (show g < wd.heap.size from hwd▸HGW.out)
  clear hwd
  refine qAL (i:=0) (N:=some 11) (v := ?_) (a' := ?_) #[qT,qF,qF,qF,qF,qF,qF,qF,qF,qF,qF,qF,qF,qF,qF,qF] rfl rfl (by kernel_rfl) (fun _ _ _ h=>h) (Or.inl ⟨by rfl, ?_⟩) ?_ ?_
  rotate_left
  ·intro w'
   go_simp
   with_reducible rfl
  rotate_left
  ·simp only [Act.put,qs1,qs2,qs3,qAH,qAI]
   rfl
  refine qAL (i:=1) (N:=some 12) (v := ?_) (a' := ?_) #[qT,qT,qF,qF,qF,qF,qF,qF,qF,qF,qF,qF,qF,qF,qF,qF] rfl rfl (by kernel_rfl) (fun _ _ _ h=>h) (Or.inl ⟨by rfl, ?_⟩) ?_ ?_
  rotate_left
  ·intro w'
   go_simp
   with_reducible rfl
  rotate_left
  ·simp only [Act.put,qs1,qs2,qs3,qAH,qAI]
   rfl
  refine qAL (i:=2) (N:=some 13) (v := ?_) (a' := ?_) #[qT,qT,qT,qF,qF,qF,qF,qF,qF,qF,qF,qF,qF,qF,qF,qF] rfl rfl (by kernel_rfl) (fun _ _ _ h=>h) (Or.inl ⟨by rfl, ?_⟩) ?_ ?_
  rotate_left
  ·intro w'
   go_simp
   with_reducible rfl
  rotate_left
  ·simp only [Act.put,qs1,qs2,qs3,qAH,qAI]
   rfl
  refine qAL (i:=4) (N:=some 15) (v := ?_) (a' := ?_) #[qT,qT,qT,qF,qT,qF,qF,qF,qF,qF,qF,qF,qF,qF,qF,qF] rfl rfl (by kernel_rfl) (fun _ _ _ h=>h) (Or.inl ⟨by rfl, ?_⟩) ?_ ?_
  rotate_left
  ·intro w'
   go_simp
   with_reducible rfl
  rotate_left
  ·simp only [Act.put,qs1,qs2,qs3,qAH,qAI]
   rfl
  refine qAL (i:=5) (N:=some 16) (v := ?_) (a' := ?_) #[qT,qT,qT,qF,qT,qT,qF,qF,qF,qF,qF,qF,qF,qF,qF,qF] rfl rfl (by kernel_rfl) (fun _ _ _ h=>h) (Or.inl ⟨by rfl, ?_⟩) ?_ ?_
  rotate_left
  ·intro w'
   go_simp
   with_reducible rfl
  rotate_left
  ·simp only [Act.put,qs1,qs2,qs3,qAH,qAI]
   rfl
  refine qAL (i:=6) (N:=some 17) (v := ?_) (a' := ?_) #[qT,qT,qT,qF,qT,qT,qT,qF,qF,qF,qF,qF,qF,qF,qF,qF] rfl rfl (by kernel_rfl) (fun _ _ _ h=>h) (Or.inl ⟨by rfl, ?_⟩) ?_ ?_
  rotate_left
  ·intro w'
   go_simp
   with_reducible rfl
  rotate_left
  ·simp only [Act.put,qs1,qs2,qs3,qAH,qAI]
   rfl
  refine qAt (i:=3) (N:=some 14) (v := ?_) (a' := ?_) #[qT,qT,qT,qT,qT,qT,qT,qF,qF,qF,qF,qF,qF,qF,qF,qF] rfl rfl (by kernel_rfl) (fun _ _ _ h=>h) (Or.inl ⟨by rfl, ?_⟩) hHeld ?_ ?_
  rotate_left
  ·rintro w' ⟨s0,s1⟩
   go_simp
   with_reducible rfl
  rotate_left
  ·simp only [Act.put,qs1,qs2,qs3,qAH,qAI]
   rfl
  refine qAt (i:=7) (N:=some 18) (v := ?_) (a' := ?_) #[qT,qT,qT,qT,qT,qT,qT,qT,qF,qF,qF,qF,qF,qF,qF,qF] rfl rfl (by kernel_rfl) (fun _ _ _ h=>h) (Or.inl ⟨by rfl, ?_⟩) hHeld ?_ ?_
  rotate_left
  ·rintro w' ⟨s0,s1⟩
   go_simp
   with_reducible rfl
  rotate_left
  ·simp only [Act.put,qs1,qs2,qs3,qAH,qAI]
   rfl
  refine one_ (i:=8) (N:=some 19) #[qT,qT,qT,qT,qT,qT,qT,qT,qT,qF,qF,qF,qF,qF,qF,qF] rfl rfl (by kernel_rfl) (by decide) (fun K hK => ?_)
  refine qBf Try.func60 (by kernel_rfl) rfl #[.slice B bs.length cb,.int .i64 at_,.int .i64 32] (by rfl) rfl rfl (by (try simp only [List.map_toArray,List.map_cons,List.map_nil]);first | done | rfl) ?_
  refine (TX.out wd Wd.out).mono ?_
  rintro e w2 ⟨rfl,hb⟩
  refine ⟨_,rfl, ?_⟩
  have R2:=qAA.mk (Rd.out.below hb.below)
  have W2:=qAA.mk (qAg Wd.out Wd.out.size hb.below)
  have O2:=qAA.mk (Kd.qA2 Od.out hb.below)
  have HG2:=qAA.mk (Nat.lt_of_lt_of_le HGd.out hb.below.size)
  clear hb
  refine hK.out _ _ ⟨(qAB R2.out 0).trans rfl,(qAB R2.out 1).trans rfl⟩ (fun hHeld => ?_)
  clear hK K
  refine qBH (a' := ?_) ?_ ?_
  rotate_left
  ·show Act.put _ (some 19) _=_
   simp only [Act.put,qs1,qs2,qs3,qAH,qAI]
   rfl
  refine qAL (i:=9) (N:=some 10) (v := ?_) (a' := ?_) #[qT,qT,qT,qT,qT,qT,qT,qT,qT,qT,qF,qF,qF,qF,qF,qF] rfl rfl (by kernel_rfl) (fun _ _ _ h=>h) (Or.inl ⟨by rfl, ?_⟩) ?_ ?_
  rotate_left
  ·intro w'
   go_simp
   with_reducible rfl
  rotate_left
  ·simp only [Act.put,qs1,qs2,qs3,qAH,qAI]
   rfl
  refine qAL (i:=10) (N:=some 20) (v := ?_) (a' := ?_) #[qT,qT,qT,qT,qT,qT,qT,qT,qT,qT,qT,qF,qF,qF,qF,qF] rfl rfl (by kernel_rfl) (fun _ _ _ h=>h) (Or.inl ⟨by rfl, ?_⟩) ?_ ?_
  rotate_left
  ·intro w'
   go_simp
   with_reducible rfl
  rotate_left
  ·simp only [Act.put,qs1,qs2,qs3,qAH,qAI]
   rfl
  refine qAL (i:=11) (N:=some 21) (v := ?_) (a' := ?_) #[qT,qT,qT,qT,qT,qT,qT,qT,qT,qT,qT,qT,qF,qF,qF,qF] rfl rfl (by kernel_rfl) (fun _ _ _ h=>h) (Or.inl ⟨by rfl, ?_⟩) ?_ ?_
  rotate_left
  ·intro w'
   go_simp
   with_reducible rfl
  rotate_left
  ·simp only [Act.put,qs1,qs2,qs3,qAH,qAI]
   rfl
  refine qAL (i:=12) (N:=some 22) (v := ?_) (a' := ?_) #[qT,qT,qT,qT,qT,qT,qT,qT,qT,qT,qT,qT,qT,qF,qF,qF] rfl rfl (by kernel_rfl) (fun _ _ _ h=>h) (Or.inl ⟨by rfl, ?_⟩) ?_ ?_
  rotate_left
  ·intro w'
   go_simp
   with_reducible rfl
  rotate_left
  ·simp only [Act.put,qs1,qs2,qs3,qAH,qAI]
   rfl
  refine qAL (i:=13) (N:=some 4) (v := ?_) (a' := ?_) #[qT,qT,qT,qT,qT,qT,qT,qT,qT,qT,qT,qT,qT,qT,qF,qF] rfl rfl (by kernel_rfl) (fun _ _ _ h=>h) (Or.inl ⟨by rfl, ?_⟩) ?_ ?_
  rotate_left
  ·intro w'
   go_simp
   with_reducible rfl
  rotate_left
  ·simp only [Act.put,qs1,qs2,qs3,qAH,qAI]
   rfl
  refine qAL (i:=14) (N:=some 5) (v := ?_) (a' := ?_) #[qT,qT,qT,qT,qT,qT,qT,qT,qT,qT,qT,qT,qT,qT,qT,qF] rfl rfl (by kernel_rfl) (fun _ _ _ h=>h) (Or.inl ⟨by rfl, ?_⟩) ?_ ?_
  rotate_left
  ·intro w'
   go_simp
   with_reducible rfl
  rotate_left
  ·simp only [Act.put,qs1,qs2,qs3,qAH,qAI]
   rfl
  refine qAL (i:=15) (N:=some 6) (v := ?_) (a' := ?_) #[qT,qT,qT,qT,qT,qT,qT,qT,qT,qT,qT,qT,qT,qT,qT,qT] rfl rfl (by kernel_rfl) (fun _ _ _ h=>h) (Or.inl ⟨by rfl, ?_⟩) ?_ ?_
  rotate_left
  ·intro w'
   go_simp
   with_reducible rfl
  rotate_left
  ·simp only [Act.put,qs1,qs2,qs3,qAH,qAI]
   rfl
  refine qBP (by kernel_rfl) ?_
  go_wp2
  obtain ⟨ad,a4_,b4_,a5_,b5_,eA,h0,_⟩:=HAT.out w2.drew (Kd.R_reads' (Kd.qA7 O2.out)).2.2;subst eA;rw [Int.toNat_natCast] at h0
  refine qAz (n:=28) (S:=fun w'=>w'.cell? ⟨g,3,none⟩=some (.slice (some ad) (k+1) cl)∧w'.cell? (ad.add (k * 6))=some (.string y.f0)) (ds:=[]) #[qF,qF,qF,qF,qF,qF,qF,qF,qF,qF,qF,qF,qF,qF,qF,qF,qF,qF,qF,qF,qF,qF,qF,qF,qF,qF,qF,qF] (by kernel_rfl) rfl rfl ⟨(qAB (show w2.drew.heap[g]?=_ from R2.out) 3).trans rfl,h0⟩ (fun hHeld => ?_)
  generalize hwd:w2.drew=wd2 at hHeld ⊢
  have R2d:=qAA.mk (hwd▸R2.out.below (qAW (Below.refl _ _)))
  have W2d:=qAA.mk (hwd▸qAW W2.out)
  have O2d:=qAA.mk (hwd▸Kd.qA7 O2.out)
  have HG2d:=qAA.mk (show g < wd2.heap.size from hwd▸HG2.out)
  have HOB:=qAA.mk (fun k hk=>((Kd.qBg O2d.out).1 k hk).2.2.1)
  clear hwd
  refine qAL (i:=0) (N:=some 31) (v := ?_) (a' := ?_) #[qT,qF,qF,qF,qF,qF,qF,qF,qF,qF,qF,qF,qF,qF,qF,qF,qF,qF,qF,qF,qF,qF,qF,qF,qF,qF,qF,qF] rfl rfl (by kernel_rfl) (fun _ _ _ h=>h) (Or.inl ⟨by rfl, ?_⟩) ?_ ?_
  rotate_left
  ·intro w'
   go_simp
   with_reducible rfl
  rotate_left
  ·simp only [Act.put,qs1,qs2,qs3,qAH,qAI]
   rfl
  refine qAL (i:=1) (N:=some 32) (v := ?_) (a' := ?_) #[qT,qT,qF,qF,qF,qF,qF,qF,qF,qF,qF,qF,qF,qF,qF,qF,qF,qF,qF,qF,qF,qF,qF,qF,qF,qF,qF,qF] rfl rfl (by kernel_rfl) (fun _ _ _ h=>h) (Or.inl ⟨by rfl, ?_⟩) ?_ ?_
  rotate_left
  ·intro w'
   go_simp
   with_reducible rfl
  rotate_left
  ·simp only [Act.put,qs1,qs2,qs3,qAH,qAI]
   rfl
  refine qAL (i:=2) (N:=some 33) (v := ?_) (a' := ?_) #[qT,qT,qT,qF,qF,qF,qF,qF,qF,qF,qF,qF,qF,qF,qF,qF,qF,qF,qF,qF,qF,qF,qF,qF,qF,qF,qF,qF] rfl rfl (by kernel_rfl) (fun _ _ _ h=>h) (Or.inl ⟨by rfl, ?_⟩) ?_ ?_
  rotate_left
  ·intro w'
   go_simp
   with_reducible rfl
  rotate_left
  ·simp only [Act.put,qs1,qs2,qs3,qAH,qAI]
   rfl
  refine qAL (i:=3) (N:=some 34) (v := ?_) (a' := ?_) #[qT,qT,qT,qT,qF,qF,qF,qF,qF,qF,qF,qF,qF,qF,qF,qF,qF,qF,qF,qF,qF,qF,qF,qF,qF,qF,qF,qF] rfl rfl (by kernel_rfl) (fun _ _ _ h=>h) (Or.inl ⟨by rfl, ?_⟩) ?_ ?_
  rotate_left
  ·intro w'
   go_simp
   with_reducible rfl
  rotate_left
  ·simp only [Act.put,qs1,qs2,qs3,qAH,qAI]
   rfl
  refine qAL (i:=4) (N:=some 35) (v := ?_) (a' := ?_) #[qT,qT,qT,qT,qT,qF,qF,qF,qF,qF,qF,qF,qF,qF,qF,qF,qF,qF,qF,qF,qF,qF,qF,qF,qF,qF,qF,qF] rfl rfl (by kernel_rfl) (fun _ _ _ h=>h) (Or.inl ⟨by rfl, ?_⟩) ?_ ?_
  rotate_left
  ·intro w'
   go_simp
   with_reducible rfl
  rotate_left
  ·simp only [Act.put,qs1,qs2,qs3,qAH,qAI]
   rfl
  refine qAL (i:=5) (N:=some 36) (v := ?_) (a' := ?_) #[qT,qT,qT,qT,qT,qT,qF,qF,qF,qF,qF,qF,qF,qF,qF,qF,qF,qF,qF,qF,qF,qF,qF,qF,qF,qF,qF,qF] rfl rfl (by kernel_rfl) (fun _ _ _ h=>h) (Or.inl ⟨by rfl, ?_⟩) ?_ ?_
  rotate_left
  ·intro w'
   go_simp
   with_reducible rfl
  rotate_left
  ·simp only [Act.put,qs1,qs2,qs3,qAH,qAI]
   rfl
  refine qAt (i:=6) (N:=some 37) (v := ?_) (a' := ?_) #[qT,qT,qT,qT,qT,qT,qT,qF,qF,qF,qF,qF,qF,qF,qF,qF,qF,qF,qF,qF,qF,qF,qF,qF,qF,qF,qF,qF] rfl rfl (by kernel_rfl) (fun _ _ _ h=>h) (Or.inl ⟨by rfl, ?_⟩) hHeld ?_ ?_
  rotate_left
  ·rintro w' ⟨s0,s1⟩
   go_simp
   with_reducible rfl
  rotate_left
  ·simp only [Act.put,qs1,qs2,qs3,qAH,qAI]
   rfl
  refine qAL (i:=7) (N:=some 38) (v := ?_) (a' := ?_) #[qT,qT,qT,qT,qT,qT,qT,qT,qF,qF,qF,qF,qF,qF,qF,qF,qF,qF,qF,qF,qF,qF,qF,qF,qF,qF,qF,qF] rfl rfl (by kernel_rfl) (fun _ _ _ h=>h) (Or.inl ⟨by rfl, ?_⟩) ?_ ?_
  rotate_left
  ·intro w'
   go_simp
   with_reducible rfl
  rotate_left
  ·simp only [Act.put,qs1,qs2,qs3,qAH,qAI]
   rfl
  refine qAL (i:=8) (N:=some 39) (v := ?_) (a' := ?_) #[qT,qT,qT,qT,qT,qT,qT,qT,qT,qF,qF,qF,qF,qF,qF,qF,qF,qF,qF,qF,qF,qF,qF,qF,qF,qF,qF,qF] rfl rfl (by kernel_rfl) (fun _ _ _ h=>h) (Or.inl ⟨by rfl, ?_⟩) ?_ ?_
  rotate_left
  ·intro w'
   go_simp
   with_reducible rfl
  rotate_left
  ·simp only [Act.put,qs1,qs2,qs3,qAH,qAI]
   rfl
  refine qAL (i:=9) (N:=some 40) (v := ?_) (a' := ?_) #[qT,qT,qT,qT,qT,qT,qT,qT,qT,qT,qF,qF,qF,qF,qF,qF,qF,qF,qF,qF,qF,qF,qF,qF,qF,qF,qF,qF] rfl rfl (by kernel_rfl) (fun _ _ _ h=>h) (Or.inl ⟨by rfl, ?_⟩) ?_ ?_
  rotate_left
  ·intro w'
   go_simp
   with_reducible rfl
  rotate_left
  ·simp only [Act.put,qs1,qs2,qs3,qAH,qAI]
   rfl
  refine qAL (i:=10) (N:=some 41) (v := ?_) (a' := ?_) #[qT,qT,qT,qT,qT,qT,qT,qT,qT,qT,qT,qF,qF,qF,qF,qF,qF,qF,qF,qF,qF,qF,qF,qF,qF,qF,qF,qF] rfl rfl (by kernel_rfl) (fun _ _ _ h=>h) (Or.inl ⟨by rfl, ?_⟩) ?_ ?_
  rotate_left
  ·intro w'
   go_simp
   with_reducible rfl
  rotate_left
  ·simp only [Act.put,qs1,qs2,qs3,qAH,qAI]
   rfl
  refine qAL (i:=11) (N:=some 42) (v := ?_) (a' := ?_) #[qT,qT,qT,qT,qT,qT,qT,qT,qT,qT,qT,qT,qF,qF,qF,qF,qF,qF,qF,qF,qF,qF,qF,qF,qF,qF,qF,qF] rfl rfl (by kernel_rfl) (fun _ _ _ h=>h) (Or.inl ⟨by rfl, ?_⟩) ?_ ?_
  rotate_left
  ·intro w'
   go_simp
   with_reducible rfl
  rotate_left
  ·simp only [Act.put,qs1,qs2,qs3,qAH,qAI]
   rfl
  refine qAL (i:=12) (N:=some 43) (v := ?_) (a' := ?_) #[qT,qT,qT,qT,qT,qT,qT,qT,qT,qT,qT,qT,qT,qF,qF,qF,qF,qF,qF,qF,qF,qF,qF,qF,qF,qF,qF,qF] rfl rfl (by kernel_rfl) (fun _ _ _ h=>h) (Or.inl ⟨by rfl, ?_⟩) ?_ ?_
  rotate_left
  ·intro w'
   go_simp
   with_reducible rfl
  rotate_left
  ·simp only [Act.put,qs1,qs2,qs3,qAH,qAI]
   rfl
  refine qAL (i:=14) (N:=some 45) (v := ?_) (a' := ?_) #[qT,qT,qT,qT,qT,qT,qT,qT,qT,qT,qT,qT,qT,qF,qT,qF,qF,qF,qF,qF,qF,qF,qF,qF,qF,qF,qF,qF] rfl rfl (by kernel_rfl) (fun _ _ _ h=>h) (Or.inl ⟨by rfl, ?_⟩) ?_ ?_
  rotate_left
  ·intro w'
   go_simp
   with_reducible rfl
  rotate_left
  ·simp only [Act.put,qs1,qs2,qs3,qAH,qAI]
   rfl
  refine qAL (i:=15) (N:=some 46) (v := ?_) (a' := ?_) #[qT,qT,qT,qT,qT,qT,qT,qT,qT,qT,qT,qT,qT,qF,qT,qT,qF,qF,qF,qF,qF,qF,qF,qF,qF,qF,qF,qF] rfl rfl (by kernel_rfl) (fun _ _ _ h=>h) (Or.inl ⟨by rfl, ?_⟩) ?_ ?_
  rotate_left
  ·intro w'
   go_simp
   with_reducible rfl
  rotate_left
  ·simp only [Act.put,qs1,qs2,qs3,qAH,qAI]
   rfl
  refine qAL (i:=16) (N:=some 47) (v := ?_) (a' := ?_) #[qT,qT,qT,qT,qT,qT,qT,qT,qT,qT,qT,qT,qT,qF,qT,qT,qT,qF,qF,qF,qF,qF,qF,qF,qF,qF,qF,qF] rfl rfl (by kernel_rfl) (fun _ _ _ h=>h) (Or.inl ⟨by rfl, ?_⟩) ?_ ?_
  rotate_left
  ·intro w'
   go_simp
   with_reducible rfl
  rotate_left
  ·simp only [Act.put,qs1,qs2,qs3,qAH,qAI]
   rfl
  refine qAL (i:=23) (N:=some 54) (v := ?_) (a' := ?_) #[qT,qT,qT,qT,qT,qT,qT,qT,qT,qT,qT,qT,qT,qF,qT,qT,qT,qF,qF,qF,qF,qF,qF,qT,qF,qF,qF,qF] rfl rfl (by kernel_rfl) (fun _ _ _ h=>h) (Or.inl ⟨by rfl, ?_⟩) ?_ ?_
  rotate_left
  ·intro w'
   go_simp
   with_reducible rfl
  rotate_left
  ·simp only [Act.put,qs1,qs2,qs3,qAH,qAI]
   rfl
  refine qAt (i:=13) (N:=some 44) (v := ?_) (a' := ?_) #[qT,qT,qT,qT,qT,qT,qT,qT,qT,qT,qT,qT,qT,qT,qT,qT,qT,qF,qF,qF,qF,qF,qF,qT,qF,qF,qF,qF] rfl rfl (by kernel_rfl) (fun _ _ _ h=>h) (Or.inl ⟨by rfl, ?_⟩) hHeld ?_ ?_
  rotate_left
  ·rintro w' ⟨s0,s1⟩
   go_simp
   with_reducible rfl
  rotate_left
  ·simp only [Act.put,qs1,qs2,qs3,qAH,qAI]
   rfl
  refine qAt (i:=17) (N:=some 48) (v := ?_) (a' := ?_) #[qT,qT,qT,qT,qT,qT,qT,qT,qT,qT,qT,qT,qT,qT,qT,qT,qT,qT,qF,qF,qF,qF,qF,qT,qF,qF,qF,qF] rfl rfl (by kernel_rfl) (fun _ _ _ h=>h) (Or.inl ⟨by rfl, ?_⟩) hHeld ?_ ?_
  rotate_left
  ·rintro w' ⟨s0,s1⟩
   go_simp
   with_reducible rfl
  rotate_left
  ·simp only [Act.put,qs1,qs2,qs3,qAH,qAI]
   rfl
  refine qAL (i:=18) (N:=some 49) (v := ?_) (a' := ?_) #[qT,qT,qT,qT,qT,qT,qT,qT,qT,qT,qT,qT,qT,qT,qT,qT,qT,qT,qT,qF,qF,qF,qF,qT,qF,qF,qF,qF] rfl rfl (by kernel_rfl) (fun _ _ _ h=>h) (Or.inl ⟨by rfl, ?_⟩) ?_ ?_
  rotate_left
  ·intro w'
   go_simp
   with_reducible rfl
  rotate_left
  ·simp only [Act.put,qs1,qs2,qs3,qAH,qAI]
   rfl
  refine qAL (i:=19) (N:=some 50) (v := ?_) (a' := ?_) #[qT,qT,qT,qT,qT,qT,qT,qT,qT,qT,qT,qT,qT,qT,qT,qT,qT,qT,qT,qT,qF,qF,qF,qT,qF,qF,qF,qF] rfl rfl (by kernel_rfl) (fun _ _ _ h=>h) (Or.inl ⟨by rfl, ?_⟩) ?_ ?_
  rotate_left
  ·intro w'
   go_simp
   with_reducible rfl
  rotate_left
  ·simp only [Act.put,qs1,qs2,qs3,qAH,qAI]
   rfl
  refine qAL (i:=20) (N:=some 51) (v := ?_) (a' := ?_) #[qT,qT,qT,qT,qT,qT,qT,qT,qT,qT,qT,qT,qT,qT,qT,qT,qT,qT,qT,qT,qT,qF,qF,qT,qF,qF,qF,qF] rfl rfl (by kernel_rfl) (fun _ _ _ h=>h) (Or.inl ⟨by rfl, ?_⟩) ?_ ?_
  rotate_left
  ·intro w'
   go_simp
   with_reducible rfl
  rotate_left
  ·simp only [Act.put,qs1,qs2,qs3,qAH,qAI]
   rfl
  refine qAL (i:=21) (N:=some 52) (v := ?_) (a' := ?_) #[qT,qT,qT,qT,qT,qT,qT,qT,qT,qT,qT,qT,qT,qT,qT,qT,qT,qT,qT,qT,qT,qT,qF,qT,qF,qF,qF,qF] rfl rfl (by kernel_rfl) (fun _ _ _ h=>h) (Or.inl ⟨by rfl, ?_⟩) ?_ ?_
  rotate_left
  ·intro w'
   go_simp
   with_reducible rfl
  rotate_left
  ·simp only [Act.put,qs1,qs2,qs3,qAH,qAI]
   rfl
  refine qAt (i:=22) (N:=some 53) (v := ?_) (a' := ?_) #[qT,qT,qT,qT,qT,qT,qT,qT,qT,qT,qT,qT,qT,qT,qT,qT,qT,qT,qT,qT,qT,qT,qT,qT,qF,qF,qF,qF] rfl rfl (by kernel_rfl) (fun _ _ _ h=>h) (Or.inl ⟨by rfl, ?_⟩) hHeld ?_ ?_
  rotate_left
  ·rintro w' ⟨s0,s1⟩
   go_simp
   with_reducible rfl
  rotate_left
  ·simp only [Act.put,qs1,qs2,qs3,qAH,qAI]
   rfl
  refine qAL (i:=24) (N:=some 55) (v := ?_) (a' := ?_) #[qT,qT,qT,qT,qT,qT,qT,qT,qT,qT,qT,qT,qT,qT,qT,qT,qT,qT,qT,qT,qT,qT,qT,qT,qT,qF,qF,qF] rfl rfl (by kernel_rfl) (fun _ _ _ h=>h) (Or.inl ⟨by rfl, ?_⟩) ?_ ?_
  rotate_left
  ·intro w'
   go_simp
   with_reducible rfl
  rotate_left
  ·simp only [Act.put,qs1,qs2,qs3,qAH,qAI]
   rfl
  refine qAL (i:=25) (N:=some 56) (v := ?_) (a' := ?_) #[qT,qT,qT,qT,qT,qT,qT,qT,qT,qT,qT,qT,qT,qT,qT,qT,qT,qT,qT,qT,qT,qT,qT,qT,qT,qT,qF,qF] rfl rfl (by kernel_rfl) (fun _ _ _ h=>h) (Or.inl ⟨by rfl, ?_⟩) ?_ ?_
  rotate_left
  ·intro w'
   go_simp
   with_reducible rfl
  rotate_left
  ·simp only [Act.put,qs1,qs2,qs3,qAH,qAI]
   rfl
  refine qAL (i:=26) (N:=some 57) (v := ?_) (a' := ?_) #[qT,qT,qT,qT,qT,qT,qT,qT,qT,qT,qT,qT,qT,qT,qT,qT,qT,qT,qT,qT,qT,qT,qT,qT,qT,qT,qT,qF] rfl rfl (by kernel_rfl) (fun _ _ _ h=>h) (Or.inl ⟨by rfl, ?_⟩) ?_ ?_
  rotate_left
  ·intro w'
   go_simp
   with_reducible rfl
  rotate_left
  ·simp only [Act.put,qs1,qs2,qs3,qAH,qAI]
   rfl
  refine qAL (i:=27) (N:=some 30) (v := ?_) (a' := ?_) #[qT,qT,qT,qT,qT,qT,qT,qT,qT,qT,qT,qT,qT,qT,qT,qT,qT,qT,qT,qT,qT,qT,qT,qT,qT,qT,qT,qT] rfl rfl (by kernel_rfl) (fun _ _ _ h=>h) (Or.inl ⟨by rfl, ?_⟩) ?_ ?_
  rotate_left
  ·intro w'
   go_simp
   with_reducible rfl
  rotate_left
  ·simp only [Act.put,qs1,qs2,qs3,qAH,qAI]
   rfl
  refine qBP (by kernel_rfl) ?_
  have z1:wd2.cell? ⟨g,1,none⟩=some (.int .i64 at_):=(qAB R2d.out 1).trans rfl
  go_wp2
  go_ret2
  exact ⟨rfl,W2d.out⟩
 | true =>
  rw [if_neg (by
    rintro (h | ⟨_,h⟩);· exact h2 h
    ·exact h rfl)]
  clear h2 hk7
  rcases hr:sa.takeS bs (qAe bs) (intAt bs) n1 with ⟨x,a2,l2⟩ | ⟨ee,pp⟩
  case bad =>
   have TB:=qAA.mk (sa.takeS_bad HBB.out.1 HBB.out.2 hr)
   have TKB:=qAA.mk (fun (W:World) (hb2:Below w0.heap.size w0 W)=>show Calls Try.prog 61 #[.slice B bs.length cb,.int .i64 n1] W (fun e w'=>e=.returned (.tuple #[.agg #[.int .i64 0,.int .i64 0,.string ⟨#[]⟩,.slice none 0 0,.slice none 0 0],.int .i64 pp,.int .i64 ee])∧Below W.heap.size W w') from by have h:=TK.out W hb2 n1;rw [hr] at h;exact h)
   dsimp only
   have hee:ee ≠ 0:=by have:=TB.out.1;omega
   have d1:(ee != 0)=true:=bne_iff_ne.2 hee
   have d2:(ee == 0)=false:=beq_eq_false_iff_ne.2 hee
   have d3:decide (ee=0)=false:=decide_eq_false hee
   clear hr hee
   go_enter Try.func41,Try.ntmps41
   go_wp2
   refine qAz (n:=16) (S:=fun w'=>w'.cell? ⟨g,0,none⟩=some (.slice B bs.length cb)∧w'.cell? ⟨g,1,none⟩=some (.int .i64 at_)) (ds:=[]) #[qF,qF,qF,qF,qF,qF,qF,qF,qF,qF,qF,qF,qF,qF,qF,qF] (by kernel_rfl) rfl rfl ⟨(qAB (show w.drew.heap[g]?=_ from HR.out) 0).trans rfl,(qAB (show w.drew.heap[g]?=_ from HR.out) 1).trans rfl⟩ (fun hHeld => ?_)
   generalize hwd:w.drew=wd at hHeld ⊢
   have Rd:=qAA.mk (hwd▸HR.out.below (qAW (Below.refl _ _)))
   have Wd:=qAA.mk (hwd▸qAW HW.out)
   have Od:=qAA.mk (hwd▸Kd.qA7 HO.out)
   have HGd:=qAA.mk (show g < wd.heap.size from hwd▸HGW.out)
   clear hwd
   refine qAL (i:=0) (N:=some 11) (v := ?_) (a' := ?_) #[qT,qF,qF,qF,qF,qF,qF,qF,qF,qF,qF,qF,qF,qF,qF,qF] rfl rfl (by kernel_rfl) (fun _ _ _ h=>h) (Or.inl ⟨by rfl, ?_⟩) ?_ ?_
   rotate_left
   ·intro w'
    go_simp
    with_reducible rfl
   rotate_left
   ·simp only [Act.put,qs1,qs2,qs3,qAH,qAI]
    rfl
   refine qAL (i:=1) (N:=some 12) (v := ?_) (a' := ?_) #[qT,qT,qF,qF,qF,qF,qF,qF,qF,qF,qF,qF,qF,qF,qF,qF] rfl rfl (by kernel_rfl) (fun _ _ _ h=>h) (Or.inl ⟨by rfl, ?_⟩) ?_ ?_
   rotate_left
   ·intro w'
    go_simp
    with_reducible rfl
   rotate_left
   ·simp only [Act.put,qs1,qs2,qs3,qAH,qAI]
    rfl
   refine qAL (i:=2) (N:=some 13) (v := ?_) (a' := ?_) #[qT,qT,qT,qF,qF,qF,qF,qF,qF,qF,qF,qF,qF,qF,qF,qF] rfl rfl (by kernel_rfl) (fun _ _ _ h=>h) (Or.inl ⟨by rfl, ?_⟩) ?_ ?_
   rotate_left
   ·intro w'
    go_simp
    with_reducible rfl
   rotate_left
   ·simp only [Act.put,qs1,qs2,qs3,qAH,qAI]
    rfl
   refine qAL (i:=4) (N:=some 15) (v := ?_) (a' := ?_) #[qT,qT,qT,qF,qT,qF,qF,qF,qF,qF,qF,qF,qF,qF,qF,qF] rfl rfl (by kernel_rfl) (fun _ _ _ h=>h) (Or.inl ⟨by rfl, ?_⟩) ?_ ?_
   rotate_left
   ·intro w'
    go_simp
    with_reducible rfl
   rotate_left
   ·simp only [Act.put,qs1,qs2,qs3,qAH,qAI]
    rfl
   refine qAL (i:=5) (N:=some 16) (v := ?_) (a' := ?_) #[qT,qT,qT,qF,qT,qT,qF,qF,qF,qF,qF,qF,qF,qF,qF,qF] rfl rfl (by kernel_rfl) (fun _ _ _ h=>h) (Or.inl ⟨by rfl, ?_⟩) ?_ ?_
   rotate_left
   ·intro w'
    go_simp
    with_reducible rfl
   rotate_left
   ·simp only [Act.put,qs1,qs2,qs3,qAH,qAI]
    rfl
   refine qAL (i:=6) (N:=some 17) (v := ?_) (a' := ?_) #[qT,qT,qT,qF,qT,qT,qT,qF,qF,qF,qF,qF,qF,qF,qF,qF] rfl rfl (by kernel_rfl) (fun _ _ _ h=>h) (Or.inl ⟨by rfl, ?_⟩) ?_ ?_
   rotate_left
   ·intro w'
    go_simp
    with_reducible rfl
   rotate_left
   ·simp only [Act.put,qs1,qs2,qs3,qAH,qAI]
    rfl
   refine qAt (i:=3) (N:=some 14) (v := ?_) (a' := ?_) #[qT,qT,qT,qT,qT,qT,qT,qF,qF,qF,qF,qF,qF,qF,qF,qF] rfl rfl (by kernel_rfl) (fun _ _ _ h=>h) (Or.inl ⟨by rfl, ?_⟩) hHeld ?_ ?_
   rotate_left
   ·rintro w' ⟨s0,s1⟩
    go_simp
    with_reducible rfl
   rotate_left
   ·simp only [Act.put,qs1,qs2,qs3,qAH,qAI]
    rfl
   refine qAt (i:=7) (N:=some 18) (v := ?_) (a' := ?_) #[qT,qT,qT,qT,qT,qT,qT,qT,qF,qF,qF,qF,qF,qF,qF,qF] rfl rfl (by kernel_rfl) (fun _ _ _ h=>h) (Or.inl ⟨by rfl, ?_⟩) hHeld ?_ ?_
   rotate_left
   ·rintro w' ⟨s0,s1⟩
    go_simp
    with_reducible rfl
   rotate_left
   ·simp only [Act.put,qs1,qs2,qs3,qAH,qAI]
    rfl
   refine one_ (i:=8) (N:=some 19) #[qT,qT,qT,qT,qT,qT,qT,qT,qT,qF,qF,qF,qF,qF,qF,qF] rfl rfl (by kernel_rfl) (by decide) (fun K hK => ?_)
   refine qBf Try.func60 (by kernel_rfl) rfl #[.slice B bs.length cb,.int .i64 at_,.int .i64 32] (by rfl) rfl rfl (by (try simp only [List.map_toArray,List.map_cons,List.map_nil]);first | done | rfl) ?_
   refine (TX.out wd Wd.out).mono ?_
   rintro e w2 ⟨rfl,hb⟩
   refine ⟨_,rfl, ?_⟩
   have R2:=qAA.mk (Rd.out.below hb.below)
   have W2:=qAA.mk (qAg Wd.out Wd.out.size hb.below)
   have O2:=qAA.mk (Kd.qA2 Od.out hb.below)
   have HG2:=qAA.mk (Nat.lt_of_lt_of_le HGd.out hb.below.size)
   clear hb
   refine hK.out _ _ ⟨(qAB R2.out 0).trans rfl,(qAB R2.out 1).trans rfl⟩ (fun hHeld => ?_)
   clear hK K
   refine qBH (a' := ?_) ?_ ?_
   rotate_left
   ·show Act.put _ (some 19) _=_
    simp only [Act.put,qs1,qs2,qs3,qAH,qAI]
    rfl
   refine qAL (i:=9) (N:=some 10) (v := ?_) (a' := ?_) #[qT,qT,qT,qT,qT,qT,qT,qT,qT,qT,qF,qF,qF,qF,qF,qF] rfl rfl (by kernel_rfl) (fun _ _ _ h=>h) (Or.inl ⟨by rfl, ?_⟩) ?_ ?_
   rotate_left
   ·intro w'
    go_simp
    with_reducible rfl
   rotate_left
   ·simp only [Act.put,qs1,qs2,qs3,qAH,qAI]
    rfl
   refine qAL (i:=10) (N:=some 20) (v := ?_) (a' := ?_) #[qT,qT,qT,qT,qT,qT,qT,qT,qT,qT,qT,qF,qF,qF,qF,qF] rfl rfl (by kernel_rfl) (fun _ _ _ h=>h) (Or.inl ⟨by rfl, ?_⟩) ?_ ?_
   rotate_left
   ·intro w'
    go_simp
    with_reducible rfl
   rotate_left
   ·simp only [Act.put,qs1,qs2,qs3,qAH,qAI]
    rfl
   refine qAL (i:=11) (N:=some 21) (v := ?_) (a' := ?_) #[qT,qT,qT,qT,qT,qT,qT,qT,qT,qT,qT,qT,qF,qF,qF,qF] rfl rfl (by kernel_rfl) (fun _ _ _ h=>h) (Or.inl ⟨by rfl, ?_⟩) ?_ ?_
   rotate_left
   ·intro w'
    go_simp
    with_reducible rfl
   rotate_left
   ·simp only [Act.put,qs1,qs2,qs3,qAH,qAI]
    rfl
   refine qAL (i:=12) (N:=some 22) (v := ?_) (a' := ?_) #[qT,qT,qT,qT,qT,qT,qT,qT,qT,qT,qT,qT,qT,qF,qF,qF] rfl rfl (by kernel_rfl) (fun _ _ _ h=>h) (Or.inl ⟨by rfl, ?_⟩) ?_ ?_
   rotate_left
   ·intro w'
    go_simp
    with_reducible rfl
   rotate_left
   ·simp only [Act.put,qs1,qs2,qs3,qAH,qAI]
    rfl
   refine qAL (i:=13) (N:=some 4) (v := ?_) (a' := ?_) #[qT,qT,qT,qT,qT,qT,qT,qT,qT,qT,qT,qT,qT,qT,qF,qF] rfl rfl (by kernel_rfl) (fun _ _ _ h=>h) (Or.inl ⟨by rfl, ?_⟩) ?_ ?_
   rotate_left
   ·intro w'
    go_simp
    with_reducible rfl
   rotate_left
   ·simp only [Act.put,qs1,qs2,qs3,qAH,qAI]
    rfl
   refine qAL (i:=14) (N:=some 5) (v := ?_) (a' := ?_) #[qT,qT,qT,qT,qT,qT,qT,qT,qT,qT,qT,qT,qT,qT,qT,qF] rfl rfl (by kernel_rfl) (fun _ _ _ h=>h) (Or.inl ⟨by rfl, ?_⟩) ?_ ?_
   rotate_left
   ·intro w'
    go_simp
    with_reducible rfl
   rotate_left
   ·simp only [Act.put,qs1,qs2,qs3,qAH,qAI]
    rfl
   refine qAL (i:=15) (N:=some 6) (v := ?_) (a' := ?_) #[qT,qT,qT,qT,qT,qT,qT,qT,qT,qT,qT,qT,qT,qT,qT,qT] rfl rfl (by kernel_rfl) (fun _ _ _ h=>h) (Or.inl ⟨by rfl, ?_⟩) ?_ ?_
   rotate_left
   ·intro w'
    go_simp
    with_reducible rfl
   rotate_left
   ·simp only [Act.put,qs1,qs2,qs3,qAH,qAI]
    rfl
   refine qBP (by kernel_rfl) ?_
   go_wp2
   obtain ⟨ad,a4_,b4_,a5_,b5_,eA,h0,_⟩:=HAT.out w2.drew (Kd.R_reads' (Kd.qA7 O2.out)).2.2;subst eA;rw [Int.toNat_natCast] at h0
   refine qAz (n:=28) (S:=fun w'=>w'.cell? ⟨g,3,none⟩=some (.slice (some ad) (k+1) cl)∧w'.cell? (ad.add (k * 6))=some (.string y.f0)) (ds:=[]) #[qF,qF,qF,qF,qF,qF,qF,qF,qF,qF,qF,qF,qF,qF,qF,qF,qF,qF,qF,qF,qF,qF,qF,qF,qF,qF,qF,qF] (by kernel_rfl) rfl rfl ⟨(qAB (show w2.drew.heap[g]?=_ from R2.out) 3).trans rfl,h0⟩ (fun hHeld => ?_)
   generalize hwd:w2.drew=wd2 at hHeld ⊢
   have R2d:=qAA.mk (hwd▸R2.out.below (qAW (Below.refl _ _)))
   have W2d:=qAA.mk (hwd▸qAW W2.out)
   have O2d:=qAA.mk (hwd▸Kd.qA7 O2.out)
   have HG2d:=qAA.mk (show g < wd2.heap.size from hwd▸HG2.out)
   have HOB:=qAA.mk (fun k hk=>((Kd.qBg O2d.out).1 k hk).2.2.1)
   clear hwd
   refine qAL (i:=0) (N:=some 31) (v := ?_) (a' := ?_) #[qT,qF,qF,qF,qF,qF,qF,qF,qF,qF,qF,qF,qF,qF,qF,qF,qF,qF,qF,qF,qF,qF,qF,qF,qF,qF,qF,qF] rfl rfl (by kernel_rfl) (fun _ _ _ h=>h) (Or.inl ⟨by rfl, ?_⟩) ?_ ?_
   rotate_left
   ·intro w'
    go_simp
    with_reducible rfl
   rotate_left
   ·simp only [Act.put,qs1,qs2,qs3,qAH,qAI]
    rfl
   refine qAL (i:=1) (N:=some 32) (v := ?_) (a' := ?_) #[qT,qT,qF,qF,qF,qF,qF,qF,qF,qF,qF,qF,qF,qF,qF,qF,qF,qF,qF,qF,qF,qF,qF,qF,qF,qF,qF,qF] rfl rfl (by kernel_rfl) (fun _ _ _ h=>h) (Or.inl ⟨by rfl, ?_⟩) ?_ ?_
   rotate_left
   ·intro w'
    go_simp
    with_reducible rfl
   rotate_left
   ·simp only [Act.put,qs1,qs2,qs3,qAH,qAI]
    rfl
   refine qAL (i:=2) (N:=some 33) (v := ?_) (a' := ?_) #[qT,qT,qT,qF,qF,qF,qF,qF,qF,qF,qF,qF,qF,qF,qF,qF,qF,qF,qF,qF,qF,qF,qF,qF,qF,qF,qF,qF] rfl rfl (by kernel_rfl) (fun _ _ _ h=>h) (Or.inl ⟨by rfl, ?_⟩) ?_ ?_
   rotate_left
   ·intro w'
    go_simp
    with_reducible rfl
   rotate_left
   ·simp only [Act.put,qs1,qs2,qs3,qAH,qAI]
    rfl
   refine qAL (i:=3) (N:=some 34) (v := ?_) (a' := ?_) #[qT,qT,qT,qT,qF,qF,qF,qF,qF,qF,qF,qF,qF,qF,qF,qF,qF,qF,qF,qF,qF,qF,qF,qF,qF,qF,qF,qF] rfl rfl (by kernel_rfl) (fun _ _ _ h=>h) (Or.inl ⟨by rfl, ?_⟩) ?_ ?_
   rotate_left
   ·intro w'
    go_simp
    with_reducible rfl
   rotate_left
   ·simp only [Act.put,qs1,qs2,qs3,qAH,qAI]
    rfl
   refine qAL (i:=4) (N:=some 35) (v := ?_) (a' := ?_) #[qT,qT,qT,qT,qT,qF,qF,qF,qF,qF,qF,qF,qF,qF,qF,qF,qF,qF,qF,qF,qF,qF,qF,qF,qF,qF,qF,qF] rfl rfl (by kernel_rfl) (fun _ _ _ h=>h) (Or.inl ⟨by rfl, ?_⟩) ?_ ?_
   rotate_left
   ·intro w'
    go_simp
    with_reducible rfl
   rotate_left
   ·simp only [Act.put,qs1,qs2,qs3,qAH,qAI]
    rfl
   refine qAL (i:=5) (N:=some 36) (v := ?_) (a' := ?_) #[qT,qT,qT,qT,qT,qT,qF,qF,qF,qF,qF,qF,qF,qF,qF,qF,qF,qF,qF,qF,qF,qF,qF,qF,qF,qF,qF,qF] rfl rfl (by kernel_rfl) (fun _ _ _ h=>h) (Or.inl ⟨by rfl, ?_⟩) ?_ ?_
   rotate_left
   ·intro w'
    go_simp
    with_reducible rfl
   rotate_left
   ·simp only [Act.put,qs1,qs2,qs3,qAH,qAI]
    rfl
   refine qAt (i:=6) (N:=some 37) (v := ?_) (a' := ?_) #[qT,qT,qT,qT,qT,qT,qT,qF,qF,qF,qF,qF,qF,qF,qF,qF,qF,qF,qF,qF,qF,qF,qF,qF,qF,qF,qF,qF] rfl rfl (by kernel_rfl) (fun _ _ _ h=>h) (Or.inl ⟨by rfl, ?_⟩) hHeld ?_ ?_
   rotate_left
   ·rintro w' ⟨s0,s1⟩
    go_simp
    with_reducible rfl
   rotate_left
   ·simp only [Act.put,qs1,qs2,qs3,qAH,qAI]
    rfl
   refine qAL (i:=7) (N:=some 38) (v := ?_) (a' := ?_) #[qT,qT,qT,qT,qT,qT,qT,qT,qF,qF,qF,qF,qF,qF,qF,qF,qF,qF,qF,qF,qF,qF,qF,qF,qF,qF,qF,qF] rfl rfl (by kernel_rfl) (fun _ _ _ h=>h) (Or.inl ⟨by rfl, ?_⟩) ?_ ?_
   rotate_left
   ·intro w'
    go_simp
    with_reducible rfl
   rotate_left
   ·simp only [Act.put,qs1,qs2,qs3,qAH,qAI]
    rfl
   refine qAL (i:=8) (N:=some 39) (v := ?_) (a' := ?_) #[qT,qT,qT,qT,qT,qT,qT,qT,qT,qF,qF,qF,qF,qF,qF,qF,qF,qF,qF,qF,qF,qF,qF,qF,qF,qF,qF,qF] rfl rfl (by kernel_rfl) (fun _ _ _ h=>h) (Or.inl ⟨by rfl, ?_⟩) ?_ ?_
   rotate_left
   ·intro w'
    go_simp
    with_reducible rfl
   rotate_left
   ·simp only [Act.put,qs1,qs2,qs3,qAH,qAI]
    rfl
   refine qAL (i:=9) (N:=some 40) (v := ?_) (a' := ?_) #[qT,qT,qT,qT,qT,qT,qT,qT,qT,qT,qF,qF,qF,qF,qF,qF,qF,qF,qF,qF,qF,qF,qF,qF,qF,qF,qF,qF] rfl rfl (by kernel_rfl) (fun _ _ _ h=>h) (Or.inl ⟨by rfl, ?_⟩) ?_ ?_
   rotate_left
   ·intro w'
    go_simp
    with_reducible rfl
   rotate_left
   ·simp only [Act.put,qs1,qs2,qs3,qAH,qAI]
    rfl
   refine qAL (i:=10) (N:=some 41) (v := ?_) (a' := ?_) #[qT,qT,qT,qT,qT,qT,qT,qT,qT,qT,qT,qF,qF,qF,qF,qF,qF,qF,qF,qF,qF,qF,qF,qF,qF,qF,qF,qF] rfl rfl (by kernel_rfl) (fun _ _ _ h=>h) (Or.inl ⟨by rfl, ?_⟩) ?_ ?_
   rotate_left
   ·intro w'
    go_simp
    with_reducible rfl
   rotate_left
   ·simp only [Act.put,qs1,qs2,qs3,qAH,qAI]
    rfl
   refine qAL (i:=11) (N:=some 42) (v := ?_) (a' := ?_) #[qT,qT,qT,qT,qT,qT,qT,qT,qT,qT,qT,qT,qF,qF,qF,qF,qF,qF,qF,qF,qF,qF,qF,qF,qF,qF,qF,qF] rfl rfl (by kernel_rfl) (fun _ _ _ h=>h) (Or.inl ⟨by rfl, ?_⟩) ?_ ?_
   rotate_left
   ·intro w'
    go_simp
    with_reducible rfl
   rotate_left
   ·simp only [Act.put,qs1,qs2,qs3,qAH,qAI]
    rfl
   refine qAL (i:=12) (N:=some 43) (v := ?_) (a' := ?_) #[qT,qT,qT,qT,qT,qT,qT,qT,qT,qT,qT,qT,qT,qF,qF,qF,qF,qF,qF,qF,qF,qF,qF,qF,qF,qF,qF,qF] rfl rfl (by kernel_rfl) (fun _ _ _ h=>h) (Or.inl ⟨by rfl, ?_⟩) ?_ ?_
   rotate_left
   ·intro w'
    go_simp
    with_reducible rfl
   rotate_left
   ·simp only [Act.put,qs1,qs2,qs3,qAH,qAI]
    rfl
   refine qAL (i:=14) (N:=some 45) (v := ?_) (a' := ?_) #[qT,qT,qT,qT,qT,qT,qT,qT,qT,qT,qT,qT,qT,qF,qT,qF,qF,qF,qF,qF,qF,qF,qF,qF,qF,qF,qF,qF] rfl rfl (by kernel_rfl) (fun _ _ _ h=>h) (Or.inl ⟨by rfl, ?_⟩) ?_ ?_
   rotate_left
   ·intro w'
    go_simp
    with_reducible rfl
   rotate_left
   ·simp only [Act.put,qs1,qs2,qs3,qAH,qAI]
    rfl
   refine qAL (i:=15) (N:=some 46) (v := ?_) (a' := ?_) #[qT,qT,qT,qT,qT,qT,qT,qT,qT,qT,qT,qT,qT,qF,qT,qT,qF,qF,qF,qF,qF,qF,qF,qF,qF,qF,qF,qF] rfl rfl (by kernel_rfl) (fun _ _ _ h=>h) (Or.inl ⟨by rfl, ?_⟩) ?_ ?_
   rotate_left
   ·intro w'
    go_simp
    with_reducible rfl
   rotate_left
   ·simp only [Act.put,qs1,qs2,qs3,qAH,qAI]
    rfl
   refine qAL (i:=16) (N:=some 47) (v := ?_) (a' := ?_) #[qT,qT,qT,qT,qT,qT,qT,qT,qT,qT,qT,qT,qT,qF,qT,qT,qT,qF,qF,qF,qF,qF,qF,qF,qF,qF,qF,qF] rfl rfl (by kernel_rfl) (fun _ _ _ h=>h) (Or.inl ⟨by rfl, ?_⟩) ?_ ?_
   rotate_left
   ·intro w'
    go_simp
    with_reducible rfl
   rotate_left
   ·simp only [Act.put,qs1,qs2,qs3,qAH,qAI]
    rfl
   refine qAL (i:=23) (N:=some 54) (v := ?_) (a' := ?_) #[qT,qT,qT,qT,qT,qT,qT,qT,qT,qT,qT,qT,qT,qF,qT,qT,qT,qF,qF,qF,qF,qF,qF,qT,qF,qF,qF,qF] rfl rfl (by kernel_rfl) (fun _ _ _ h=>h) (Or.inl ⟨by rfl, ?_⟩) ?_ ?_
   rotate_left
   ·intro w'
    go_simp
    with_reducible rfl
   rotate_left
   ·simp only [Act.put,qs1,qs2,qs3,qAH,qAI]
    rfl
   refine qAt (i:=13) (N:=some 44) (v := ?_) (a' := ?_) #[qT,qT,qT,qT,qT,qT,qT,qT,qT,qT,qT,qT,qT,qT,qT,qT,qT,qF,qF,qF,qF,qF,qF,qT,qF,qF,qF,qF] rfl rfl (by kernel_rfl) (fun _ _ _ h=>h) (Or.inl ⟨by rfl, ?_⟩) hHeld ?_ ?_
   rotate_left
   ·rintro w' ⟨s0,s1⟩
    go_simp
    with_reducible rfl
   rotate_left
   ·simp only [Act.put,qs1,qs2,qs3,qAH,qAI]
    rfl
   refine qAt (i:=17) (N:=some 48) (v := ?_) (a' := ?_) #[qT,qT,qT,qT,qT,qT,qT,qT,qT,qT,qT,qT,qT,qT,qT,qT,qT,qT,qF,qF,qF,qF,qF,qT,qF,qF,qF,qF] rfl rfl (by kernel_rfl) (fun _ _ _ h=>h) (Or.inl ⟨by rfl, ?_⟩) hHeld ?_ ?_
   rotate_left
   ·rintro w' ⟨s0,s1⟩
    go_simp
    with_reducible rfl
   rotate_left
   ·simp only [Act.put,qs1,qs2,qs3,qAH,qAI]
    rfl
   refine qAL (i:=18) (N:=some 49) (v := ?_) (a' := ?_) #[qT,qT,qT,qT,qT,qT,qT,qT,qT,qT,qT,qT,qT,qT,qT,qT,qT,qT,qT,qF,qF,qF,qF,qT,qF,qF,qF,qF] rfl rfl (by kernel_rfl) (fun _ _ _ h=>h) (Or.inl ⟨by rfl, ?_⟩) ?_ ?_
   rotate_left
   ·intro w'
    go_simp
    with_reducible rfl
   rotate_left
   ·simp only [Act.put,qs1,qs2,qs3,qAH,qAI]
    rfl
   refine qAL (i:=19) (N:=some 50) (v := ?_) (a' := ?_) #[qT,qT,qT,qT,qT,qT,qT,qT,qT,qT,qT,qT,qT,qT,qT,qT,qT,qT,qT,qT,qF,qF,qF,qT,qF,qF,qF,qF] rfl rfl (by kernel_rfl) (fun _ _ _ h=>h) (Or.inl ⟨by rfl, ?_⟩) ?_ ?_
   rotate_left
   ·intro w'
    go_simp
    with_reducible rfl
   rotate_left
   ·simp only [Act.put,qs1,qs2,qs3,qAH,qAI]
    rfl
   refine qAL (i:=20) (N:=some 51) (v := ?_) (a' := ?_) #[qT,qT,qT,qT,qT,qT,qT,qT,qT,qT,qT,qT,qT,qT,qT,qT,qT,qT,qT,qT,qT,qF,qF,qT,qF,qF,qF,qF] rfl rfl (by kernel_rfl) (fun _ _ _ h=>h) (Or.inl ⟨by rfl, ?_⟩) ?_ ?_
   rotate_left
   ·intro w'
    go_simp
    with_reducible rfl
   rotate_left
   ·simp only [Act.put,qs1,qs2,qs3,qAH,qAI]
    rfl
   refine qAL (i:=21) (N:=some 52) (v := ?_) (a' := ?_) #[qT,qT,qT,qT,qT,qT,qT,qT,qT,qT,qT,qT,qT,qT,qT,qT,qT,qT,qT,qT,qT,qT,qF,qT,qF,qF,qF,qF] rfl rfl (by kernel_rfl) (fun _ _ _ h=>h) (Or.inl ⟨by rfl, ?_⟩) ?_ ?_
   rotate_left
   ·intro w'
    go_simp
    with_reducible rfl
   rotate_left
   ·simp only [Act.put,qs1,qs2,qs3,qAH,qAI]
    rfl
   refine qAt (i:=22) (N:=some 53) (v := ?_) (a' := ?_) #[qT,qT,qT,qT,qT,qT,qT,qT,qT,qT,qT,qT,qT,qT,qT,qT,qT,qT,qT,qT,qT,qT,qT,qT,qF,qF,qF,qF] rfl rfl (by kernel_rfl) (fun _ _ _ h=>h) (Or.inl ⟨by rfl, ?_⟩) hHeld ?_ ?_
   rotate_left
   ·rintro w' ⟨s0,s1⟩
    go_simp
    with_reducible rfl
   rotate_left
   ·simp only [Act.put,qs1,qs2,qs3,qAH,qAI]
    rfl
   refine qAL (i:=24) (N:=some 55) (v := ?_) (a' := ?_) #[qT,qT,qT,qT,qT,qT,qT,qT,qT,qT,qT,qT,qT,qT,qT,qT,qT,qT,qT,qT,qT,qT,qT,qT,qT,qF,qF,qF] rfl rfl (by kernel_rfl) (fun _ _ _ h=>h) (Or.inl ⟨by rfl, ?_⟩) ?_ ?_
   rotate_left
   ·intro w'
    go_simp
    with_reducible rfl
   rotate_left
   ·simp only [Act.put,qs1,qs2,qs3,qAH,qAI]
    rfl
   refine qAL (i:=25) (N:=some 56) (v := ?_) (a' := ?_) #[qT,qT,qT,qT,qT,qT,qT,qT,qT,qT,qT,qT,qT,qT,qT,qT,qT,qT,qT,qT,qT,qT,qT,qT,qT,qT,qF,qF] rfl rfl (by kernel_rfl) (fun _ _ _ h=>h) (Or.inl ⟨by rfl, ?_⟩) ?_ ?_
   rotate_left
   ·intro w'
    go_simp
    with_reducible rfl
   rotate_left
   ·simp only [Act.put,qs1,qs2,qs3,qAH,qAI]
    rfl
   refine qAL (i:=26) (N:=some 57) (v := ?_) (a' := ?_) #[qT,qT,qT,qT,qT,qT,qT,qT,qT,qT,qT,qT,qT,qT,qT,qT,qT,qT,qT,qT,qT,qT,qT,qT,qT,qT,qT,qF] rfl rfl (by kernel_rfl) (fun _ _ _ h=>h) (Or.inl ⟨by rfl, ?_⟩) ?_ ?_
   rotate_left
   ·intro w'
    go_simp
    with_reducible rfl
   rotate_left
   ·simp only [Act.put,qs1,qs2,qs3,qAH,qAI]
    rfl
   refine qAL (i:=27) (N:=some 30) (v := ?_) (a' := ?_) #[qT,qT,qT,qT,qT,qT,qT,qT,qT,qT,qT,qT,qT,qT,qT,qT,qT,qT,qT,qT,qT,qT,qT,qT,qT,qT,qT,qT] rfl rfl (by kernel_rfl) (fun _ _ _ h=>h) (Or.inl ⟨by rfl, ?_⟩) ?_ ?_
   rotate_left
   ·intro w'
    go_simp
    with_reducible rfl
   rotate_left
   ·simp only [Act.put,qs1,qs2,qs3,qAH,qAI]
    rfl
   refine qBP (by kernel_rfl) ?_
   have z0:wd2.cell? ⟨g,0,none⟩=some (.slice B bs.length cb):=(qAB R2d.out 0).trans rfl
   go_wp2_with (first | (go_at_call 61;refine (TKB.out _ W2d.out).mono ?_;rintro e_ w3 ⟨rfl,hb⟩;have W3:=qAA.mk (qAg W2d.out W2d.out.size hb);clear hb z0))
   go_ret2
   exact ⟨rfl,qAF W3.out _⟩
  case ok =>
   obtain ⟨hv0,_,hrt,p0,p1,p2,_,_⟩:=TOK.out n1 x a2 l2 hr
   obtain ⟨KH,hKH⟩:=sa.heavy_ev s x hv0 hrt H2.out HSZ.out
   have TKO:=qAA.mk (fun (W:World) (hb2:Below w0.heap.size w0 W)=>show Calls Try.prog 61 #[.slice B bs.length cb,.int .i64 n1] W (fun e w'=>∃ v3 v4:Value,e=.returned (.tuple #[.agg #[.int .i64 x.f0,.int .i64 x.f1,.string x.f2,v3,v4],.int .i64 a2,.int .i64 0])∧sa.VRow w' (fun k=>W.heap.size≤k∧k < w'.heap.size) 8 v3 x.f3∧sa.KRow w' (fun k=>W.heap.size≤k∧k < w'.heap.size) v4 x.f4∧Below W.heap.size W w') from by have h:=TK.out W hb2 n1;rw [hr] at h;exact h)
   dsimp only
   have hhv:0≤sa.hv ⟨s,x⟩∧sa.hv ⟨s,x⟩≤4000:=by have:=hrt.2;have:=HSZ.out;unfold sa.hv;dsimp only;omega
   generalize sa.hv ⟨s,x⟩=hw at hKH hhv ⊢
   have HKH:=qAA.mk hKH
   have hwa:wrap64 (all+hw)=all+hw:=by have:=HAL.out;unfold wrap64;omega
   have hwb:IntKind.i64.wrap (all+hw)=all+hw:=(qAH _).trans hwa
   clear hr hKH hv0 hrt p0 p1 p2
   by_cases hbig:all+hw > 32768
   case pos =>
    rw [if_pos hbig]
    have d1:decide (all+hw > 32768)=true:=decide_eq_true (by omega)
    have d2:decide (32768 < all+hw)=true:=decide_eq_true (by omega)
    have HBG:=qAA.mk hbig
    clear hbig hhv
    go_enter Try.func41,Try.ntmps41
    go_wp2
    refine qAz (n:=16) (S:=fun w'=>w'.cell? ⟨g,0,none⟩=some (.slice B bs.length cb)∧w'.cell? ⟨g,1,none⟩=some (.int .i64 at_)) (ds:=[]) #[qF,qF,qF,qF,qF,qF,qF,qF,qF,qF,qF,qF,qF,qF,qF,qF] (by kernel_rfl) rfl rfl ⟨(qAB (show w.drew.heap[g]?=_ from HR.out) 0).trans rfl,(qAB (show w.drew.heap[g]?=_ from HR.out) 1).trans rfl⟩ (fun hHeld => ?_)
    generalize hwd:w.drew=wd at hHeld ⊢
    have Rd:=qAA.mk (hwd▸HR.out.below (qAW (Below.refl _ _)))
    have Wd:=qAA.mk (hwd▸qAW HW.out)
    have Od:=qAA.mk (hwd▸Kd.qA7 HO.out)
    have HGd:=qAA.mk (show g < wd.heap.size from hwd▸HGW.out)
    clear hwd
    refine qAL (i:=0) (N:=some 11) (v := ?_) (a' := ?_) #[qT,qF,qF,qF,qF,qF,qF,qF,qF,qF,qF,qF,qF,qF,qF,qF] rfl rfl (by kernel_rfl) (fun _ _ _ h=>h) (Or.inl ⟨by rfl, ?_⟩) ?_ ?_
    rotate_left
    ·intro w'
     go_simp
     with_reducible rfl
    rotate_left
    ·simp only [Act.put,qs1,qs2,qs3,qAH,qAI]
     rfl
    refine qAL (i:=1) (N:=some 12) (v := ?_) (a' := ?_) #[qT,qT,qF,qF,qF,qF,qF,qF,qF,qF,qF,qF,qF,qF,qF,qF] rfl rfl (by kernel_rfl) (fun _ _ _ h=>h) (Or.inl ⟨by rfl, ?_⟩) ?_ ?_
    rotate_left
    ·intro w'
     go_simp
     with_reducible rfl
    rotate_left
    ·simp only [Act.put,qs1,qs2,qs3,qAH,qAI]
     rfl
    refine qAL (i:=2) (N:=some 13) (v := ?_) (a' := ?_) #[qT,qT,qT,qF,qF,qF,qF,qF,qF,qF,qF,qF,qF,qF,qF,qF] rfl rfl (by kernel_rfl) (fun _ _ _ h=>h) (Or.inl ⟨by rfl, ?_⟩) ?_ ?_
    rotate_left
    ·intro w'
     go_simp
     with_reducible rfl
    rotate_left
    ·simp only [Act.put,qs1,qs2,qs3,qAH,qAI]
     rfl
    refine qAL (i:=4) (N:=some 15) (v := ?_) (a' := ?_) #[qT,qT,qT,qF,qT,qF,qF,qF,qF,qF,qF,qF,qF,qF,qF,qF] rfl rfl (by kernel_rfl) (fun _ _ _ h=>h) (Or.inl ⟨by rfl, ?_⟩) ?_ ?_
    rotate_left
    ·intro w'
     go_simp
     with_reducible rfl
    rotate_left
    ·simp only [Act.put,qs1,qs2,qs3,qAH,qAI]
     rfl
    refine qAL (i:=5) (N:=some 16) (v := ?_) (a' := ?_) #[qT,qT,qT,qF,qT,qT,qF,qF,qF,qF,qF,qF,qF,qF,qF,qF] rfl rfl (by kernel_rfl) (fun _ _ _ h=>h) (Or.inl ⟨by rfl, ?_⟩) ?_ ?_
    rotate_left
    ·intro w'
     go_simp
     with_reducible rfl
    rotate_left
    ·simp only [Act.put,qs1,qs2,qs3,qAH,qAI]
     rfl
    refine qAL (i:=6) (N:=some 17) (v := ?_) (a' := ?_) #[qT,qT,qT,qF,qT,qT,qT,qF,qF,qF,qF,qF,qF,qF,qF,qF] rfl rfl (by kernel_rfl) (fun _ _ _ h=>h) (Or.inl ⟨by rfl, ?_⟩) ?_ ?_
    rotate_left
    ·intro w'
     go_simp
     with_reducible rfl
    rotate_left
    ·simp only [Act.put,qs1,qs2,qs3,qAH,qAI]
     rfl
    refine qAt (i:=3) (N:=some 14) (v := ?_) (a' := ?_) #[qT,qT,qT,qT,qT,qT,qT,qF,qF,qF,qF,qF,qF,qF,qF,qF] rfl rfl (by kernel_rfl) (fun _ _ _ h=>h) (Or.inl ⟨by rfl, ?_⟩) hHeld ?_ ?_
    rotate_left
    ·rintro w' ⟨s0,s1⟩
     go_simp
     with_reducible rfl
    rotate_left
    ·simp only [Act.put,qs1,qs2,qs3,qAH,qAI]
     rfl
    refine qAt (i:=7) (N:=some 18) (v := ?_) (a' := ?_) #[qT,qT,qT,qT,qT,qT,qT,qT,qF,qF,qF,qF,qF,qF,qF,qF] rfl rfl (by kernel_rfl) (fun _ _ _ h=>h) (Or.inl ⟨by rfl, ?_⟩) hHeld ?_ ?_
    rotate_left
    ·rintro w' ⟨s0,s1⟩
     go_simp
     with_reducible rfl
    rotate_left
    ·simp only [Act.put,qs1,qs2,qs3,qAH,qAI]
     rfl
    refine one_ (i:=8) (N:=some 19) #[qT,qT,qT,qT,qT,qT,qT,qT,qT,qF,qF,qF,qF,qF,qF,qF] rfl rfl (by kernel_rfl) (by decide) (fun K hK => ?_)
    refine qBf Try.func60 (by kernel_rfl) rfl #[.slice B bs.length cb,.int .i64 at_,.int .i64 32] (by rfl) rfl rfl (by (try simp only [List.map_toArray,List.map_cons,List.map_nil]);first | done | rfl) ?_
    refine (TX.out wd Wd.out).mono ?_
    rintro e w2 ⟨rfl,hb⟩
    refine ⟨_,rfl, ?_⟩
    have R2:=qAA.mk (Rd.out.below hb.below)
    have W2:=qAA.mk (qAg Wd.out Wd.out.size hb.below)
    have O2:=qAA.mk (Kd.qA2 Od.out hb.below)
    have HG2:=qAA.mk (Nat.lt_of_lt_of_le HGd.out hb.below.size)
    clear hb
    refine hK.out _ _ ⟨(qAB R2.out 0).trans rfl,(qAB R2.out 1).trans rfl⟩ (fun hHeld => ?_)
    clear hK K
    refine qBH (a' := ?_) ?_ ?_
    rotate_left
    ·show Act.put _ (some 19) _=_
     simp only [Act.put,qs1,qs2,qs3,qAH,qAI]
     rfl
    refine qAL (i:=9) (N:=some 10) (v := ?_) (a' := ?_) #[qT,qT,qT,qT,qT,qT,qT,qT,qT,qT,qF,qF,qF,qF,qF,qF] rfl rfl (by kernel_rfl) (fun _ _ _ h=>h) (Or.inl ⟨by rfl, ?_⟩) ?_ ?_
    rotate_left
    ·intro w'
     go_simp
     with_reducible rfl
    rotate_left
    ·simp only [Act.put,qs1,qs2,qs3,qAH,qAI]
     rfl
    refine qAL (i:=10) (N:=some 20) (v := ?_) (a' := ?_) #[qT,qT,qT,qT,qT,qT,qT,qT,qT,qT,qT,qF,qF,qF,qF,qF] rfl rfl (by kernel_rfl) (fun _ _ _ h=>h) (Or.inl ⟨by rfl, ?_⟩) ?_ ?_
    rotate_left
    ·intro w'
     go_simp
     with_reducible rfl
    rotate_left
    ·simp only [Act.put,qs1,qs2,qs3,qAH,qAI]
     rfl
    refine qAL (i:=11) (N:=some 21) (v := ?_) (a' := ?_) #[qT,qT,qT,qT,qT,qT,qT,qT,qT,qT,qT,qT,qF,qF,qF,qF] rfl rfl (by kernel_rfl) (fun _ _ _ h=>h) (Or.inl ⟨by rfl, ?_⟩) ?_ ?_
    rotate_left
    ·intro w'
     go_simp
     with_reducible rfl
    rotate_left
    ·simp only [Act.put,qs1,qs2,qs3,qAH,qAI]
     rfl
    refine qAL (i:=12) (N:=some 22) (v := ?_) (a' := ?_) #[qT,qT,qT,qT,qT,qT,qT,qT,qT,qT,qT,qT,qT,qF,qF,qF] rfl rfl (by kernel_rfl) (fun _ _ _ h=>h) (Or.inl ⟨by rfl, ?_⟩) ?_ ?_
    rotate_left
    ·intro w'
     go_simp
     with_reducible rfl
    rotate_left
    ·simp only [Act.put,qs1,qs2,qs3,qAH,qAI]
     rfl
    refine qAL (i:=13) (N:=some 4) (v := ?_) (a' := ?_) #[qT,qT,qT,qT,qT,qT,qT,qT,qT,qT,qT,qT,qT,qT,qF,qF] rfl rfl (by kernel_rfl) (fun _ _ _ h=>h) (Or.inl ⟨by rfl, ?_⟩) ?_ ?_
    rotate_left
    ·intro w'
     go_simp
     with_reducible rfl
    rotate_left
    ·simp only [Act.put,qs1,qs2,qs3,qAH,qAI]
     rfl
    refine qAL (i:=14) (N:=some 5) (v := ?_) (a' := ?_) #[qT,qT,qT,qT,qT,qT,qT,qT,qT,qT,qT,qT,qT,qT,qT,qF] rfl rfl (by kernel_rfl) (fun _ _ _ h=>h) (Or.inl ⟨by rfl, ?_⟩) ?_ ?_
    rotate_left
    ·intro w'
     go_simp
     with_reducible rfl
    rotate_left
    ·simp only [Act.put,qs1,qs2,qs3,qAH,qAI]
     rfl
    refine qAL (i:=15) (N:=some 6) (v := ?_) (a' := ?_) #[qT,qT,qT,qT,qT,qT,qT,qT,qT,qT,qT,qT,qT,qT,qT,qT] rfl rfl (by kernel_rfl) (fun _ _ _ h=>h) (Or.inl ⟨by rfl, ?_⟩) ?_ ?_
    rotate_left
    ·intro w'
     go_simp
     with_reducible rfl
    rotate_left
    ·simp only [Act.put,qs1,qs2,qs3,qAH,qAI]
     rfl
    refine qBP (by kernel_rfl) ?_
    go_wp2
    obtain ⟨ad,a4_,b4_,a5_,b5_,eA,h0,_⟩:=HAT.out w2.drew (Kd.R_reads' (Kd.qA7 O2.out)).2.2;subst eA;rw [Int.toNat_natCast] at h0
    refine qAz (n:=28) (S:=fun w'=>w'.cell? ⟨g,3,none⟩=some (.slice (some ad) (k+1) cl)∧w'.cell? (ad.add (k * 6))=some (.string y.f0)) (ds:=[]) #[qF,qF,qF,qF,qF,qF,qF,qF,qF,qF,qF,qF,qF,qF,qF,qF,qF,qF,qF,qF,qF,qF,qF,qF,qF,qF,qF,qF] (by kernel_rfl) rfl rfl ⟨(qAB (show w2.drew.heap[g]?=_ from R2.out) 3).trans rfl,h0⟩ (fun hHeld => ?_)
    generalize hwd:w2.drew=wd2 at hHeld ⊢
    have R2d:=qAA.mk (hwd▸R2.out.below (qAW (Below.refl _ _)))
    have W2d:=qAA.mk (hwd▸qAW W2.out)
    have O2d:=qAA.mk (hwd▸Kd.qA7 O2.out)
    have HG2d:=qAA.mk (show g < wd2.heap.size from hwd▸HG2.out)
    have HOB:=qAA.mk (fun k hk=>((Kd.qBg O2d.out).1 k hk).2.2.1)
    clear hwd
    refine qAL (i:=0) (N:=some 31) (v := ?_) (a' := ?_) #[qT,qF,qF,qF,qF,qF,qF,qF,qF,qF,qF,qF,qF,qF,qF,qF,qF,qF,qF,qF,qF,qF,qF,qF,qF,qF,qF,qF] rfl rfl (by kernel_rfl) (fun _ _ _ h=>h) (Or.inl ⟨by rfl, ?_⟩) ?_ ?_
    rotate_left
    ·intro w'
     go_simp
     with_reducible rfl
    rotate_left
    ·simp only [Act.put,qs1,qs2,qs3,qAH,qAI]
     rfl
    refine qAL (i:=1) (N:=some 32) (v := ?_) (a' := ?_) #[qT,qT,qF,qF,qF,qF,qF,qF,qF,qF,qF,qF,qF,qF,qF,qF,qF,qF,qF,qF,qF,qF,qF,qF,qF,qF,qF,qF] rfl rfl (by kernel_rfl) (fun _ _ _ h=>h) (Or.inl ⟨by rfl, ?_⟩) ?_ ?_
    rotate_left
    ·intro w'
     go_simp
     with_reducible rfl
    rotate_left
    ·simp only [Act.put,qs1,qs2,qs3,qAH,qAI]
     rfl
    refine qAL (i:=2) (N:=some 33) (v := ?_) (a' := ?_) #[qT,qT,qT,qF,qF,qF,qF,qF,qF,qF,qF,qF,qF,qF,qF,qF,qF,qF,qF,qF,qF,qF,qF,qF,qF,qF,qF,qF] rfl rfl (by kernel_rfl) (fun _ _ _ h=>h) (Or.inl ⟨by rfl, ?_⟩) ?_ ?_
    rotate_left
    ·intro w'
     go_simp
     with_reducible rfl
    rotate_left
    ·simp only [Act.put,qs1,qs2,qs3,qAH,qAI]
     rfl
    refine qAL (i:=3) (N:=some 34) (v := ?_) (a' := ?_) #[qT,qT,qT,qT,qF,qF,qF,qF,qF,qF,qF,qF,qF,qF,qF,qF,qF,qF,qF,qF,qF,qF,qF,qF,qF,qF,qF,qF] rfl rfl (by kernel_rfl) (fun _ _ _ h=>h) (Or.inl ⟨by rfl, ?_⟩) ?_ ?_
    rotate_left
    ·intro w'
     go_simp
     with_reducible rfl
    rotate_left
    ·simp only [Act.put,qs1,qs2,qs3,qAH,qAI]
     rfl
    refine qAL (i:=4) (N:=some 35) (v := ?_) (a' := ?_) #[qT,qT,qT,qT,qT,qF,qF,qF,qF,qF,qF,qF,qF,qF,qF,qF,qF,qF,qF,qF,qF,qF,qF,qF,qF,qF,qF,qF] rfl rfl (by kernel_rfl) (fun _ _ _ h=>h) (Or.inl ⟨by rfl, ?_⟩) ?_ ?_
    rotate_left
    ·intro w'
     go_simp
     with_reducible rfl
    rotate_left
    ·simp only [Act.put,qs1,qs2,qs3,qAH,qAI]
     rfl
    refine qAL (i:=5) (N:=some 36) (v := ?_) (a' := ?_) #[qT,qT,qT,qT,qT,qT,qF,qF,qF,qF,qF,qF,qF,qF,qF,qF,qF,qF,qF,qF,qF,qF,qF,qF,qF,qF,qF,qF] rfl rfl (by kernel_rfl) (fun _ _ _ h=>h) (Or.inl ⟨by rfl, ?_⟩) ?_ ?_
    rotate_left
    ·intro w'
     go_simp
     with_reducible rfl
    rotate_left
    ·simp only [Act.put,qs1,qs2,qs3,qAH,qAI]
     rfl
    refine qAt (i:=6) (N:=some 37) (v := ?_) (a' := ?_) #[qT,qT,qT,qT,qT,qT,qT,qF,qF,qF,qF,qF,qF,qF,qF,qF,qF,qF,qF,qF,qF,qF,qF,qF,qF,qF,qF,qF] rfl rfl (by kernel_rfl) (fun _ _ _ h=>h) (Or.inl ⟨by rfl, ?_⟩) hHeld ?_ ?_
    rotate_left
    ·rintro w' ⟨s0,s1⟩
     go_simp
     with_reducible rfl
    rotate_left
    ·simp only [Act.put,qs1,qs2,qs3,qAH,qAI]
     rfl
    refine qAL (i:=7) (N:=some 38) (v := ?_) (a' := ?_) #[qT,qT,qT,qT,qT,qT,qT,qT,qF,qF,qF,qF,qF,qF,qF,qF,qF,qF,qF,qF,qF,qF,qF,qF,qF,qF,qF,qF] rfl rfl (by kernel_rfl) (fun _ _ _ h=>h) (Or.inl ⟨by rfl, ?_⟩) ?_ ?_
    rotate_left
    ·intro w'
     go_simp
     with_reducible rfl
    rotate_left
    ·simp only [Act.put,qs1,qs2,qs3,qAH,qAI]
     rfl
    refine qAL (i:=8) (N:=some 39) (v := ?_) (a' := ?_) #[qT,qT,qT,qT,qT,qT,qT,qT,qT,qF,qF,qF,qF,qF,qF,qF,qF,qF,qF,qF,qF,qF,qF,qF,qF,qF,qF,qF] rfl rfl (by kernel_rfl) (fun _ _ _ h=>h) (Or.inl ⟨by rfl, ?_⟩) ?_ ?_
    rotate_left
    ·intro w'
     go_simp
     with_reducible rfl
    rotate_left
    ·simp only [Act.put,qs1,qs2,qs3,qAH,qAI]
     rfl
    refine qAL (i:=9) (N:=some 40) (v := ?_) (a' := ?_) #[qT,qT,qT,qT,qT,qT,qT,qT,qT,qT,qF,qF,qF,qF,qF,qF,qF,qF,qF,qF,qF,qF,qF,qF,qF,qF,qF,qF] rfl rfl (by kernel_rfl) (fun _ _ _ h=>h) (Or.inl ⟨by rfl, ?_⟩) ?_ ?_
    rotate_left
    ·intro w'
     go_simp
     with_reducible rfl
    rotate_left
    ·simp only [Act.put,qs1,qs2,qs3,qAH,qAI]
     rfl
    refine qAL (i:=10) (N:=some 41) (v := ?_) (a' := ?_) #[qT,qT,qT,qT,qT,qT,qT,qT,qT,qT,qT,qF,qF,qF,qF,qF,qF,qF,qF,qF,qF,qF,qF,qF,qF,qF,qF,qF] rfl rfl (by kernel_rfl) (fun _ _ _ h=>h) (Or.inl ⟨by rfl, ?_⟩) ?_ ?_
    rotate_left
    ·intro w'
     go_simp
     with_reducible rfl
    rotate_left
    ·simp only [Act.put,qs1,qs2,qs3,qAH,qAI]
     rfl
    refine qAL (i:=11) (N:=some 42) (v := ?_) (a' := ?_) #[qT,qT,qT,qT,qT,qT,qT,qT,qT,qT,qT,qT,qF,qF,qF,qF,qF,qF,qF,qF,qF,qF,qF,qF,qF,qF,qF,qF] rfl rfl (by kernel_rfl) (fun _ _ _ h=>h) (Or.inl ⟨by rfl, ?_⟩) ?_ ?_
    rotate_left
    ·intro w'
     go_simp
     with_reducible rfl
    rotate_left
    ·simp only [Act.put,qs1,qs2,qs3,qAH,qAI]
     rfl
    refine qAL (i:=12) (N:=some 43) (v := ?_) (a' := ?_) #[qT,qT,qT,qT,qT,qT,qT,qT,qT,qT,qT,qT,qT,qF,qF,qF,qF,qF,qF,qF,qF,qF,qF,qF,qF,qF,qF,qF] rfl rfl (by kernel_rfl) (fun _ _ _ h=>h) (Or.inl ⟨by rfl, ?_⟩) ?_ ?_
    rotate_left
    ·intro w'
     go_simp
     with_reducible rfl
    rotate_left
    ·simp only [Act.put,qs1,qs2,qs3,qAH,qAI]
     rfl
    refine qAL (i:=14) (N:=some 45) (v := ?_) (a' := ?_) #[qT,qT,qT,qT,qT,qT,qT,qT,qT,qT,qT,qT,qT,qF,qT,qF,qF,qF,qF,qF,qF,qF,qF,qF,qF,qF,qF,qF] rfl rfl (by kernel_rfl) (fun _ _ _ h=>h) (Or.inl ⟨by rfl, ?_⟩) ?_ ?_
    rotate_left
    ·intro w'
     go_simp
     with_reducible rfl
    rotate_left
    ·simp only [Act.put,qs1,qs2,qs3,qAH,qAI]
     rfl
    refine qAL (i:=15) (N:=some 46) (v := ?_) (a' := ?_) #[qT,qT,qT,qT,qT,qT,qT,qT,qT,qT,qT,qT,qT,qF,qT,qT,qF,qF,qF,qF,qF,qF,qF,qF,qF,qF,qF,qF] rfl rfl (by kernel_rfl) (fun _ _ _ h=>h) (Or.inl ⟨by rfl, ?_⟩) ?_ ?_
    rotate_left
    ·intro w'
     go_simp
     with_reducible rfl
    rotate_left
    ·simp only [Act.put,qs1,qs2,qs3,qAH,qAI]
     rfl
    refine qAL (i:=16) (N:=some 47) (v := ?_) (a' := ?_) #[qT,qT,qT,qT,qT,qT,qT,qT,qT,qT,qT,qT,qT,qF,qT,qT,qT,qF,qF,qF,qF,qF,qF,qF,qF,qF,qF,qF] rfl rfl (by kernel_rfl) (fun _ _ _ h=>h) (Or.inl ⟨by rfl, ?_⟩) ?_ ?_
    rotate_left
    ·intro w'
     go_simp
     with_reducible rfl
    rotate_left
    ·simp only [Act.put,qs1,qs2,qs3,qAH,qAI]
     rfl
    refine qAL (i:=23) (N:=some 54) (v := ?_) (a' := ?_) #[qT,qT,qT,qT,qT,qT,qT,qT,qT,qT,qT,qT,qT,qF,qT,qT,qT,qF,qF,qF,qF,qF,qF,qT,qF,qF,qF,qF] rfl rfl (by kernel_rfl) (fun _ _ _ h=>h) (Or.inl ⟨by rfl, ?_⟩) ?_ ?_
    rotate_left
    ·intro w'
     go_simp
     with_reducible rfl
    rotate_left
    ·simp only [Act.put,qs1,qs2,qs3,qAH,qAI]
     rfl
    refine qAt (i:=13) (N:=some 44) (v := ?_) (a' := ?_) #[qT,qT,qT,qT,qT,qT,qT,qT,qT,qT,qT,qT,qT,qT,qT,qT,qT,qF,qF,qF,qF,qF,qF,qT,qF,qF,qF,qF] rfl rfl (by kernel_rfl) (fun _ _ _ h=>h) (Or.inl ⟨by rfl, ?_⟩) hHeld ?_ ?_
    rotate_left
    ·rintro w' ⟨s0,s1⟩
     go_simp
     with_reducible rfl
    rotate_left
    ·simp only [Act.put,qs1,qs2,qs3,qAH,qAI]
     rfl
    refine qAt (i:=17) (N:=some 48) (v := ?_) (a' := ?_) #[qT,qT,qT,qT,qT,qT,qT,qT,qT,qT,qT,qT,qT,qT,qT,qT,qT,qT,qF,qF,qF,qF,qF,qT,qF,qF,qF,qF] rfl rfl (by kernel_rfl) (fun _ _ _ h=>h) (Or.inl ⟨by rfl, ?_⟩) hHeld ?_ ?_
    rotate_left
    ·rintro w' ⟨s0,s1⟩
     go_simp
     with_reducible rfl
    rotate_left
    ·simp only [Act.put,qs1,qs2,qs3,qAH,qAI]
     rfl
    refine qAL (i:=18) (N:=some 49) (v := ?_) (a' := ?_) #[qT,qT,qT,qT,qT,qT,qT,qT,qT,qT,qT,qT,qT,qT,qT,qT,qT,qT,qT,qF,qF,qF,qF,qT,qF,qF,qF,qF] rfl rfl (by kernel_rfl) (fun _ _ _ h=>h) (Or.inl ⟨by rfl, ?_⟩) ?_ ?_
    rotate_left
    ·intro w'
     go_simp
     with_reducible rfl
    rotate_left
    ·simp only [Act.put,qs1,qs2,qs3,qAH,qAI]
     rfl
    refine qAL (i:=19) (N:=some 50) (v := ?_) (a' := ?_) #[qT,qT,qT,qT,qT,qT,qT,qT,qT,qT,qT,qT,qT,qT,qT,qT,qT,qT,qT,qT,qF,qF,qF,qT,qF,qF,qF,qF] rfl rfl (by kernel_rfl) (fun _ _ _ h=>h) (Or.inl ⟨by rfl, ?_⟩) ?_ ?_
    rotate_left
    ·intro w'
     go_simp
     with_reducible rfl
    rotate_left
    ·simp only [Act.put,qs1,qs2,qs3,qAH,qAI]
     rfl
    refine qAL (i:=20) (N:=some 51) (v := ?_) (a' := ?_) #[qT,qT,qT,qT,qT,qT,qT,qT,qT,qT,qT,qT,qT,qT,qT,qT,qT,qT,qT,qT,qT,qF,qF,qT,qF,qF,qF,qF] rfl rfl (by kernel_rfl) (fun _ _ _ h=>h) (Or.inl ⟨by rfl, ?_⟩) ?_ ?_
    rotate_left
    ·intro w'
     go_simp
     with_reducible rfl
    rotate_left
    ·simp only [Act.put,qs1,qs2,qs3,qAH,qAI]
     rfl
    refine qAL (i:=21) (N:=some 52) (v := ?_) (a' := ?_) #[qT,qT,qT,qT,qT,qT,qT,qT,qT,qT,qT,qT,qT,qT,qT,qT,qT,qT,qT,qT,qT,qT,qF,qT,qF,qF,qF,qF] rfl rfl (by kernel_rfl) (fun _ _ _ h=>h) (Or.inl ⟨by rfl, ?_⟩) ?_ ?_
    rotate_left
    ·intro w'
     go_simp
     with_reducible rfl
    rotate_left
    ·simp only [Act.put,qs1,qs2,qs3,qAH,qAI]
     rfl
    refine qAt (i:=22) (N:=some 53) (v := ?_) (a' := ?_) #[qT,qT,qT,qT,qT,qT,qT,qT,qT,qT,qT,qT,qT,qT,qT,qT,qT,qT,qT,qT,qT,qT,qT,qT,qF,qF,qF,qF] rfl rfl (by kernel_rfl) (fun _ _ _ h=>h) (Or.inl ⟨by rfl, ?_⟩) hHeld ?_ ?_
    rotate_left
    ·rintro w' ⟨s0,s1⟩
     go_simp
     with_reducible rfl
    rotate_left
    ·simp only [Act.put,qs1,qs2,qs3,qAH,qAI]
     rfl
    refine qAL (i:=24) (N:=some 55) (v := ?_) (a' := ?_) #[qT,qT,qT,qT,qT,qT,qT,qT,qT,qT,qT,qT,qT,qT,qT,qT,qT,qT,qT,qT,qT,qT,qT,qT,qT,qF,qF,qF] rfl rfl (by kernel_rfl) (fun _ _ _ h=>h) (Or.inl ⟨by rfl, ?_⟩) ?_ ?_
    rotate_left
    ·intro w'
     go_simp
     with_reducible rfl
    rotate_left
    ·simp only [Act.put,qs1,qs2,qs3,qAH,qAI]
     rfl
    refine qAL (i:=25) (N:=some 56) (v := ?_) (a' := ?_) #[qT,qT,qT,qT,qT,qT,qT,qT,qT,qT,qT,qT,qT,qT,qT,qT,qT,qT,qT,qT,qT,qT,qT,qT,qT,qT,qF,qF] rfl rfl (by kernel_rfl) (fun _ _ _ h=>h) (Or.inl ⟨by rfl, ?_⟩) ?_ ?_
    rotate_left
    ·intro w'
     go_simp
     with_reducible rfl
    rotate_left
    ·simp only [Act.put,qs1,qs2,qs3,qAH,qAI]
     rfl
    refine qAL (i:=26) (N:=some 57) (v := ?_) (a' := ?_) #[qT,qT,qT,qT,qT,qT,qT,qT,qT,qT,qT,qT,qT,qT,qT,qT,qT,qT,qT,qT,qT,qT,qT,qT,qT,qT,qT,qF] rfl rfl (by kernel_rfl) (fun _ _ _ h=>h) (Or.inl ⟨by rfl, ?_⟩) ?_ ?_
    rotate_left
    ·intro w'
     go_simp
     with_reducible rfl
    rotate_left
    ·simp only [Act.put,qs1,qs2,qs3,qAH,qAI]
     rfl
    refine qAL (i:=27) (N:=some 30) (v := ?_) (a' := ?_) #[qT,qT,qT,qT,qT,qT,qT,qT,qT,qT,qT,qT,qT,qT,qT,qT,qT,qT,qT,qT,qT,qT,qT,qT,qT,qT,qT,qT] rfl rfl (by kernel_rfl) (fun _ _ _ h=>h) (Or.inl ⟨by rfl, ?_⟩) ?_ ?_
    rotate_left
    ·intro w'
     go_simp
     with_reducible rfl
    rotate_left
    ·simp only [Act.put,qs1,qs2,qs3,qAH,qAI]
     rfl
    refine qBP (by kernel_rfl) ?_
    have z0:wd2.cell? ⟨g,0,none⟩=some (.slice B bs.length cb):=(qAB R2d.out 0).trans rfl
    go_wp2_with (first | (go_at_call 61;refine (TKO.out _ W2d.out).mono ?_;rintro e_ w3 ⟨v3,v4,rfl,h3,h4,hb⟩;obtain ⟨A3,c3,e3,l3,C3⟩:=h3.C 8;obtain ⟨A4,c4,e4,l4,C4⟩:=h4.C;subst e3;subst e4;have KT3:=qAA.mk (sa.kt_got2 W2d.out.size h3 h4);have HS3:=qAA.mk hb.size;have K3:=qAA.mk C3;have K4:=qAA.mk C4;have L3:=qAA.mk l3;have L4:=qAA.mk l4;have W3:=qAA.mk (qAg W2d.out W2d.out.size hb);have R3:=qAA.mk (R2d.out.below hb);have O3:=qAA.mk (Kd.qA2 O2d.out hb);clear hb h3 h4 C3 C4 l3 l4 z0))
    have B5:=qAA.mk (show Below w3.heap.size w3 ((w3.alloc (.cells #[.int .i64 x.f0,.int .i64 x.f1,.string x.f2,.slice A3 x.f3.length c3,.slice A4 x.f4.length c4] 34)).alloc (.cells #[.string s,.int .i64 x.f0,.int .i64 x.f1,.string x.f2,.slice A3 x.f3.length c3,.slice A4 x.f4.length c4] 51)) from qAF (qAF (Below.refl _ _) _) _)
    have X5:=qAA.mk (show ((w3.alloc (.cells #[.int .i64 x.f0,.int .i64 x.f1,.string x.f2,.slice A3 x.f3.length c3,.slice A4 x.f4.length c4] 34)).alloc (.cells #[.string s,.int .i64 x.f0,.int .i64 x.f1,.string x.f2,.slice A3 x.f3.length c3,.slice A4 x.f4.length c4] 51)).heap[w3.heap.size+1]?=some (.cells #[.string s,.int .i64 x.f0,.int .i64 x.f1,.string x.f2,.slice A3 x.f3.length c3,.slice A4 x.f4.length c4] 51 (0,0)) from by simpa using heap_alloc_new (w3.alloc (.cells #[.int .i64 x.f0,.int .i64 x.f1,.string x.f2,.slice A3 x.f3.length c3,.slice A4 x.f4.length c4] 34)) (.cells #[.string s,.int .i64 x.f0,.int .i64 x.f1,.string x.f2,.slice A3 x.f3.length c3,.slice A4 x.f4.length c4] 51))
    generalize (w3.alloc (.cells #[.int .i64 x.f0,.int .i64 x.f1,.string x.f2,.slice A3 x.f3.length c3,.slice A4 x.f4.length c4] 34)).alloc (.cells #[.string s,.int .i64 x.f0,.int .i64 x.f1,.string x.f2,.slice A3 x.f3.length c3,.slice A4 x.f4.length c4] 51)=w5 at *
    have W5:=qAA.mk (qAg W3.out W3.out.size B5.out)
    have R5:=qAA.mk (R3.out.below B5.out)
    have Q5:=qAA.mk (Kd.qA2 O3.out B5.out)
    have KT5:=qAA.mk (Kd.qBh KT3.out B5.out)
    have J3:=qAA.mk (Kd.qAa K3.out B5.out)
    have J4:=qAA.mk (Kd.qAa K4.out B5.out)
    have HGX:=qAA.mk (show w3.heap.size+1 ≠ g from by have:=HG2d.out;have:=HS3.out;omega)
    have HGX2:=qAA.mk (show wd2.heap.size≤w3.heap.size+1 from by have:=HS3.out;omega)
    generalize w3.heap.size+1=gx at *
    clear K3 K4 R3 O3 KT3 B5 HS3 W3
    refine qAz (n:=10) (S:=fun w'=>w'.cell? ⟨g,2,none⟩=some (.int .i64 all)∧w'.cell? ⟨gx,0,none⟩=some (.string s)∧w'.cell? ⟨gx,1,none⟩=some (.int .i64 x.f0)∧w'.cell? ⟨gx,2,none⟩=some (.int .i64 x.f1)∧w'.cell? ⟨gx,3,none⟩=some (.string x.f2)∧w'.cell? ⟨gx,4,none⟩=some (.slice A3 x.f3.length c3)∧w'.cell? ⟨gx,5,none⟩=some (.slice A4 x.f4.length c4)) (ds:=[9]) #[qF,qF,qF,qF,qF,qF,qF,qF,qF,qF] (by kernel_rfl) rfl rfl ⟨(qAB (show w5.drew.heap[g]?=_ from R5.out) 2).trans rfl,(qAB (qAO X5.out) 0).trans rfl,(qAB (qAO X5.out) 1).trans rfl,(qAB (qAO X5.out) 2).trans rfl,(qAB (qAO X5.out) 3).trans rfl,(qAB (qAO X5.out) 4).trans rfl,(qAB (qAO X5.out) 5).trans rfl⟩ (fun hHeld => ?_)
    generalize hwd:w5.drew=wd5 at hHeld ⊢
    have R6:=qAA.mk (hwd▸R5.out.below (qAW (Below.refl _ _)))
    have W6:=qAA.mk (hwd▸qAW W5.out)
    have Q6:=qAA.mk (hwd▸Kd.qA7 Q5.out)
    have KT6:=qAA.mk (hwd▸Kd.qBh KT5.out (qAW (Below.refl _ _)))
    have X6:=qAA.mk (hwd▸qAO X5.out)
    have I3:=qAA.mk (hwd▸Kd.qAr J3.out)
    have I4:=qAA.mk (hwd▸Kd.qAr J4.out)
    clear hwd R5 W5 Q5 KT5 X5 J3 J4
    refine qAL (i:=0) (N:=some 78) (v := ?_) (a' := ?_) #[qT,qF,qF,qF,qF,qF,qF,qF,qF,qF] rfl rfl (by kernel_rfl) (fun _ _ _ h=>h) (Or.inl ⟨by rfl, ?_⟩) ?_ ?_
    rotate_left
    ·intro w'
     go_simp
     with_reducible rfl
    rotate_left
    ·simp only [Act.put,qs1,qs2,qs3,qAH,qAI]
     rfl
    refine qAL (i:=1) (N:=some 79) (v := ?_) (a' := ?_) #[qT,qT,qF,qF,qF,qF,qF,qF,qF,qF] rfl rfl (by kernel_rfl) (fun _ _ _ h=>h) (Or.inl ⟨by rfl, ?_⟩) ?_ ?_
    rotate_left
    ·intro w'
     go_simp
     with_reducible rfl
    rotate_left
    ·simp only [Act.put,qs1,qs2,qs3,qAH,qAI]
     rfl
    refine qAL (i:=2) (N:=some 80) (v := ?_) (a' := ?_) #[qT,qT,qT,qF,qF,qF,qF,qF,qF,qF] rfl rfl (by kernel_rfl) (fun _ _ _ h=>h) (Or.inl ⟨by rfl, ?_⟩) ?_ ?_
    rotate_left
    ·intro w'
     go_simp
     with_reducible rfl
    rotate_left
    ·simp only [Act.put,qs1,qs2,qs3,qAH,qAI]
     rfl
    refine qAt (i:=3) (N:=some 81) (v := ?_) (a' := ?_) #[qT,qT,qT,qT,qF,qF,qF,qF,qF,qF] rfl rfl (by kernel_rfl) (fun _ _ _ h=>h) (Or.inl ⟨by rfl, ?_⟩) hHeld ?_ ?_
    rotate_left
    ·rintro w' ⟨s0,s1,s2,s3,s4,s5,s6⟩
     go_simp
     with_reducible rfl
    rotate_left
    ·simp only [Act.put,qs1,qs2,qs3,qAH,qAI]
     rfl
    refine qAt (i:=4) (N:=some 82) (v := ?_) (a' := ?_) #[qT,qT,qT,qT,qT,qF,qF,qF,qF,qF] rfl rfl (by kernel_rfl) (fun _ _ _ h=>h) (Or.inl ⟨by rfl, ?_⟩) hHeld ?_ ?_
    rotate_left
    ·rintro w' ⟨s0,s1,s2,s3,s4,s5,s6⟩
     go_simp
     with_reducible rfl
    rotate_left
    ·simp only [Act.put,qs1,qs2,qs3,qAH,qAI]
     rfl
    refine one_ (i:=5) (N:=some 83) #[qT,qT,qT,qT,qT,qT,qF,qF,qF,qF] rfl rfl (by kernel_rfl) (by decide) (fun K hK => ?_)
    refine qBf Try.func49 (by kernel_rfl) rfl #[.agg #[.string s,.int .i64 x.f0,.int .i64 x.f1,.string x.f2,.slice A3 x.f3.length c3,.slice A4 x.f4.length c4]] (by rfl) rfl rfl (by (try simp only [List.map_toArray,List.map_cons,List.map_nil]);first | done | rfl) ?_
    refine (qAs.calls KH s x.f0 x.f1 x.f2 A3 c3 x.f3 A4 c4 x.f4 hw wd5 I3.out L3.out I4.out L4.out HKH.out).mono ?_
    rintro e w7 ⟨rfl,hb⟩
    refine ⟨_,rfl, ?_⟩
    have R7:=qAA.mk (R6.out.below hb)
    have W7:=qAA.mk (qAg W6.out W6.out.size hb)
    have Q7:=qAA.mk (Kd.qA2 Q6.out hb)
    have KT7:=qAA.mk (Kd.qBh KT6.out hb)
    have X7:=qAA.mk (qAb X6.out hb)
    clear hb
    have s2:=(qAB R7.out 2).trans rfl
    have s2f:=qAC R7.out 2
    refine hK.out _ _ ⟨(qAB R7.out 2).trans rfl,(qAB X7.out 0).trans rfl,(qAB X7.out 1).trans rfl,(qAB X7.out 2).trans rfl,(qAB X7.out 3).trans rfl,(qAB X7.out 4).trans rfl,(qAB X7.out 5).trans rfl⟩ (fun hHeld => ?_)
    clear hK K
    refine qBH (a' := ?_) ?_ ?_
    rotate_left
    ·show Act.put _ (some 83) _=_
     simp only [Act.put,qs1,qs2,qs3,qAH,qAI]
     rfl
    refine qAL (i:=6) (N:=some 84) (v := ?_) (a' := ?_) #[qT,qT,qT,qT,qT,qT,qT,qF,qF,qF] rfl rfl (by kernel_rfl) (fun _ _ _ h=>h) (Or.inl ⟨by rfl, ?_⟩) ?_ ?_
    rotate_left
    ·intro w'
     go_simp
     with_reducible rfl
    rotate_left
    ·simp only [Act.put,qs1,qs2,qs3,qAH,qAI]
     rfl
    refine qAL (i:=7) (N:=some 85) (v := ?_) (a' := ?_) #[qT,qT,qT,qT,qT,qT,qT,qT,qF,qF] rfl rfl (by kernel_rfl) (fun _ _ _ h=>h) (Or.inl ⟨by rfl, ?_⟩) ?_ ?_
    rotate_left
    ·intro w'
     go_simp
     with_reducible rfl
    rotate_left
    ·simp only [Act.put,qs1,qs2,qs3,qAH,qAI]
     rfl
    refine qAL (i:=8) (N:=some 86) (v := ?_) (a' := ?_) #[qT,qT,qT,qT,qT,qT,qT,qT,qT,qF] rfl rfl (by kernel_rfl) (fun _ _ _ h=>h) (Or.inl ⟨by rfl, ?_⟩) ?_ ?_
    rotate_left
    ·intro w'
     go_simp
     with_reducible rfl
    rotate_left
    ·simp only [Act.put,qs1,qs2,qs3,qAH,qAI]
     rfl
    refine last_ (i:=9) (N:=none) #[qT,qT,qT,qT,qT,qT,qT,qT,qT,qT] rfl rfl (by kernel_rfl) (by decide) (fun K hK => ?_)
    refine skip_ (w1 := ?_) (by rfl) rfl ?_ ?_
    rotate_left
    ·go_simp
     rfl
    clear s2 s2f
    refine hK.out _ _ ?_
    clear hK K
    refine qBP (by kernel_rfl) ?_
    have R8:=qAA.mk (show sa.RB7 (w7.setCell ⟨g,2,none⟩ (.int .i64 (all+hw))) g B bs.length cb at_ (all+hw) (.slice (some ad) (k+1) cl) from qAx R7.out 2 _ rfl)
    have W8:=qAA.mk (show Below w0.heap.size w0 (w7.setCell ⟨g,2,none⟩ (.int .i64 (all+hw))) from qAP W7.out HG.out)
    have Q8:=qAA.mk (Kd.R_far Q7.out (p:=⟨g,2,none⟩) (fun k hk=>hk) (.int .i64 (all+hw)))
    have KT8:=qAA.mk (Kd.M_far KT7.out (p:=⟨g,2,none⟩) (fun k hk=>by have:=HG2d.out;dsimp only;omega) (.int .i64 (all+hw)))
    have X8:=qAA.mk ((Below.heap_setCell w7 ⟨g,2,none⟩ (.int .i64 (all+hw)) gx HGX.out).trans X7.out)
    generalize w7.setCell ⟨g,2,none⟩ (.int .i64 (all+hw))=w8 at *
    have z2:w8.cell? ⟨g,2,none⟩=some (.int .i64 (all+hw)):=(qAB R8.out 2).trans rfl
    have z1:w8.cell? ⟨g,1,none⟩=some (.int .i64 at_):=(qAB R8.out 1).trans rfl
    go_wp2
    go_ret2
    exact ⟨rfl,W8.out⟩
   case neg =>
    rw [if_neg hbig]
    have d1:decide (all+hw > 32768)=false:=decide_eq_false (by omega)
    have d2:decide (32768 < all+hw)=false:=decide_eq_false (by omega)
    have HBG:=qAA.mk hbig
    clear hbig hhv
    go_enter Try.func41,Try.ntmps41
    go_wp2
    refine qAz (n:=16) (S:=fun w'=>w'.cell? ⟨g,0,none⟩=some (.slice B bs.length cb)∧w'.cell? ⟨g,1,none⟩=some (.int .i64 at_)) (ds:=[]) #[qF,qF,qF,qF,qF,qF,qF,qF,qF,qF,qF,qF,qF,qF,qF,qF] (by kernel_rfl) rfl rfl ⟨(qAB (show w.drew.heap[g]?=_ from HR.out) 0).trans rfl,(qAB (show w.drew.heap[g]?=_ from HR.out) 1).trans rfl⟩ (fun hHeld => ?_)
    generalize hwd:w.drew=wd at hHeld ⊢
    have Rd:=qAA.mk (hwd▸HR.out.below (qAW (Below.refl _ _)))
    have Wd:=qAA.mk (hwd▸qAW HW.out)
    have Od:=qAA.mk (hwd▸Kd.qA7 HO.out)
    have HGd:=qAA.mk (show g < wd.heap.size from hwd▸HGW.out)
    clear hwd
    refine qAL (i:=0) (N:=some 11) (v := ?_) (a' := ?_) #[qT,qF,qF,qF,qF,qF,qF,qF,qF,qF,qF,qF,qF,qF,qF,qF] rfl rfl (by kernel_rfl) (fun _ _ _ h=>h) (Or.inl ⟨by rfl, ?_⟩) ?_ ?_
    rotate_left
    ·intro w'
     go_simp
     with_reducible rfl
    rotate_left
    ·simp only [Act.put,qs1,qs2,qs3,qAH,qAI]
     rfl
    refine qAL (i:=1) (N:=some 12) (v := ?_) (a' := ?_) #[qT,qT,qF,qF,qF,qF,qF,qF,qF,qF,qF,qF,qF,qF,qF,qF] rfl rfl (by kernel_rfl) (fun _ _ _ h=>h) (Or.inl ⟨by rfl, ?_⟩) ?_ ?_
    rotate_left
    ·intro w'
     go_simp
     with_reducible rfl
    rotate_left
    ·simp only [Act.put,qs1,qs2,qs3,qAH,qAI]
     rfl
    refine qAL (i:=2) (N:=some 13) (v := ?_) (a' := ?_) #[qT,qT,qT,qF,qF,qF,qF,qF,qF,qF,qF,qF,qF,qF,qF,qF] rfl rfl (by kernel_rfl) (fun _ _ _ h=>h) (Or.inl ⟨by rfl, ?_⟩) ?_ ?_
    rotate_left
    ·intro w'
     go_simp
     with_reducible rfl
    rotate_left
    ·simp only [Act.put,qs1,qs2,qs3,qAH,qAI]
     rfl
    refine qAL (i:=4) (N:=some 15) (v := ?_) (a' := ?_) #[qT,qT,qT,qF,qT,qF,qF,qF,qF,qF,qF,qF,qF,qF,qF,qF] rfl rfl (by kernel_rfl) (fun _ _ _ h=>h) (Or.inl ⟨by rfl, ?_⟩) ?_ ?_
    rotate_left
    ·intro w'
     go_simp
     with_reducible rfl
    rotate_left
    ·simp only [Act.put,qs1,qs2,qs3,qAH,qAI]
     rfl
    refine qAL (i:=5) (N:=some 16) (v := ?_) (a' := ?_) #[qT,qT,qT,qF,qT,qT,qF,qF,qF,qF,qF,qF,qF,qF,qF,qF] rfl rfl (by kernel_rfl) (fun _ _ _ h=>h) (Or.inl ⟨by rfl, ?_⟩) ?_ ?_
    rotate_left
    ·intro w'
     go_simp
     with_reducible rfl
    rotate_left
    ·simp only [Act.put,qs1,qs2,qs3,qAH,qAI]
     rfl
    refine qAL (i:=6) (N:=some 17) (v := ?_) (a' := ?_) #[qT,qT,qT,qF,qT,qT,qT,qF,qF,qF,qF,qF,qF,qF,qF,qF] rfl rfl (by kernel_rfl) (fun _ _ _ h=>h) (Or.inl ⟨by rfl, ?_⟩) ?_ ?_
    rotate_left
    ·intro w'
     go_simp
     with_reducible rfl
    rotate_left
    ·simp only [Act.put,qs1,qs2,qs3,qAH,qAI]
     rfl
    refine qAt (i:=3) (N:=some 14) (v := ?_) (a' := ?_) #[qT,qT,qT,qT,qT,qT,qT,qF,qF,qF,qF,qF,qF,qF,qF,qF] rfl rfl (by kernel_rfl) (fun _ _ _ h=>h) (Or.inl ⟨by rfl, ?_⟩) hHeld ?_ ?_
    rotate_left
    ·rintro w' ⟨s0,s1⟩
     go_simp
     with_reducible rfl
    rotate_left
    ·simp only [Act.put,qs1,qs2,qs3,qAH,qAI]
     rfl
    refine qAt (i:=7) (N:=some 18) (v := ?_) (a' := ?_) #[qT,qT,qT,qT,qT,qT,qT,qT,qF,qF,qF,qF,qF,qF,qF,qF] rfl rfl (by kernel_rfl) (fun _ _ _ h=>h) (Or.inl ⟨by rfl, ?_⟩) hHeld ?_ ?_
    rotate_left
    ·rintro w' ⟨s0,s1⟩
     go_simp
     with_reducible rfl
    rotate_left
    ·simp only [Act.put,qs1,qs2,qs3,qAH,qAI]
     rfl
    refine one_ (i:=8) (N:=some 19) #[qT,qT,qT,qT,qT,qT,qT,qT,qT,qF,qF,qF,qF,qF,qF,qF] rfl rfl (by kernel_rfl) (by decide) (fun K hK => ?_)
    refine qBf Try.func60 (by kernel_rfl) rfl #[.slice B bs.length cb,.int .i64 at_,.int .i64 32] (by rfl) rfl rfl (by (try simp only [List.map_toArray,List.map_cons,List.map_nil]);first | done | rfl) ?_
    refine (TX.out wd Wd.out).mono ?_
    rintro e w2 ⟨rfl,hb⟩
    refine ⟨_,rfl, ?_⟩
    have R2:=qAA.mk (Rd.out.below hb.below)
    have W2:=qAA.mk (qAg Wd.out Wd.out.size hb.below)
    have O2:=qAA.mk (Kd.qA2 Od.out hb.below)
    have HG2:=qAA.mk (Nat.lt_of_lt_of_le HGd.out hb.below.size)
    clear hb
    refine hK.out _ _ ⟨(qAB R2.out 0).trans rfl,(qAB R2.out 1).trans rfl⟩ (fun hHeld => ?_)
    clear hK K
    refine qBH (a' := ?_) ?_ ?_
    rotate_left
    ·show Act.put _ (some 19) _=_
     simp only [Act.put,qs1,qs2,qs3,qAH,qAI]
     rfl
    refine qAL (i:=9) (N:=some 10) (v := ?_) (a' := ?_) #[qT,qT,qT,qT,qT,qT,qT,qT,qT,qT,qF,qF,qF,qF,qF,qF] rfl rfl (by kernel_rfl) (fun _ _ _ h=>h) (Or.inl ⟨by rfl, ?_⟩) ?_ ?_
    rotate_left
    ·intro w'
     go_simp
     with_reducible rfl
    rotate_left
    ·simp only [Act.put,qs1,qs2,qs3,qAH,qAI]
     rfl
    refine qAL (i:=10) (N:=some 20) (v := ?_) (a' := ?_) #[qT,qT,qT,qT,qT,qT,qT,qT,qT,qT,qT,qF,qF,qF,qF,qF] rfl rfl (by kernel_rfl) (fun _ _ _ h=>h) (Or.inl ⟨by rfl, ?_⟩) ?_ ?_
    rotate_left
    ·intro w'
     go_simp
     with_reducible rfl
    rotate_left
    ·simp only [Act.put,qs1,qs2,qs3,qAH,qAI]
     rfl
    refine qAL (i:=11) (N:=some 21) (v := ?_) (a' := ?_) #[qT,qT,qT,qT,qT,qT,qT,qT,qT,qT,qT,qT,qF,qF,qF,qF] rfl rfl (by kernel_rfl) (fun _ _ _ h=>h) (Or.inl ⟨by rfl, ?_⟩) ?_ ?_
    rotate_left
    ·intro w'
     go_simp
     with_reducible rfl
    rotate_left
    ·simp only [Act.put,qs1,qs2,qs3,qAH,qAI]
     rfl
    refine qAL (i:=12) (N:=some 22) (v := ?_) (a' := ?_) #[qT,qT,qT,qT,qT,qT,qT,qT,qT,qT,qT,qT,qT,qF,qF,qF] rfl rfl (by kernel_rfl) (fun _ _ _ h=>h) (Or.inl ⟨by rfl, ?_⟩) ?_ ?_
    rotate_left
    ·intro w'
     go_simp
     with_reducible rfl
    rotate_left
    ·simp only [Act.put,qs1,qs2,qs3,qAH,qAI]
     rfl
    refine qAL (i:=13) (N:=some 4) (v := ?_) (a' := ?_) #[qT,qT,qT,qT,qT,qT,qT,qT,qT,qT,qT,qT,qT,qT,qF,qF] rfl rfl (by kernel_rfl) (fun _ _ _ h=>h) (Or.inl ⟨by rfl, ?_⟩) ?_ ?_
    rotate_left
    ·intro w'
     go_simp
     with_reducible rfl
    rotate_left
    ·simp only [Act.put,qs1,qs2,qs3,qAH,qAI]
     rfl
    refine qAL (i:=14) (N:=some 5) (v := ?_) (a' := ?_) #[qT,qT,qT,qT,qT,qT,qT,qT,qT,qT,qT,qT,qT,qT,qT,qF] rfl rfl (by kernel_rfl) (fun _ _ _ h=>h) (Or.inl ⟨by rfl, ?_⟩) ?_ ?_
    rotate_left
    ·intro w'
     go_simp
     with_reducible rfl
    rotate_left
    ·simp only [Act.put,qs1,qs2,qs3,qAH,qAI]
     rfl
    refine qAL (i:=15) (N:=some 6) (v := ?_) (a' := ?_) #[qT,qT,qT,qT,qT,qT,qT,qT,qT,qT,qT,qT,qT,qT,qT,qT] rfl rfl (by kernel_rfl) (fun _ _ _ h=>h) (Or.inl ⟨by rfl, ?_⟩) ?_ ?_
    rotate_left
    ·intro w'
     go_simp
     with_reducible rfl
    rotate_left
    ·simp only [Act.put,qs1,qs2,qs3,qAH,qAI]
     rfl
    refine qBP (by kernel_rfl) ?_
    go_wp2
    obtain ⟨ad,a4_,b4_,a5_,b5_,eA,h0,_⟩:=HAT.out w2.drew (Kd.R_reads' (Kd.qA7 O2.out)).2.2;subst eA;rw [Int.toNat_natCast] at h0
    refine qAz (n:=28) (S:=fun w'=>w'.cell? ⟨g,3,none⟩=some (.slice (some ad) (k+1) cl)∧w'.cell? (ad.add (k * 6))=some (.string y.f0)) (ds:=[]) #[qF,qF,qF,qF,qF,qF,qF,qF,qF,qF,qF,qF,qF,qF,qF,qF,qF,qF,qF,qF,qF,qF,qF,qF,qF,qF,qF,qF] (by kernel_rfl) rfl rfl ⟨(qAB (show w2.drew.heap[g]?=_ from R2.out) 3).trans rfl,h0⟩ (fun hHeld => ?_)
    generalize hwd:w2.drew=wd2 at hHeld ⊢
    have R2d:=qAA.mk (hwd▸R2.out.below (qAW (Below.refl _ _)))
    have W2d:=qAA.mk (hwd▸qAW W2.out)
    have O2d:=qAA.mk (hwd▸Kd.qA7 O2.out)
    have HG2d:=qAA.mk (show g < wd2.heap.size from hwd▸HG2.out)
    have HOB:=qAA.mk (fun k hk=>((Kd.qBg O2d.out).1 k hk).2.2.1)
    clear hwd
    refine qAL (i:=0) (N:=some 31) (v := ?_) (a' := ?_) #[qT,qF,qF,qF,qF,qF,qF,qF,qF,qF,qF,qF,qF,qF,qF,qF,qF,qF,qF,qF,qF,qF,qF,qF,qF,qF,qF,qF] rfl rfl (by kernel_rfl) (fun _ _ _ h=>h) (Or.inl ⟨by rfl, ?_⟩) ?_ ?_
    rotate_left
    ·intro w'
     go_simp
     with_reducible rfl
    rotate_left
    ·simp only [Act.put,qs1,qs2,qs3,qAH,qAI]
     rfl
    refine qAL (i:=1) (N:=some 32) (v := ?_) (a' := ?_) #[qT,qT,qF,qF,qF,qF,qF,qF,qF,qF,qF,qF,qF,qF,qF,qF,qF,qF,qF,qF,qF,qF,qF,qF,qF,qF,qF,qF] rfl rfl (by kernel_rfl) (fun _ _ _ h=>h) (Or.inl ⟨by rfl, ?_⟩) ?_ ?_
    rotate_left
    ·intro w'
     go_simp
     with_reducible rfl
    rotate_left
    ·simp only [Act.put,qs1,qs2,qs3,qAH,qAI]
     rfl
    refine qAL (i:=2) (N:=some 33) (v := ?_) (a' := ?_) #[qT,qT,qT,qF,qF,qF,qF,qF,qF,qF,qF,qF,qF,qF,qF,qF,qF,qF,qF,qF,qF,qF,qF,qF,qF,qF,qF,qF] rfl rfl (by kernel_rfl) (fun _ _ _ h=>h) (Or.inl ⟨by rfl, ?_⟩) ?_ ?_
    rotate_left
    ·intro w'
     go_simp
     with_reducible rfl
    rotate_left
    ·simp only [Act.put,qs1,qs2,qs3,qAH,qAI]
     rfl
    refine qAL (i:=3) (N:=some 34) (v := ?_) (a' := ?_) #[qT,qT,qT,qT,qF,qF,qF,qF,qF,qF,qF,qF,qF,qF,qF,qF,qF,qF,qF,qF,qF,qF,qF,qF,qF,qF,qF,qF] rfl rfl (by kernel_rfl) (fun _ _ _ h=>h) (Or.inl ⟨by rfl, ?_⟩) ?_ ?_
    rotate_left
    ·intro w'
     go_simp
     with_reducible rfl
    rotate_left
    ·simp only [Act.put,qs1,qs2,qs3,qAH,qAI]
     rfl
    refine qAL (i:=4) (N:=some 35) (v := ?_) (a' := ?_) #[qT,qT,qT,qT,qT,qF,qF,qF,qF,qF,qF,qF,qF,qF,qF,qF,qF,qF,qF,qF,qF,qF,qF,qF,qF,qF,qF,qF] rfl rfl (by kernel_rfl) (fun _ _ _ h=>h) (Or.inl ⟨by rfl, ?_⟩) ?_ ?_
    rotate_left
    ·intro w'
     go_simp
     with_reducible rfl
    rotate_left
    ·simp only [Act.put,qs1,qs2,qs3,qAH,qAI]
     rfl
    refine qAL (i:=5) (N:=some 36) (v := ?_) (a' := ?_) #[qT,qT,qT,qT,qT,qT,qF,qF,qF,qF,qF,qF,qF,qF,qF,qF,qF,qF,qF,qF,qF,qF,qF,qF,qF,qF,qF,qF] rfl rfl (by kernel_rfl) (fun _ _ _ h=>h) (Or.inl ⟨by rfl, ?_⟩) ?_ ?_
    rotate_left
    ·intro w'
     go_simp
     with_reducible rfl
    rotate_left
    ·simp only [Act.put,qs1,qs2,qs3,qAH,qAI]
     rfl
    refine qAt (i:=6) (N:=some 37) (v := ?_) (a' := ?_) #[qT,qT,qT,qT,qT,qT,qT,qF,qF,qF,qF,qF,qF,qF,qF,qF,qF,qF,qF,qF,qF,qF,qF,qF,qF,qF,qF,qF] rfl rfl (by kernel_rfl) (fun _ _ _ h=>h) (Or.inl ⟨by rfl, ?_⟩) hHeld ?_ ?_
    rotate_left
    ·rintro w' ⟨s0,s1⟩
     go_simp
     with_reducible rfl
    rotate_left
    ·simp only [Act.put,qs1,qs2,qs3,qAH,qAI]
     rfl
    refine qAL (i:=7) (N:=some 38) (v := ?_) (a' := ?_) #[qT,qT,qT,qT,qT,qT,qT,qT,qF,qF,qF,qF,qF,qF,qF,qF,qF,qF,qF,qF,qF,qF,qF,qF,qF,qF,qF,qF] rfl rfl (by kernel_rfl) (fun _ _ _ h=>h) (Or.inl ⟨by rfl, ?_⟩) ?_ ?_
    rotate_left
    ·intro w'
     go_simp
     with_reducible rfl
    rotate_left
    ·simp only [Act.put,qs1,qs2,qs3,qAH,qAI]
     rfl
    refine qAL (i:=8) (N:=some 39) (v := ?_) (a' := ?_) #[qT,qT,qT,qT,qT,qT,qT,qT,qT,qF,qF,qF,qF,qF,qF,qF,qF,qF,qF,qF,qF,qF,qF,qF,qF,qF,qF,qF] rfl rfl (by kernel_rfl) (fun _ _ _ h=>h) (Or.inl ⟨by rfl, ?_⟩) ?_ ?_
    rotate_left
    ·intro w'
     go_simp
     with_reducible rfl
    rotate_left
    ·simp only [Act.put,qs1,qs2,qs3,qAH,qAI]
     rfl
    refine qAL (i:=9) (N:=some 40) (v := ?_) (a' := ?_) #[qT,qT,qT,qT,qT,qT,qT,qT,qT,qT,qF,qF,qF,qF,qF,qF,qF,qF,qF,qF,qF,qF,qF,qF,qF,qF,qF,qF] rfl rfl (by kernel_rfl) (fun _ _ _ h=>h) (Or.inl ⟨by rfl, ?_⟩) ?_ ?_
    rotate_left
    ·intro w'
     go_simp
     with_reducible rfl
    rotate_left
    ·simp only [Act.put,qs1,qs2,qs3,qAH,qAI]
     rfl
    refine qAL (i:=10) (N:=some 41) (v := ?_) (a' := ?_) #[qT,qT,qT,qT,qT,qT,qT,qT,qT,qT,qT,qF,qF,qF,qF,qF,qF,qF,qF,qF,qF,qF,qF,qF,qF,qF,qF,qF] rfl rfl (by kernel_rfl) (fun _ _ _ h=>h) (Or.inl ⟨by rfl, ?_⟩) ?_ ?_
    rotate_left
    ·intro w'
     go_simp
     with_reducible rfl
    rotate_left
    ·simp only [Act.put,qs1,qs2,qs3,qAH,qAI]
     rfl
    refine qAL (i:=11) (N:=some 42) (v := ?_) (a' := ?_) #[qT,qT,qT,qT,qT,qT,qT,qT,qT,qT,qT,qT,qF,qF,qF,qF,qF,qF,qF,qF,qF,qF,qF,qF,qF,qF,qF,qF] rfl rfl (by kernel_rfl) (fun _ _ _ h=>h) (Or.inl ⟨by rfl, ?_⟩) ?_ ?_
    rotate_left
    ·intro w'
     go_simp
     with_reducible rfl
    rotate_left
    ·simp only [Act.put,qs1,qs2,qs3,qAH,qAI]
     rfl
    refine qAL (i:=12) (N:=some 43) (v := ?_) (a' := ?_) #[qT,qT,qT,qT,qT,qT,qT,qT,qT,qT,qT,qT,qT,qF,qF,qF,qF,qF,qF,qF,qF,qF,qF,qF,qF,qF,qF,qF] rfl rfl (by kernel_rfl) (fun _ _ _ h=>h) (Or.inl ⟨by rfl, ?_⟩) ?_ ?_
    rotate_left
    ·intro w'
     go_simp
     with_reducible rfl
    rotate_left
    ·simp only [Act.put,qs1,qs2,qs3,qAH,qAI]
     rfl
    refine qAL (i:=14) (N:=some 45) (v := ?_) (a' := ?_) #[qT,qT,qT,qT,qT,qT,qT,qT,qT,qT,qT,qT,qT,qF,qT,qF,qF,qF,qF,qF,qF,qF,qF,qF,qF,qF,qF,qF] rfl rfl (by kernel_rfl) (fun _ _ _ h=>h) (Or.inl ⟨by rfl, ?_⟩) ?_ ?_
    rotate_left
    ·intro w'
     go_simp
     with_reducible rfl
    rotate_left
    ·simp only [Act.put,qs1,qs2,qs3,qAH,qAI]
     rfl
    refine qAL (i:=15) (N:=some 46) (v := ?_) (a' := ?_) #[qT,qT,qT,qT,qT,qT,qT,qT,qT,qT,qT,qT,qT,qF,qT,qT,qF,qF,qF,qF,qF,qF,qF,qF,qF,qF,qF,qF] rfl rfl (by kernel_rfl) (fun _ _ _ h=>h) (Or.inl ⟨by rfl, ?_⟩) ?_ ?_
    rotate_left
    ·intro w'
     go_simp
     with_reducible rfl
    rotate_left
    ·simp only [Act.put,qs1,qs2,qs3,qAH,qAI]
     rfl
    refine qAL (i:=16) (N:=some 47) (v := ?_) (a' := ?_) #[qT,qT,qT,qT,qT,qT,qT,qT,qT,qT,qT,qT,qT,qF,qT,qT,qT,qF,qF,qF,qF,qF,qF,qF,qF,qF,qF,qF] rfl rfl (by kernel_rfl) (fun _ _ _ h=>h) (Or.inl ⟨by rfl, ?_⟩) ?_ ?_
    rotate_left
    ·intro w'
     go_simp
     with_reducible rfl
    rotate_left
    ·simp only [Act.put,qs1,qs2,qs3,qAH,qAI]
     rfl
    refine qAL (i:=23) (N:=some 54) (v := ?_) (a' := ?_) #[qT,qT,qT,qT,qT,qT,qT,qT,qT,qT,qT,qT,qT,qF,qT,qT,qT,qF,qF,qF,qF,qF,qF,qT,qF,qF,qF,qF] rfl rfl (by kernel_rfl) (fun _ _ _ h=>h) (Or.inl ⟨by rfl, ?_⟩) ?_ ?_
    rotate_left
    ·intro w'
     go_simp
     with_reducible rfl
    rotate_left
    ·simp only [Act.put,qs1,qs2,qs3,qAH,qAI]
     rfl
    refine qAt (i:=13) (N:=some 44) (v := ?_) (a' := ?_) #[qT,qT,qT,qT,qT,qT,qT,qT,qT,qT,qT,qT,qT,qT,qT,qT,qT,qF,qF,qF,qF,qF,qF,qT,qF,qF,qF,qF] rfl rfl (by kernel_rfl) (fun _ _ _ h=>h) (Or.inl ⟨by rfl, ?_⟩) hHeld ?_ ?_
    rotate_left
    ·rintro w' ⟨s0,s1⟩
     go_simp
     with_reducible rfl
    rotate_left
    ·simp only [Act.put,qs1,qs2,qs3,qAH,qAI]
     rfl
    refine qAt (i:=17) (N:=some 48) (v := ?_) (a' := ?_) #[qT,qT,qT,qT,qT,qT,qT,qT,qT,qT,qT,qT,qT,qT,qT,qT,qT,qT,qF,qF,qF,qF,qF,qT,qF,qF,qF,qF] rfl rfl (by kernel_rfl) (fun _ _ _ h=>h) (Or.inl ⟨by rfl, ?_⟩) hHeld ?_ ?_
    rotate_left
    ·rintro w' ⟨s0,s1⟩
     go_simp
     with_reducible rfl
    rotate_left
    ·simp only [Act.put,qs1,qs2,qs3,qAH,qAI]
     rfl
    refine qAL (i:=18) (N:=some 49) (v := ?_) (a' := ?_) #[qT,qT,qT,qT,qT,qT,qT,qT,qT,qT,qT,qT,qT,qT,qT,qT,qT,qT,qT,qF,qF,qF,qF,qT,qF,qF,qF,qF] rfl rfl (by kernel_rfl) (fun _ _ _ h=>h) (Or.inl ⟨by rfl, ?_⟩) ?_ ?_
    rotate_left
    ·intro w'
     go_simp
     with_reducible rfl
    rotate_left
    ·simp only [Act.put,qs1,qs2,qs3,qAH,qAI]
     rfl
    refine qAL (i:=19) (N:=some 50) (v := ?_) (a' := ?_) #[qT,qT,qT,qT,qT,qT,qT,qT,qT,qT,qT,qT,qT,qT,qT,qT,qT,qT,qT,qT,qF,qF,qF,qT,qF,qF,qF,qF] rfl rfl (by kernel_rfl) (fun _ _ _ h=>h) (Or.inl ⟨by rfl, ?_⟩) ?_ ?_
    rotate_left
    ·intro w'
     go_simp
     with_reducible rfl
    rotate_left
    ·simp only [Act.put,qs1,qs2,qs3,qAH,qAI]
     rfl
    refine qAL (i:=20) (N:=some 51) (v := ?_) (a' := ?_) #[qT,qT,qT,qT,qT,qT,qT,qT,qT,qT,qT,qT,qT,qT,qT,qT,qT,qT,qT,qT,qT,qF,qF,qT,qF,qF,qF,qF] rfl rfl (by kernel_rfl) (fun _ _ _ h=>h) (Or.inl ⟨by rfl, ?_⟩) ?_ ?_
    rotate_left
    ·intro w'
     go_simp
     with_reducible rfl
    rotate_left
    ·simp only [Act.put,qs1,qs2,qs3,qAH,qAI]
     rfl
    refine qAL (i:=21) (N:=some 52) (v := ?_) (a' := ?_) #[qT,qT,qT,qT,qT,qT,qT,qT,qT,qT,qT,qT,qT,qT,qT,qT,qT,qT,qT,qT,qT,qT,qF,qT,qF,qF,qF,qF] rfl rfl (by kernel_rfl) (fun _ _ _ h=>h) (Or.inl ⟨by rfl, ?_⟩) ?_ ?_
    rotate_left
    ·intro w'
     go_simp
     with_reducible rfl
    rotate_left
    ·simp only [Act.put,qs1,qs2,qs3,qAH,qAI]
     rfl
    refine qAt (i:=22) (N:=some 53) (v := ?_) (a' := ?_) #[qT,qT,qT,qT,qT,qT,qT,qT,qT,qT,qT,qT,qT,qT,qT,qT,qT,qT,qT,qT,qT,qT,qT,qT,qF,qF,qF,qF] rfl rfl (by kernel_rfl) (fun _ _ _ h=>h) (Or.inl ⟨by rfl, ?_⟩) hHeld ?_ ?_
    rotate_left
    ·rintro w' ⟨s0,s1⟩
     go_simp
     with_reducible rfl
    rotate_left
    ·simp only [Act.put,qs1,qs2,qs3,qAH,qAI]
     rfl
    refine qAL (i:=24) (N:=some 55) (v := ?_) (a' := ?_) #[qT,qT,qT,qT,qT,qT,qT,qT,qT,qT,qT,qT,qT,qT,qT,qT,qT,qT,qT,qT,qT,qT,qT,qT,qT,qF,qF,qF] rfl rfl (by kernel_rfl) (fun _ _ _ h=>h) (Or.inl ⟨by rfl, ?_⟩) ?_ ?_
    rotate_left
    ·intro w'
     go_simp
     with_reducible rfl
    rotate_left
    ·simp only [Act.put,qs1,qs2,qs3,qAH,qAI]
     rfl
    refine qAL (i:=25) (N:=some 56) (v := ?_) (a' := ?_) #[qT,qT,qT,qT,qT,qT,qT,qT,qT,qT,qT,qT,qT,qT,qT,qT,qT,qT,qT,qT,qT,qT,qT,qT,qT,qT,qF,qF] rfl rfl (by kernel_rfl) (fun _ _ _ h=>h) (Or.inl ⟨by rfl, ?_⟩) ?_ ?_
    rotate_left
    ·intro w'
     go_simp
     with_reducible rfl
    rotate_left
    ·simp only [Act.put,qs1,qs2,qs3,qAH,qAI]
     rfl
    refine qAL (i:=26) (N:=some 57) (v := ?_) (a' := ?_) #[qT,qT,qT,qT,qT,qT,qT,qT,qT,qT,qT,qT,qT,qT,qT,qT,qT,qT,qT,qT,qT,qT,qT,qT,qT,qT,qT,qF] rfl rfl (by kernel_rfl) (fun _ _ _ h=>h) (Or.inl ⟨by rfl, ?_⟩) ?_ ?_
    rotate_left
    ·intro w'
     go_simp
     with_reducible rfl
    rotate_left
    ·simp only [Act.put,qs1,qs2,qs3,qAH,qAI]
     rfl
    refine qAL (i:=27) (N:=some 30) (v := ?_) (a' := ?_) #[qT,qT,qT,qT,qT,qT,qT,qT,qT,qT,qT,qT,qT,qT,qT,qT,qT,qT,qT,qT,qT,qT,qT,qT,qT,qT,qT,qT] rfl rfl (by kernel_rfl) (fun _ _ _ h=>h) (Or.inl ⟨by rfl, ?_⟩) ?_ ?_
    rotate_left
    ·intro w'
     go_simp
     with_reducible rfl
    rotate_left
    ·simp only [Act.put,qs1,qs2,qs3,qAH,qAI]
     rfl
    refine qBP (by kernel_rfl) ?_
    have z0:wd2.cell? ⟨g,0,none⟩=some (.slice B bs.length cb):=(qAB R2d.out 0).trans rfl
    go_wp2_with (first | (go_at_call 61;refine (TKO.out _ W2d.out).mono ?_;rintro e_ w3 ⟨v3,v4,rfl,h3,h4,hb⟩;obtain ⟨A3,c3,e3,l3,C3⟩:=h3.C 8;obtain ⟨A4,c4,e4,l4,C4⟩:=h4.C;subst e3;subst e4;have KT3:=qAA.mk (sa.kt_got2 W2d.out.size h3 h4);have HS3:=qAA.mk hb.size;have K3:=qAA.mk C3;have K4:=qAA.mk C4;have L3:=qAA.mk l3;have L4:=qAA.mk l4;have W3:=qAA.mk (qAg W2d.out W2d.out.size hb);have R3:=qAA.mk (R2d.out.below hb);have O3:=qAA.mk (Kd.qA2 O2d.out hb);clear hb h3 h4 C3 C4 l3 l4 z0))
    have B5:=qAA.mk (show Below w3.heap.size w3 ((w3.alloc (.cells #[.int .i64 x.f0,.int .i64 x.f1,.string x.f2,.slice A3 x.f3.length c3,.slice A4 x.f4.length c4] 34)).alloc (.cells #[.string s,.int .i64 x.f0,.int .i64 x.f1,.string x.f2,.slice A3 x.f3.length c3,.slice A4 x.f4.length c4] 51)) from qAF (qAF (Below.refl _ _) _) _)
    have X5:=qAA.mk (show ((w3.alloc (.cells #[.int .i64 x.f0,.int .i64 x.f1,.string x.f2,.slice A3 x.f3.length c3,.slice A4 x.f4.length c4] 34)).alloc (.cells #[.string s,.int .i64 x.f0,.int .i64 x.f1,.string x.f2,.slice A3 x.f3.length c3,.slice A4 x.f4.length c4] 51)).heap[w3.heap.size+1]?=some (.cells #[.string s,.int .i64 x.f0,.int .i64 x.f1,.string x.f2,.slice A3 x.f3.length c3,.slice A4 x.f4.length c4] 51 (0,0)) from by simpa using heap_alloc_new (w3.alloc (.cells #[.int .i64 x.f0,.int .i64 x.f1,.string x.f2,.slice A3 x.f3.length c3,.slice A4 x.f4.length c4] 34)) (.cells #[.string s,.int .i64 x.f0,.int .i64 x.f1,.string x.f2,.slice A3 x.f3.length c3,.slice A4 x.f4.length c4] 51))
    generalize (w3.alloc (.cells #[.int .i64 x.f0,.int .i64 x.f1,.string x.f2,.slice A3 x.f3.length c3,.slice A4 x.f4.length c4] 34)).alloc (.cells #[.string s,.int .i64 x.f0,.int .i64 x.f1,.string x.f2,.slice A3 x.f3.length c3,.slice A4 x.f4.length c4] 51)=w5 at *
    have W5:=qAA.mk (qAg W3.out W3.out.size B5.out)
    have R5:=qAA.mk (R3.out.below B5.out)
    have Q5:=qAA.mk (Kd.qA2 O3.out B5.out)
    have KT5:=qAA.mk (Kd.qBh KT3.out B5.out)
    have J3:=qAA.mk (Kd.qAa K3.out B5.out)
    have J4:=qAA.mk (Kd.qAa K4.out B5.out)
    have HGX:=qAA.mk (show w3.heap.size+1 ≠ g from by have:=HG2d.out;have:=HS3.out;omega)
    have HGX2:=qAA.mk (show wd2.heap.size≤w3.heap.size+1 from by have:=HS3.out;omega)
    generalize w3.heap.size+1=gx at *
    clear K3 K4 R3 O3 KT3 B5 HS3 W3
    refine qAz (n:=10) (S:=fun w'=>w'.cell? ⟨g,2,none⟩=some (.int .i64 all)∧w'.cell? ⟨gx,0,none⟩=some (.string s)∧w'.cell? ⟨gx,1,none⟩=some (.int .i64 x.f0)∧w'.cell? ⟨gx,2,none⟩=some (.int .i64 x.f1)∧w'.cell? ⟨gx,3,none⟩=some (.string x.f2)∧w'.cell? ⟨gx,4,none⟩=some (.slice A3 x.f3.length c3)∧w'.cell? ⟨gx,5,none⟩=some (.slice A4 x.f4.length c4)) (ds:=[9]) #[qF,qF,qF,qF,qF,qF,qF,qF,qF,qF] (by kernel_rfl) rfl rfl ⟨(qAB (show w5.drew.heap[g]?=_ from R5.out) 2).trans rfl,(qAB (qAO X5.out) 0).trans rfl,(qAB (qAO X5.out) 1).trans rfl,(qAB (qAO X5.out) 2).trans rfl,(qAB (qAO X5.out) 3).trans rfl,(qAB (qAO X5.out) 4).trans rfl,(qAB (qAO X5.out) 5).trans rfl⟩ (fun hHeld => ?_)
    generalize hwd:w5.drew=wd5 at hHeld ⊢
    have R6:=qAA.mk (hwd▸R5.out.below (qAW (Below.refl _ _)))
    have W6:=qAA.mk (hwd▸qAW W5.out)
    have Q6:=qAA.mk (hwd▸Kd.qA7 Q5.out)
    have KT6:=qAA.mk (hwd▸Kd.qBh KT5.out (qAW (Below.refl _ _)))
    have X6:=qAA.mk (hwd▸qAO X5.out)
    have I3:=qAA.mk (hwd▸Kd.qAr J3.out)
    have I4:=qAA.mk (hwd▸Kd.qAr J4.out)
    clear hwd R5 W5 Q5 KT5 X5 J3 J4
    refine qAL (i:=0) (N:=some 78) (v := ?_) (a' := ?_) #[qT,qF,qF,qF,qF,qF,qF,qF,qF,qF] rfl rfl (by kernel_rfl) (fun _ _ _ h=>h) (Or.inl ⟨by rfl, ?_⟩) ?_ ?_
    rotate_left
    ·intro w'
     go_simp
     with_reducible rfl
    rotate_left
    ·simp only [Act.put,qs1,qs2,qs3,qAH,qAI]
     rfl
    refine qAL (i:=1) (N:=some 79) (v := ?_) (a' := ?_) #[qT,qT,qF,qF,qF,qF,qF,qF,qF,qF] rfl rfl (by kernel_rfl) (fun _ _ _ h=>h) (Or.inl ⟨by rfl, ?_⟩) ?_ ?_
    rotate_left
    ·intro w'
     go_simp
     with_reducible rfl
    rotate_left
    ·simp only [Act.put,qs1,qs2,qs3,qAH,qAI]
     rfl
    refine qAL (i:=2) (N:=some 80) (v := ?_) (a' := ?_) #[qT,qT,qT,qF,qF,qF,qF,qF,qF,qF] rfl rfl (by kernel_rfl) (fun _ _ _ h=>h) (Or.inl ⟨by rfl, ?_⟩) ?_ ?_
    rotate_left
    ·intro w'
     go_simp
     with_reducible rfl
    rotate_left
    ·simp only [Act.put,qs1,qs2,qs3,qAH,qAI]
     rfl
    refine qAt (i:=3) (N:=some 81) (v := ?_) (a' := ?_) #[qT,qT,qT,qT,qF,qF,qF,qF,qF,qF] rfl rfl (by kernel_rfl) (fun _ _ _ h=>h) (Or.inl ⟨by rfl, ?_⟩) hHeld ?_ ?_
    rotate_left
    ·rintro w' ⟨s0,s1,s2,s3,s4,s5,s6⟩
     go_simp
     with_reducible rfl
    rotate_left
    ·simp only [Act.put,qs1,qs2,qs3,qAH,qAI]
     rfl
    refine qAt (i:=4) (N:=some 82) (v := ?_) (a' := ?_) #[qT,qT,qT,qT,qT,qF,qF,qF,qF,qF] rfl rfl (by kernel_rfl) (fun _ _ _ h=>h) (Or.inl ⟨by rfl, ?_⟩) hHeld ?_ ?_
    rotate_left
    ·rintro w' ⟨s0,s1,s2,s3,s4,s5,s6⟩
     go_simp
     with_reducible rfl
    rotate_left
    ·simp only [Act.put,qs1,qs2,qs3,qAH,qAI]
     rfl
    refine one_ (i:=5) (N:=some 83) #[qT,qT,qT,qT,qT,qT,qF,qF,qF,qF] rfl rfl (by kernel_rfl) (by decide) (fun K hK => ?_)
    refine qBf Try.func49 (by kernel_rfl) rfl #[.agg #[.string s,.int .i64 x.f0,.int .i64 x.f1,.string x.f2,.slice A3 x.f3.length c3,.slice A4 x.f4.length c4]] (by rfl) rfl rfl (by (try simp only [List.map_toArray,List.map_cons,List.map_nil]);first | done | rfl) ?_
    refine (qAs.calls KH s x.f0 x.f1 x.f2 A3 c3 x.f3 A4 c4 x.f4 hw wd5 I3.out L3.out I4.out L4.out HKH.out).mono ?_
    rintro e w7 ⟨rfl,hb⟩
    refine ⟨_,rfl, ?_⟩
    have R7:=qAA.mk (R6.out.below hb)
    have W7:=qAA.mk (qAg W6.out W6.out.size hb)
    have Q7:=qAA.mk (Kd.qA2 Q6.out hb)
    have KT7:=qAA.mk (Kd.qBh KT6.out hb)
    have X7:=qAA.mk (qAb X6.out hb)
    clear hb
    have s2:=(qAB R7.out 2).trans rfl
    have s2f:=qAC R7.out 2
    refine hK.out _ _ ⟨(qAB R7.out 2).trans rfl,(qAB X7.out 0).trans rfl,(qAB X7.out 1).trans rfl,(qAB X7.out 2).trans rfl,(qAB X7.out 3).trans rfl,(qAB X7.out 4).trans rfl,(qAB X7.out 5).trans rfl⟩ (fun hHeld => ?_)
    clear hK K
    refine qBH (a' := ?_) ?_ ?_
    rotate_left
    ·show Act.put _ (some 83) _=_
     simp only [Act.put,qs1,qs2,qs3,qAH,qAI]
     rfl
    refine qAL (i:=6) (N:=some 84) (v := ?_) (a' := ?_) #[qT,qT,qT,qT,qT,qT,qT,qF,qF,qF] rfl rfl (by kernel_rfl) (fun _ _ _ h=>h) (Or.inl ⟨by rfl, ?_⟩) ?_ ?_
    rotate_left
    ·intro w'
     go_simp
     with_reducible rfl
    rotate_left
    ·simp only [Act.put,qs1,qs2,qs3,qAH,qAI]
     rfl
    refine qAL (i:=7) (N:=some 85) (v := ?_) (a' := ?_) #[qT,qT,qT,qT,qT,qT,qT,qT,qF,qF] rfl rfl (by kernel_rfl) (fun _ _ _ h=>h) (Or.inl ⟨by rfl, ?_⟩) ?_ ?_
    rotate_left
    ·intro w'
     go_simp
     with_reducible rfl
    rotate_left
    ·simp only [Act.put,qs1,qs2,qs3,qAH,qAI]
     rfl
    refine qAL (i:=8) (N:=some 86) (v := ?_) (a' := ?_) #[qT,qT,qT,qT,qT,qT,qT,qT,qT,qF] rfl rfl (by kernel_rfl) (fun _ _ _ h=>h) (Or.inl ⟨by rfl, ?_⟩) ?_ ?_
    rotate_left
    ·intro w'
     go_simp
     with_reducible rfl
    rotate_left
    ·simp only [Act.put,qs1,qs2,qs3,qAH,qAI]
     rfl
    refine last_ (i:=9) (N:=none) #[qT,qT,qT,qT,qT,qT,qT,qT,qT,qT] rfl rfl (by kernel_rfl) (by decide) (fun K hK => ?_)
    refine skip_ (w1 := ?_) (by rfl) rfl ?_ ?_
    rotate_left
    ·go_simp
     rfl
    clear s2 s2f
    refine hK.out _ _ ?_
    clear hK K
    refine qBP (by kernel_rfl) ?_
    have R8:=qAA.mk (show sa.RB7 (w7.setCell ⟨g,2,none⟩ (.int .i64 (all+hw))) g B bs.length cb at_ (all+hw) (.slice (some ad) (k+1) cl) from qAx R7.out 2 _ rfl)
    have W8:=qAA.mk (show Below w0.heap.size w0 (w7.setCell ⟨g,2,none⟩ (.int .i64 (all+hw))) from qAP W7.out HG.out)
    have Q8:=qAA.mk (Kd.R_far Q7.out (p:=⟨g,2,none⟩) (fun k hk=>hk) (.int .i64 (all+hw)))
    have KT8:=qAA.mk (Kd.M_far KT7.out (p:=⟨g,2,none⟩) (fun k hk=>by have:=HG2d.out;dsimp only;omega) (.int .i64 (all+hw)))
    have X8:=qAA.mk ((Below.heap_setCell w7 ⟨g,2,none⟩ (.int .i64 (all+hw)) gx HGX.out).trans X7.out)
    generalize w7.setCell ⟨g,2,none⟩ (.int .i64 (all+hw))=w8 at *
    have z2:w8.cell? ⟨g,2,none⟩=some (.int .i64 (all+hw)):=(qAB R8.out 2).trans rfl
    go_wp2
    clear z2
    refine qAz (n:=11) (S:=fun w'=>w'.cell? ⟨g,3,none⟩=some (.slice (some ad) (k+1) cl)∧w'.cell? ⟨gx,0,none⟩=some (.string s)∧w'.cell? ⟨gx,1,none⟩=some (.int .i64 x.f0)∧w'.cell? ⟨gx,2,none⟩=some (.int .i64 x.f1)∧w'.cell? ⟨gx,3,none⟩=some (.string x.f2)∧w'.cell? ⟨gx,4,none⟩=some (.slice A3 x.f3.length c3)∧w'.cell? ⟨gx,5,none⟩=some (.slice A4 x.f4.length c4)) (ds:=[10]) #[qF,qF,qF,qF,qF,qF,qF,qF,qF,qF,qF] (by kernel_rfl) rfl rfl ⟨(qAB (show w8.drew.heap[g]?=_ from R8.out) 3).trans rfl,(qAB (qAO X8.out) 0).trans rfl,(qAB (qAO X8.out) 1).trans rfl,(qAB (qAO X8.out) 2).trans rfl,(qAB (qAO X8.out) 3).trans rfl,(qAB (qAO X8.out) 4).trans rfl,(qAB (qAO X8.out) 5).trans rfl⟩ (fun hHeld => ?_)
    generalize hwd:w8.drew=wd8 at hHeld ⊢
    have R9:=qAA.mk (hwd▸R8.out.below (qAW (Below.refl _ _)))
    have W9:=qAA.mk (hwd▸qAW W8.out)
    have Q9:=qAA.mk (hwd▸Kd.qA7 Q8.out)
    have KT9:=qAA.mk (hwd▸Kd.qBh KT8.out (qAW (Below.refl _ _)))
    have X9:=qAA.mk (hwd▸qAO X8.out)
    clear hwd R8 W8 Q8 KT8 X8
    refine qAL (i:=0) (N:=some 96) (v := ?_) (a' := ?_) #[qT,qF,qF,qF,qF,qF,qF,qF,qF,qF,qF] rfl rfl (by kernel_rfl) (fun _ _ _ h=>h) (Or.inl ⟨by rfl, ?_⟩) ?_ ?_
    rotate_left
    ·intro w'
     go_simp
     with_reducible rfl
    rotate_left
    ·simp only [Act.put,qs1,qs2,qs3,qAH,qAI]
     rfl
    refine qAL (i:=1) (N:=some 97) (v := ?_) (a' := ?_) #[qT,qT,qF,qF,qF,qF,qF,qF,qF,qF,qF] rfl rfl (by kernel_rfl) (fun _ _ _ h=>h) (Or.inl ⟨by rfl, ?_⟩) ?_ ?_
    rotate_left
    ·intro w'
     go_simp
     with_reducible rfl
    rotate_left
    ·simp only [Act.put,qs1,qs2,qs3,qAH,qAI]
     rfl
    refine qAL (i:=2) (N:=some 98) (v := ?_) (a' := ?_) #[qT,qT,qT,qF,qF,qF,qF,qF,qF,qF,qF] rfl rfl (by kernel_rfl) (fun _ _ _ h=>h) (Or.inl ⟨by rfl, ?_⟩) ?_ ?_
    rotate_left
    ·intro w'
     go_simp
     with_reducible rfl
    rotate_left
    ·simp only [Act.put,qs1,qs2,qs3,qAH,qAI]
     rfl
    refine qAL (i:=3) (N:=some 99) (v := ?_) (a' := ?_) #[qT,qT,qT,qT,qF,qF,qF,qF,qF,qF,qF] rfl rfl (by kernel_rfl) (fun _ _ _ h=>h) (Or.inl ⟨by rfl, ?_⟩) ?_ ?_
    rotate_left
    ·intro w'
     go_simp
     with_reducible rfl
    rotate_left
    ·simp only [Act.put,qs1,qs2,qs3,qAH,qAI]
     rfl
    refine qAt (i:=4) (N:=some 100) (v := ?_) (a' := ?_) #[qT,qT,qT,qT,qT,qF,qF,qF,qF,qF,qF] rfl rfl (by kernel_rfl) (fun _ _ _ h=>h) (Or.inl ⟨by rfl, ?_⟩) hHeld ?_ ?_
    rotate_left
    ·rintro w' ⟨s0,s1,s2,s3,s4,s5,s6⟩
     go_simp
     with_reducible rfl
    rotate_left
    ·simp only [Act.put,qs1,qs2,qs3,qAH,qAI]
     rfl
    refine qAt (i:=5) (N:=some 101) (v := ?_) (a' := ?_) #[qT,qT,qT,qT,qT,qT,qF,qF,qF,qF,qF] rfl rfl (by kernel_rfl) (fun _ _ _ h=>h) (Or.inl ⟨by rfl, ?_⟩) hHeld ?_ ?_
    rotate_left
    ·rintro w' ⟨s0,s1,s2,s3,s4,s5,s6⟩
     go_simp
     with_reducible rfl
    rotate_left
    ·simp only [Act.put,qs1,qs2,qs3,qAH,qAI]
     rfl
    refine one_ (i:=6) (N:=some 102) #[qT,qT,qT,qT,qT,qT,qT,qF,qF,qF,qF] rfl rfl (by kernel_rfl) (by decide) (fun K hK => ?_)
    refine value_ (w1 := ?_) (v := ?_) (by rfl) rfl ?_ ?_
    rotate_left 2
    ·go_simp
     constructor
     ·rfl
     ·rfl
    refine hK.out _ _ ⟨(qAB (qAR R9.out _) 3).trans rfl,(qAB (qAR X9.out _) 0).trans rfl,(qAB (qAR X9.out _) 1).trans rfl,(qAB (qAR X9.out _) 2).trans rfl,(qAB (qAR X9.out _) 3).trans rfl,(qAB (qAR X9.out _) 4).trans rfl,(qAB (qAR X9.out _) 5).trans rfl⟩ (fun hHeld => ?_)
    clear hK K
    refine qBH (a' := ?_) ?_ ?_
    rotate_left
    ·show Act.put _ (some 102) _=_
     simp only [Act.put,qs1,qs2,qs3,qAH,qAI]
     rfl
    refine one_ (i:=7) (N:=some 103) #[qT,qT,qT,qT,qT,qT,qT,qT,qF,qF,qF] rfl rfl (by kernel_rfl) (by decide) (fun K hK => ?_)
    refine Kd.qBQ sa.ke (w0:=w0) w0.heap.size (by rfl) (.tmp 100) (.tmp 102) 22 51 (.agg #[.string ⟨#[]⟩,.int .i64 0,.int .i64 0,.string ⟨#[]⟩,.slice none 0 0,.slice none 0 0]) 96 rfl Try.underlying22 info51 rfl (by decide) (by omega) _ l ⟨s,x⟩ [.string s,.int .i64 x.f0,.int .i64 x.f1,.string x.f2,.slice A3 x.f3.length c3,.slice A4 x.f4.length c4] (fun k=>k ≠ g) (fun k=>wd2.heap.size≤k) rfl rfl ?aM ?aF ?aN ?aO ?aB ?aS ?aL ?_
    (case aM=>exact sa.ke_M KT9.out)
    (case aF=>exact fun k hk=>⟨by have:=HG2d.out;omega,fun e=>by have:=HOB.out k e.symm;omega⟩)
    (case aN=>exact fun k hk=>by have:=qAo (show wd8.heap[g]?=some _ from R9.out);omega)
    (case aO=>exact Q9.out)
    (case aB=>exact W9.out)
    (case aS=>exact W9.out.size)
    (case aL=>have:=HLL.out;omega)
    intro v11 w11 hr hb hg hat
    obtain ⟨A11,c11,e11⟩:=Kd.qBV hr
    subst e11
    rw [show (l ++ [(⟨s,x⟩:S51)]).length=l.length+1 from by simp] at hr
    have R11:=qAA.mk (qBI R9.out hg (Kd.R_away Q9.out (fun _ hk=>hk)))
    have X11:=qAA.mk (qBI X9.out hg (fun e=>by have:=HOB.out gx e.symm;have:=HGX2.out;omega))
    have Q11:=qAA.mk hr
    have W11:=qAA.mk hb
    clear hr hb hg hat
    have s3:=(qAB R11.out 3).trans rfl
    have s3f:=qAC R11.out 3
    refine hK.out _ _ ⟨(qAB R11.out 3).trans rfl,(qAB X11.out 0).trans rfl,(qAB X11.out 1).trans rfl,(qAB X11.out 2).trans rfl,(qAB X11.out 3).trans rfl,(qAB X11.out 4).trans rfl,(qAB X11.out 5).trans rfl⟩ (fun hHeld => ?_)
    clear hK K
    refine qBH (a' := ?_) ?_ ?_
    rotate_left
    ·show Act.put _ (some 103) _=_
     simp only [Act.put,qs1,qs2,qs3,qAH,qAI]
     rfl
    refine qAL (i:=8) (N:=some 104) (v := ?_) (a' := ?_) #[qT,qT,qT,qT,qT,qT,qT,qT,qT,qF,qF] rfl rfl (by kernel_rfl) (fun _ _ _ h=>h) (Or.inl ⟨by rfl, ?_⟩) ?_ ?_
    rotate_left
    ·intro w'
     go_simp
     with_reducible rfl
    rotate_left
    ·simp only [Act.put,qs1,qs2,qs3,qAH,qAI]
     rfl
    refine qAL (i:=9) (N:=some 105) (v := ?_) (a' := ?_) #[qT,qT,qT,qT,qT,qT,qT,qT,qT,qT,qF] rfl rfl (by kernel_rfl) (fun _ _ _ h=>h) (Or.inl ⟨by rfl, ?_⟩) ?_ ?_
    rotate_left
    ·intro w'
     go_simp
     with_reducible rfl
    rotate_left
    ·simp only [Act.put,qs1,qs2,qs3,qAH,qAI]
     rfl
    refine last_ (i:=10) (N:=none) #[qT,qT,qT,qT,qT,qT,qT,qT,qT,qT,qT] rfl rfl (by kernel_rfl) (by decide) (fun K hK => ?_)
    refine skip_ (w1 := ?_) (by rfl) rfl ?_ ?_
    rotate_left
    ·go_simp
     rfl
    clear s3 s3f
    refine hK.out _ _ ?_
    clear hK K
    refine qBP (by kernel_rfl) ?_
    have R12:=qAA.mk (show sa.RB7 (w11.setCell ⟨g,3,none⟩ (.slice A11 (l.length+1) c11)) g B bs.length cb at_ (all+hw) (.slice A11 (l.length+1) c11) from qAx R11.out 3 _ rfl)
    have W12:=qAA.mk (show Below w0.heap.size w0 (w11.setCell ⟨g,3,none⟩ (.slice A11 (l.length+1) c11)) from qAP W11.out HG.out)
    have Q12:=qAA.mk (Kd.R_far Q11.out (p:=⟨g,3,none⟩) (fun k hk=>hk) (.slice A11 (l.length+1) c11))
    generalize w11.setCell ⟨g,3,none⟩ (.slice A11 (l.length+1) c11)=w12 at *
    have z1:w12.cell? ⟨g,1,none⟩=some (.int .i64 at_):=(qAB R12.out 1).trans rfl
    have z1f:=qAC R12.out 1
    go_wp2
    go_ret2
    exact ⟨rfl,qAP W12.out HG.out,_,qAx R12.out 1 _ rfl,Kd.R_far Q12.out (p:=⟨g,1,none⟩) (fun k hk=>hk) _⟩
end
end Go.Proofs.Ytdommiicjpjfpaa.X
namespace Go.Proofs.Ytdommiicjpjfpaa.X
open Go.RowKit Go.Proofs.YtdommiicjpjfpaaW.PrintWords Go.Proofs.YtdommiicjpjfpaaW.PrintLast Go.Proofs.YtdommiicjpjfpaaW.PrintMore Go.Proofs.YtdommiicjpjfpaaW
section
set_option maxHeartbeats 4000000
set_option maxRecDepth 100000
open Go.Proofs.Ytdommiicjpjfpaa Go.Proofs.Ytdommiicjpjfpaa.Pl
def sa.decL (bs:List Int):Nat→Int→Int→List S51→sa.R3 (List S51)
 | 0,a,all,l=>.ok l a all
 | k+1,a,all,l=>match sa.entF bs a all l with
  | .bad c p=>.bad c p
  | .ok l2 a2 all2=>sa.decL bs k a2 all2 l2
def sa.decF (bs:List Int):Int × Int × List S51 :=
 if (bs.length:Int) < 4 ∨ bs.take 4 ≠ [83,83,84,49] then (71,0,[])
 else if (qAe bs 4).2.2 ≠ 0 then (71,4,[])
 else if (qAe bs 4).1 > 128 then (70,4,[])
 else match sa.decL bs (qAe bs 4).1.toNat (qAe bs 4).2.1 0 [] with
  | .bad c p=>(c,p,[])
  | .ok l a _=>if a < (bs.length:Int) then (72,a,[]) else (0,0,l)
theorem sa.entF_ok {bs:List Int} {a all:Int} {l l2:List S51} {a2 all2:Int} (h0:0≤all) (h:sa.entF bs a all l=.ok l2 a2 all2):l2.length=l.length+1∧0≤all2∧all2≤32768:=by
 unfold sa.entF at h
 split at h
 ·cases h
 split at h
 ·cases h
 split at h
 ·cases h
 ·split at h
  ·cases h
  ·rename_i hq
   injection h with e1 e2 e3
   subst e1
   refine ⟨by simp, ?_,by omega⟩
   have:(0:Int)≤sa.hv ⟨(qBY bs a 32).1,‹S34›⟩:=by unfold sa.hv;omega
   omega
def sa.DecT (c p:Int) (l:List S51) (w:World) (e:Ending) (w':World):Prop:=Below w.heap.size w w'∧∃ v,e=.returned (.tuple #[v,.int .i64 p,.int .i64 c])∧sa.ke.R 51 w' w.heap.size (fun _=>True) v l
theorem sa.dec_none {c p:Int} {w w':World} {e:Ending} (he:e=.returned (.tuple #[.slice none 0 0,.int .i64 p,.int .i64 c])) (hb:Below w.heap.size w w'):sa.DecT c p [] w e w':=⟨hb,_,he,Kd.qBm _ _ _ _ _⟩
set_option maxHeartbeats 16000000 in
theorem sa.dec22 {bs:List Int} (hb:Bytes bs) (hl:bs.length≤140737488351232) {w:World} {A:Option Addr} {c:Nat} (hC:(Kd.int .u8).C w A bs.length bs) (hc:bs.length≤c) :
  Calls Try.prog 22 #[.slice A bs.length c] w (sa.DecT (sa.decF bs).1 (sa.decF bs).2.1 (sa.decF bs).2.2 w):=by
 have hu75:=Try.underlying75
 have hu44:=Try.underlying44
 have HCC:=qAA.mk (fun (W:World) (hb2:Below w.heap.size w W)=>Kd.qAa hC hb2)
 have HUC:=qAA.mk (fun (W:World) (hb2:Below w.heap.size w W)=>qAd.calls 24 A c bs 4 (qAe bs 4).1 (qAe bs 4).2.1 (qAe bs 4).2.2 W (Kd.qAa hC hb2) hc (by rw [Uint_eq 24 (Nat.le_refl _) bs hb (by omega) 4]))
 have HUR:=qAA.mk (qBD bs hb 4)
 have HE:=qAA.mk (fun (W:World) (g:Nat) (at_ all:Int) (vl:Value) (l:List S51) (hg:w.heap.size≤g) (hW:Below w.heap.size w W) (hR:sa.RB7 W g A bs.length c at_ all vl) (hO:sa.ke.R 51 W w.heap.size (fun k=>k ≠ g) vl l) (hal:0≤all∧all≤32768) (hll:l.length≤1000)=>sa.entry41 hb hl hC hc hg hW hR hO hal hll)
 have HLE:=qAA.mk hl
 have HCL:=qAA.mk hc
 have HB:=qAA.mk hb
 unfold sa.decF
 by_cases h4:(bs.length:Int) < 4
 ·rw [if_pos (Or.inl h4)]
  have i1:decide ((bs.length:Int) < 4)=true:=decide_eq_true h4
  have i2:decide (bs.length < 4)=true:=decide_eq_true (by omega)
  clear h4 hb hl hC hc
  go_enter Try.func22,Try.ntmps22
  go_wp2
  refine bodyPost_ret (results_tmp3 rfl _ _ _) rfl ?_
  exact sa.dec_none rfl (Below.refl _ _)
 have i1:decide ((bs.length:Int) < 4)=false:=decide_eq_false h4
 have i2:decide (bs.length < 4)=false:=decide_eq_false (by omega)
 have ht4:(bs.take 4).length=4:=by rw [List.length_take];omega
 obtain ⟨i0,hi0,_,_,_⟩:=info_parts (show (Try.prog.info? 5).map (fun i=>(i.zero,i.size,i.bytes))=some (some (.int .u8 0),1,1) by kernel_rfl)
 have CUT:=cut_to (P:=Try.prog) 44 5 .i64 Try.underlying44 hi0 A bs.length c 4 (by omega) (by omega) hc
 have CV:=Kd.C_string (P:=Try.prog) (c:=c) Try.underlying44 Try.underlying5 Try.underlying9 (Kd.C_take hC (m:=4) (by omega))
 rw [ht4] at CV
 have hmg:strOfNums [83,83,84,49]=⟨#[83,83,84,49]⟩:=by rfl
 clear h4 hC hc
 by_cases hm:bs.take 4=[83,83,84,49]
 case neg =>
  rw [if_pos (Or.inr hm)]
  have hne:strOfNums (bs.take 4) ≠ (⟨#[83,83,84,49]⟩:ByteArray):=fun h=>hm (str_inj (fun z hz=>hb z (List.mem_of_mem_take hz)) (bytes_cons (by decide) (by decide) (bytes_cons (by decide) (by decide) (bytes_cons (by decide) (by decide) (bytes_cons (by decide) (by decide) Bytes.nil)))) (h.trans hmg.symm))
  generalize strOfNums (bs.take 4)=s1 at CV hne
  have j1:(s1.toList == [83,83,84,49])=false:=by simpa using fun h=>hne (toList_inj (h.trans (by rw [ByteArray.toList_eq])))
  have j2:(s1.toList != [83,83,84,49])=true:=by simpa using fun h=>hne (toList_inj (h.trans (by rw [ByteArray.toList_eq])))
  clear hm hne hb hl hmg
  go_enter Try.func22,Try.ntmps22
  go_wp2
  refine bodyPost_ret (results_tmp3 rfl _ _ _) rfl ?_
  exact sa.dec_none rfl (Below.refl _ _)
 rw [hm,hmg] at CV
 rw [if_neg (by
   rintro (h | h);· simp only [decide_eq_false_iff_not] at i1;exact i1 h
   ·exact h hm)]
 clear hm hmg hb hl
 have hUO:=fun h=>qBU bs HB.out 4 h
 generalize qAe bs 4=u at *
 obtain ⟨n1,nx,e1⟩:=u
 dsimp only
 dsimp only at HUC HUR hUO
 by_cases h1:e1 ≠ 0
 ·rw [if_pos h1]
  have d1:(e1 != 0)=true:=bne_iff_ne.2 h1
  have d2:(e1 == 0)=false:=beq_eq_false_iff_ne.2 h1
  have d3:decide (e1=0)=false:=decide_eq_false h1
  clear h1 hUO
  go_enter Try.func22,Try.ntmps22
  go_wp2_with (first | (go_at_call 40;refine (HUC.out _ (Below.refl _ _)).mono ?_;rintro e_ w2 ⟨rfl,hd⟩;have B2:=qAA.mk hd.below;clear hd))
  refine bodyPost_ret (results_tmp3 rfl _ _ _) rfl ?_
  exact sa.dec_none rfl B2.out
 rw [if_neg h1]
 have he1:e1=0:=Classical.byContradiction h1
 subst he1
 have HUO:=qAA.mk (hUO rfl)
 clear h1 hUO
 by_cases h2:n1 > 128
 ·rw [if_pos h2]
  have d1:decide (n1 > 128)=true:=decide_eq_true h2
  have d2:decide (128 < n1)=true:=decide_eq_true h2
  clear h2
  go_enter Try.func22,Try.ntmps22
  go_wp2_with (first | (go_at_call 40;refine (HUC.out _ (Below.refl _ _)).mono ?_;rintro e_ w2 ⟨rfl,hd⟩;have B2:=qAA.mk hd.below;clear hd))
  refine bodyPost_ret (results_tmp3 rfl _ _ _) rfl ?_
  exact sa.dec_none rfl B2.out
 rw [if_neg h2]
 have d1:decide (n1 > 128)=false:=decide_eq_false h2
 have d2:decide (128 < n1)=false:=decide_eq_false h2
 obtain ⟨n,rfl⟩:∃ n:Nat,n1=(n:Int):=⟨n1.toNat,by have:=HUR.out.1;omega⟩
 have hn:n≤128:=by omega
 have hwn:wrap64 (n:Int)=(n:Int):=by unfold wrap64;omega
 have hwn2:IntKind.i64.wrap (n:Int)=(n:Int):=(qAH _).trans hwn
 have HN:=qAA.mk hn
 rw [Int.toNat_natCast]
 generalize hRR:sa.decL bs n nx 0 []=r
 have HRR:=qAA.mk hRR
 clear h2 hn hRR
 go_enter Try.func22,Try.ntmps22
 go_wp2_with (first | (go_at_call 40;refine (HUC.out _ (Below.refl _ _)).mono ?_;rintro e_ w2 ⟨rfl,hd⟩;have B2:=qAA.mk hd.below;clear hd) | ((with_reducible refine qAj (N:=33) rfl ?_);refine qAf ?hg (N:=33) ?hd (cs:=#[.slice A bs.length c,.int .i64 nx,.int .i64 0,.slice none 0 0]) (t:=75) ?hr ?_;(case hd=>rfl);(case hg=>rfl);(case hr=>first | (go_simp;done) | (go_simp;rfl));intro g hg w3 hbox hb1;have R3:=qAA.mk (show sa.RB7 w3 g A bs.length c nx 0 (.slice none 0 0) from hbox);have B3:=qAA.mk (qAX B2.out hb1);have HG:=qAA.mk (show w.heap.size≤g from by rw [hg];exact B2.out.size);clear hbox hb1 hg))
 go_loopw [36] (fun v36 wr=>∃ (j:Nat) (at_ all:Int) (l:List S51) (vl:Value),v36=.int .i64 (j:Int)∧qAA (j≤n∧sa.decL bs (n - j) at_ all l=r∧l.length=j∧0≤all∧all≤32768)∧qAA (sa.RB7 wr g A bs.length c at_ all vl)∧qAA (sa.ke.R 51 wr w.heap.size (fun k=>k ≠ g) vl l)∧qAA (Below w.heap.size w wr)) (fun v36 _=>n - (intOf v36).toNat)
 case atStart=>exact ⟨0,nx,0,[],.slice none 0 0,rfl,⟨Nat.zero_le _,HRR.out,rfl,by omega,by omega⟩,R3,⟨Kd.qBm _ _ _ _ _⟩,B3⟩
 case round =>
  clear R3 B3
  obtain ⟨j,at_,all,l,vl,rfl,HJ,HR,HO,HW⟩:=hrel
  by_cases hlt:j < n
  ·have k1:decide ((j:Int) < (n:Int))=true:=decide_eq_true (by omega)
   have k2:decide (j < n)=true:=decide_eq_true hlt
   have k3:(j < n)=True:=eq_true hlt
   have hw1:wrap64 ((j:Int)+1)=(j:Int)+1:=by have:=HN.out;unfold wrap64;omega
   have HWR:=qAA.mk hw1
   have hdl:sa.decL bs (n - j) at_ all l=match sa.entF bs at_ all l with
    | .bad c p=>.bad c p
    | .ok l2 a2 all2=>sa.decL bs (n - (j+1)) a2 all2 l2:=by
    rw [show n - j=(n - (j+1))+1 by omega]
    rfl
   have ET:=qAA.mk (HE.out wr g at_ all vl l HG.out HW.out HR.out HO.out ⟨HJ.out.2.2.2.1,HJ.out.2.2.2.2⟩ (by have:=HJ.out.2.2.1;have:=HN.out;omega))
   rcases hr:sa.entF bs at_ all l with ⟨l2,a2,all2⟩ | ⟨cc,pp⟩
   ·rw [hr] at ET hdl
    dsimp only at hdl
    have HDL:=qAA.mk (hdl.symm.trans HJ.out.2.1)
    have HOK:=qAA.mk (sa.entF_ok HJ.out.2.2.2.1 hr)
    have HLT:=qAA.mk hlt
    have ETO:=qAA.mk (show Calls Try.prog 41 #[.pointer (some ⟨g,0,none⟩)] wr (fun e w'=>e=.returned (.tuple #[.int .i64 0,.int .i64 0])∧Below w.heap.size w w'∧∃ vl,sa.RB7 w' g A bs.length c a2 all2 vl∧sa.ke.R 51 w' w.heap.size (fun k=>k ≠ g) vl l2) from ET.out)
    clear hr hdl hlt ET
    go_wp2_with (first | (go_at_call 41;refine ETO.out.mono ?_;rintro e_ w5 ⟨rfl,hb5,vl5,hr5,ho5⟩;have W5:=qAA.mk hb5;have R5:=qAA.mk hr5;have O5:=qAA.mk ho5;clear hb5 hr5 ho5))
    go_roundw
    case rel=>exact ⟨j+1,a2,all2,l2,vl5,by rw [HWR.out];rfl,⟨by have:=HLT.out;omega,HDL.out,by have:=HOK.out.1;have:=HJ.out.2.2.1;omega,HOK.out.2.1,HOK.out.2.2⟩,R5,O5,W5⟩
    case measure =>
     rw [HWR.out]
     show n - ((j:Int)+1).toNat < n - ((j:Int)).toNat
     have:=HLT.out
     omega
   ·rw [hr] at ET hdl
    dsimp only at hdl
    have hrr:=HJ.out.2.1.symm.trans hdl
    have hcc:cc ≠ 0:=by
     have h:=hr
     unfold sa.entF at h
     split at h
     ·injection h with h _;omega
     split at h
     ·injection h with h _;omega
     split at h
     ·injection h with h _;omega
     ·split at h
      ·injection h with h _;omega
      ·cases h
    have d3:(cc != 0)=true:=bne_iff_ne.2 hcc
    have d4:(cc == 0)=false:=beq_eq_false_iff_ne.2 hcc
    have d5:decide (cc=0)=false:=decide_eq_false hcc
    have ETB:=qAA.mk (show Calls Try.prog 41 #[.pointer (some ⟨g,0,none⟩)] wr (fun e w'=>e=.returned (.tuple #[.int .i64 pp,.int .i64 cc])∧Below w.heap.size w w') from ET.out)
    subst hrr
    try dsimp only
    clear hr hdl hlt ET hcc HRR HJ
    go_wp2_with (first | (go_at_call 41;refine ETB.out.mono ?_;rintro e_ w5 ⟨rfl,hb5⟩;have W5:=qAA.mk hb5;clear hb5))
    refine bodyPost_ret (results_tmp3 rfl _ _ _) rfl ?_
    exact sa.dec_none rfl W5.out
  ·obtain rfl:j=n:=by have:=HJ.out.1;omega
   have k1:decide ((j:Int) < (j:Int))=false:=decide_eq_false (by omega)
   have k2:decide (j < j)=false:=decide_eq_false (by omega)
   have hrr:sa.R3.ok l at_ all=r:=by have h:=HJ.out.2.1;rw [Nat.sub_self] at h;exact h
   subst hrr
   try dsimp only
   clear hlt HRR
   have z1:wr.cell? ⟨g,1,none⟩=some (.int .i64 at_):=(qAB HR.out 1).trans rfl
   have z3:wr.cell? ⟨g,3,none⟩=some vl:=(qAB HR.out 3).trans rfl
   by_cases hend:at_ < (bs.length:Int)
   ·have k5:decide (at_ < (bs.length:Int))=true:=decide_eq_true hend
    have k6:(at_ < (bs.length:Int))=True:=eq_true hend
    go_wp2
    clear z1 z3
    refine qAz (n:=7) (S:=fun w'=>w'.cell? ⟨g,1,none⟩=some (.int .i64 at_)) (ds:=[]) #[qF,qF,qF,qF,qF,qF,qF] (by kernel_rfl) rfl rfl ((qAB (show wr.drew.heap[g]?=_ from HR.out) 1).trans rfl) (fun hHeld => ?_)
    generalize hwd:wr.drew=wd at hHeld ⊢
    have Wd:=qAA.mk (hwd▸qAW HW.out)
    clear hwd
    refine qAL (i:=0) (N:=some 55) (v := ?_) (a' := ?_) #[qT,qF,qF,qF,qF,qF,qF] rfl rfl (by kernel_rfl) (fun _ _ _ h=>h) (Or.inl ⟨by rfl, ?_⟩) ?_ ?_
    rotate_left
    ·intro w'
     go_simp
     with_reducible rfl
    rotate_left
    ·simp only [Act.put,qs1,qs2,qs3,qAH,qAI]
     rfl
    refine qAL (i:=1) (N:=some 56) (v := ?_) (a' := ?_) #[qT,qT,qF,qF,qF,qF,qF] rfl rfl (by kernel_rfl) (fun _ _ _ h=>h) (Or.inl ⟨by rfl, ?_⟩) ?_ ?_
    rotate_left
    ·intro w'
     go_simp
     with_reducible rfl
    rotate_left
    ·simp only [Act.put,qs1,qs2,qs3,qAH,qAI]
     rfl
    refine qAL (i:=2) (N:=some 57) (v := ?_) (a' := ?_) #[qT,qT,qT,qF,qF,qF,qF] rfl rfl (by kernel_rfl) (fun _ _ _ h=>h) (Or.inl ⟨by rfl, ?_⟩) ?_ ?_
    rotate_left
    ·intro w'
     go_simp
     with_reducible rfl
    rotate_left
    ·simp only [Act.put,qs1,qs2,qs3,qAH,qAI]
     rfl
    refine qAL (i:=4) (N:=some 2) (v := ?_) (a' := ?_) #[qT,qT,qT,qF,qT,qF,qF] rfl rfl (by kernel_rfl) (fun _ _ _ h=>h) (Or.inl ⟨by rfl, ?_⟩) ?_ ?_
    rotate_left
    ·intro w'
     go_simp
     with_reducible rfl
    rotate_left
    ·simp only [Act.put,qs1,qs2,qs3,qAH,qAI]
     rfl
    refine qAt (i:=3) (N:=some 58) (v := ?_) (a' := ?_) #[qT,qT,qT,qT,qT,qF,qF] rfl rfl (by kernel_rfl) (fun _ _ _ h=>h) (Or.inl ⟨by rfl, ?_⟩) hHeld ?_ ?_
    rotate_left
    ·intro w' s0
     go_simp
     with_reducible rfl
    rotate_left
    ·simp only [Act.put,qs1,qs2,qs3,qAH,qAI]
     rfl
    refine qAL (i:=5) (N:=some 3) (v := ?_) (a' := ?_) #[qT,qT,qT,qT,qT,qT,qF] rfl rfl (by kernel_rfl) (fun _ _ _ h=>h) (Or.inl ⟨by rfl, ?_⟩) ?_ ?_
    rotate_left
    ·intro w'
     go_simp
     with_reducible rfl
    rotate_left
    ·simp only [Act.put,qs1,qs2,qs3,qAH,qAI]
     rfl
    refine qAL (i:=6) (N:=some 4) (v := ?_) (a' := ?_) #[qT,qT,qT,qT,qT,qT,qT] rfl rfl (by kernel_rfl) (fun _ _ _ h=>h) (Or.inl ⟨by rfl, ?_⟩) ?_ ?_
    rotate_left
    ·intro w'
     go_simp
     with_reducible rfl
    rotate_left
    ·simp only [Act.put,qs1,qs2,qs3,qAH,qAI]
     rfl
    refine qBP (by kernel_rfl) ?_
    go_wp2
    refine bodyPost_ret (results_tmp3 rfl _ _ _) rfl ?_
    dsimp only
    exact sa.dec_none rfl Wd.out
   ·have k5:decide (at_ < (bs.length:Int))=false:=decide_eq_false hend
    have k6:(at_ < (bs.length:Int))=False:=eq_false hend
    go_wp2
    refine bodyPost_ret (results_tmp3 rfl _ _ _) rfl ?_
    dsimp only
    exact ⟨HW.out,_,rfl,Kd.qB0 HO.out (fun _ _=>trivial)⟩
end
end Go.Proofs.Ytdommiicjpjfpaa.X
namespace Go.Proofs.Ytdommiicjpjfpaa.X
open Go.RowKit Go.Proofs.YtdommiicjpjfpaaW.PrintWords Go.Proofs.YtdommiicjpjfpaaW.PrintLast Go.Proofs.YtdommiicjpjfpaaW.PrintMore Go.Proofs.YtdommiicjpjfpaaW
section
set_option maxHeartbeats 4000000
set_option maxRecDepth 100000
open Go.Proofs.Ytdommiicjpjfpaa Go.Proofs.Ytdommiicjpjfpaa.Pl
def sa.Ri (x:S51):Prop:=sa.Rt x.f1∧x.f0.toList ≠ []∧(x.f0.size:Int)≤32
def sa.Up (l:List S51):Prop:=∀ i,i+1 < l.length→Op.bytesLess (qAM l (i:Int)).f0.toList (qAM l ((i:Int)+1)).f0.toList=true
def sa.hvs:List S51→Int
 | []=>0
 | x :: l=>sa.hv x+sa.hvs l
def sa.RS (l:List S51):Prop:=(∀ x ∈ l,sa.Ri x)∧sa.Up l∧sa.hvs l≤32768∧l.length≤128
theorem sa.hv_pos (x:S51):0 < sa.hv x:=by unfold sa.hv;omega
theorem sa.hvs_pos:∀ l:List S51,0≤sa.hvs l
 | []=>Int.le_refl _
 | x :: l=>by
  have:=sa.hvs_pos l
  have:=sa.hv_pos x
  unfold sa.hvs
  omega
theorem sa.hvs_app:∀ (l m:List S51),sa.hvs (l ++ m)=sa.hvs l+sa.hvs m
 | [],m=>by simp [sa.hvs]
 | x :: l,m=>by
  have:=sa.hvs_app l m
  show sa.hv x+sa.hvs (l ++ m)=sa.hv x+sa.hvs l+sa.hvs m
  omega
theorem sa.heavy_all (x:S51) (hv:Val x.f1) (hs:x.f0.size≤140737488351232):(sa.Ri x∧Ev (fun k=>qAs.f k x.f0 x.f1.f0 x.f1.f1 x.f1.f2 x.f1.f3 x.f1.f4) (sa.hv x)) ∨ (¬ sa.Ri x∧Ev (fun k=>qAs.f k x.f0 x.f1.f0 x.f1.f1 x.f1.f2 x.f1.f3 x.f1.f4) 0):=by
 rcases sa.told1 x.f1 hv with ⟨hr,hp,_,hw⟩ | ⟨hn,_,hw⟩
 ·have hw2:=hr.2
  by_cases h0:x.f0.toList=[]
  ·refine Or.inr ⟨fun h=>h.2.1 h0, ?_⟩
   refine Ev.bind hw ?_
   rw [if_neg (by omega),if_pos h0]
   exact Ev.const
  by_cases h1:(x.f0.size:Int) > 32
  ·refine Or.inr ⟨fun h=>by have:=h.2.2;omega, ?_⟩
   refine Ev.bind hw ?_
   rw [if_neg (by omega),if_neg h0,if_pos h1]
   exact Ev.const
  ·refine Or.inl ⟨⟨hr,h0,by omega⟩, ?_⟩
   refine Ev.bind hw ?_
   rw [if_neg (by omega),if_neg h0,if_neg h1]
   have e:wrap64 (wrap64 (1+(x.f0.size:Int))+(wt x.f1:Int))=sa.hv x:=by unfold sa.hv wrap64;omega
   rw [e]
   exact Ev.const
 ·refine Or.inr ⟨fun h=>hn h.1, ?_⟩
  refine Ev.bind hw ?_
  rw [if_pos rfl]
  exact Ev.const
theorem sa.rd_take (l:List S51) (i:Nat) (hi:i < l.length):l.take (i+1)=l.take i ++ [qAM l (i:Int)]:=by
 have e:qAM l (i:Int)=l[i]:=by
  unfold qAM
  rw [Int.toNat_natCast,List.getD_eq_getElem?_getD,List.getElem?_eq_getElem hi]
  rfl
 rw [List.take_add_one,List.getElem?_eq_getElem hi,e]
 rfl
theorem sa.rd_mem (l:List S51) (i:Nat) (hi:i < l.length):qAM l (i:Int) ∈ l:=by
 have e:qAM l (i:Int)=l[i]:=by
  unfold qAM
  rw [Int.toNat_natCast,List.getD_eq_getElem?_getD,List.getElem?_eq_getElem hi]
  rfl
 rw [e]
 exact List.getElem_mem hi
theorem sa.hvs_take (l:List S51) (i:Nat):sa.hvs (l.take i)≤sa.hvs l:=by
 have h:=sa.hvs_app (l.take i) (l.drop i)
 rw [List.take_append_drop] at h
 have:=sa.hvs_pos (l.drop i)
 omega
theorem sa.right_ev (l:List S51) (hv:∀ x ∈ l,Val x.f1∧x.f0.size≤140737488351232) (hl:l.length≤9223372036854775000):∃ b,Ev (fun k=>qAZ.f k l) b∧(b=true ↔ sa.RS l):=by
 have main:∀ (d i:Nat),i+d=l.length→(∀ x ∈ l.take i,sa.Ri x)→(∀ j,j+1 < i→Op.bytesLess (qAM l (j:Int)).f0.toList (qAM l ((j:Int)+1)).f0.toList=true)→sa.hvs (l.take i)≤32768→∃ b,Ev (fun k=>qAZ.l0 k l (sa.hvs (l.take i)) l (l.length:Int) (i:Int)) b∧(b=true ↔ sa.RS l):=by
  intro d
  induction d with
  | zero =>
   intro i hi hR hU hw
   refine ⟨decide ((l.length:Int)≤128),Ev.step Ev.const (fun k=>by rw [qAZ.l0,if_neg (by omega)]), ?_⟩
   rw [List.take_of_length_le (by omega)] at hR hw
   rw [decide_eq_true_iff]
   exact ⟨fun h=>⟨hR,fun j hj=>hU j (by omega),hw,by omega⟩,fun h=>by have:=h.2.2.2;omega⟩
  | succ d ih =>
   intro i hi hR hU hw
   have hil:i < l.length:=by omega
   have hx:=sa.rd_mem l i hil
   have ht:=sa.rd_take l i hil
   have hno:∀ (a b:Int),Ev (fun k=>qAZ.j1 k l a b l (l.length:Int) (i:Int) true) false:=fun a b=>Ev.step Ev.const (fun k=>by rw [qAZ.j1,if_pos rfl])
   have hstep:∀ (F:Nat→Int→Option Bool) (b:Bool) (v:Int),(∀ k t,F k t=if t=0 then qAZ.j1 k l (sa.hvs (l.take i)) t l (l.length:Int) (i:Int) true else if (i:Int) > 0 then (if 0≤wrap64 ((i:Int) - 1) then (if wrap64 ((i:Int) - 1) < (l.length:Int) then qAZ.j1 k l (sa.hvs (l.take i)) t l (l.length:Int) (i:Int) (!(Op.bytesLess ((qAM l (wrap64 ((i:Int) - 1))).f0).toList ((qAM l (i:Int)).f0).toList)) else none) else none) else qAZ.j1 k l (sa.hvs (l.take i)) t l (l.length:Int) (i:Int) false) →
     Ev (fun k=>qAs.f k ((qAM l (i:Int)).f0) ((qAM l (i:Int)).f1.f0) ((qAM l (i:Int)).f1.f1) ((qAM l (i:Int)).f1.f2) ((qAM l (i:Int)).f1.f3) ((qAM l (i:Int)).f1.f4)) v→Ev (fun k=>F k v) b→Ev (fun k=>qAZ.l0 k l (sa.hvs (l.take i)) l (l.length:Int) (i:Int)) b:=fun F b v hF h1 h2 =>
    Ev.step (Ev.bind (F:=F) h1 h2) (fun k=>by
     rw [qAZ.l0,if_pos (by omega),if_pos (by omega),if_pos (by omega)]
     congr 1
     funext t
     rw [hF])
   have hgo:∀ (b:Bool),Ev (fun k=>qAZ.l0 k l (sa.hvs (l.take (i+1))) l (l.length:Int) ((i+1:Nat):Int)) b→sa.hvs (l.take (i+1))≤32768→Ev (fun k=>qAZ.j1 k l (sa.hvs (l.take i)) (sa.hv (qAM l (i:Int))) l (l.length:Int) (i:Int) false) b:=fun b h hle=>by
    have e:sa.hvs (l.take (i+1))=sa.hvs (l.take i)+sa.hv (qAM l (i:Int)):=by rw [ht,sa.hvs_app];simp [sa.hvs]
    have h0:=sa.hvs_pos (l.take i)
    have h1:=sa.hv_pos (qAM l (i:Int))
    have hw1:wrap64 (sa.hvs (l.take i)+sa.hv (qAM l (i:Int)))=sa.hvs (l.take (i+1)):=by unfold wrap64;omega
    have hw2:wrap64 ((i:Int)+1)=((i+1:Nat):Int):=by unfold wrap64;omega
    refine Ev.step h (fun k => ?_)
    rw [qAZ.j1,if_neg (by decide),hw1,if_neg (by omega),hw2]
   have hbig:sa.hvs (l.take (i+1)) > 32768→sa.hv (qAM l (i:Int))≤4000→Ev (fun k=>qAZ.j1 k l (sa.hvs (l.take i)) (sa.hv (qAM l (i:Int))) l (l.length:Int) (i:Int) false) false:=fun hgt h4=>by
    have e:sa.hvs (l.take (i+1))=sa.hvs (l.take i)+sa.hv (qAM l (i:Int)):=by rw [ht,sa.hvs_app];simp [sa.hvs]
    have h0:=sa.hvs_pos (l.take i)
    have h1:=sa.hv_pos (qAM l (i:Int))
    have hw1:wrap64 (sa.hvs (l.take i)+sa.hv (qAM l (i:Int)))=sa.hvs (l.take (i+1)):=by unfold wrap64;omega
    refine Ev.step (Ev.const (r:=false)) (fun k => ?_)
    rw [qAZ.j1,if_neg (by decide),hw1,if_pos hgt]
   rcases sa.heavy_all _ (hv _ hx).1 (hv _ hx).2 with ⟨hri,hh⟩ | ⟨hri,hh⟩
   ·have h4:sa.hv (qAM l (i:Int))≤4000:=by have:=hri.1.2;have:=hri.2.2;unfold sa.hv;omega
    have h1:=sa.hv_pos (qAM l (i:Int))
    have hRn:∀ x ∈ l.take (i+1),sa.Ri x:=fun x hx2=>by
     rw [ht] at hx2
     rcases List.mem_append.1 hx2 with hx2 | hx2
     ·exact hR x hx2
     ·rw [show x=_ by simpa using hx2];exact hri
    have hlast:∀ (hUn:∀ j,j+1 < i+1→Op.bytesLess (qAM l (j:Int)).f0.toList (qAM l ((j:Int)+1)).f0.toList=true),∃ b,Ev (fun k=>qAZ.j1 k l (sa.hvs (l.take i)) (sa.hv (qAM l (i:Int))) l (l.length:Int) (i:Int) false) b∧(b=true ↔ sa.RS l):=fun hUn=>by
     by_cases hle:sa.hvs (l.take (i+1))≤32768
     ·obtain ⟨b,h,hb⟩:=ih (i+1) (by omega) hRn hUn hle
      exact ⟨b,hgo b h hle,hb⟩
     ·exact ⟨false,hbig (by omega) h4,⟨fun h=>by (cases h),fun h=>by have:=h.2.2.1;have:=sa.hvs_take l (i+1);omega⟩⟩
    rcases Nat.eq_zero_or_pos i with h0 | h0
    ·subst h0
     obtain ⟨b,h,hb⟩:=hlast (fun j hj=>by omega)
     exact ⟨b,hstep _ b _ (fun k t=>rfl) hh (Ev.congr h (fun k=>by rw [if_neg (by omega),if_neg (by omega)])),hb⟩
    ·obtain ⟨p,rfl⟩:∃ p,i=p+1:=⟨i - 1,by omega⟩
     have hwp:wrap64 (((p+1:Nat):Int) - 1)=(p:Int):=by unfold wrap64;omega
     cases hlt:Op.bytesLess (qAM l (p:Int)).f0.toList (qAM l ((p+1:Nat):Int)).f0.toList with
     | true =>
      obtain ⟨b,h,hb⟩:=hlast (fun j hj=>by
       by_cases e:j=p
       ·subst e
        rw [show (j:Int)+1=((j+1:Nat):Int) by omega]
        exact hlt
       ·exact hU j (by omega))
      exact ⟨b,hstep _ b _ (fun k t=>rfl) hh (Ev.congr h (fun k=>by rw [if_neg (by omega),if_pos (by omega),hwp,if_pos (by omega),if_pos (by omega),hlt];rfl)),hb⟩
     | false =>
      refine ⟨false,hstep _ false _ (fun k t=>rfl) hh (Ev.congr (hno _ _) (fun k=>by rw [if_neg (by omega),if_pos (by omega),hwp,if_pos (by omega),if_pos (by omega),hlt];rfl)),⟨fun h=>by (cases h),fun h => ?_⟩⟩
      have:=h.2.1 p (by omega)
      rw [show (p:Int)+1=((p+1:Nat):Int) by omega,hlt] at this
      cases this
   ·refine ⟨false,hstep _ false _ (fun k t=>rfl) hh (Ev.congr (hno _ _) (fun k=>by rw [if_pos rfl])),⟨fun h=>by (cases h),fun h=>absurd (h.1 _ hx) hri⟩⟩
 obtain ⟨b,h,hb⟩:=main l.length 0 (by omega) (fun x hx=>by simp at hx) (fun j hj=>by omega) (by simp [sa.hvs])
 exact ⟨b,h,hb⟩
theorem sa.wenc_ev (x:S34) (hv:Val x) (hr:sa.Rt x):Ev (fun k=>qBb.f k x.f0 x.f1 x.f2 x.f3 x.f4) (en x,0):=by
 rcases sa.told1 x hv with ⟨_,_,hR,_⟩ | ⟨hn,_,_⟩
 ·have hlen:=(en_len x hv).1
  have hw:=hr.2
  have hp:=put_ev x hv (sa.okV_frm 8 x hr.1) [] (by simp only [List.length_nil];omega)
  refine Ev.bind (F:=fun k ok=>if ok=true then (qA4.f []).bind fun b=>(qAQ.f k b x.f0 x.f1 x.f2 x.f3 x.f4).bind fun r=>some (r,0) else some ([],40)) hR ?_
  refine Ev.congr (h:=fun k=>(qAQ.w k [] x.f0 x.f1 x.f2 x.f3 x.f4).bind fun r=>some (r,0)) (Ev.bind (F:=fun k r=>some (r,0)) hp Ev.const) (fun k => ?_)
  rw [if_pos rfl]
  rfl
 ·exact absurd hr hn
def sa.e51 (x:S51):List Int:=X.str x.f0 ++ en x.f1
def sa.enS (l:List S51):List Int:=[83,83,84,49] ++ lst sa.e51 l
def sa.EncS (l:List S51) (w:World) (e:Ending) (w':World):Prop :=
 (¬ sa.RS l∧e=.returned (.tuple #[.slice none 0 0,.int .i64 70])∧Below w.heap.size w w') ∨
 (sa.RS l∧∃ v,e=.returned (.tuple #[v,.int .i64 0])∧(Kd.int .u8).R 5 w' w.heap.size (fun _=>True) v (sa.enS l)∧Below w.heap.size w w')
theorem sa.encS_bad {l:List S51} {w w':World} {e:Ending} (h:¬ sa.RS l) (he:e=.returned (.tuple #[.slice none 0 0,.int .i64 70])) (hb:Below w.heap.size w w'):sa.EncS l w e w':=Or.inl ⟨h,he,hb⟩
theorem sa.encS_ok {l:List S51} {w w':World} {e:Ending} {v:Value} {d:List Int} (h:sa.RS l) (he:e=.returned (.tuple #[v,.int .i64 0])) (hd:d=sa.enS l) (hr:(Kd.int .u8).R 5 w' w.heap.size (fun _=>True) v d) (hb:Below w.heap.size w w'):sa.EncS l w e w':=Or.inr ⟨h,v,he,hd▸hr,hb⟩
theorem sa.magic_row (W:World):(Kd.int .u8).C (W.alloc (.cells #[.int .u8 83,.int .u8 83,.int .u8 84,.int .u8 49] 5 (4,5))) (some ⟨W.heap.size,0,none⟩) 4 [83,83,84,49] :=
 Kd.C_of_reads (enc:=Value.int .u8) (d:=(0:Int)) (h1:=fun _=>rfl) ⟨rfl,by decide,fun _=>⟨_,rfl,fun j hj=>by
  have hj:j < 4:=hj
  rw [add_plain,cell_of_row _ W.heap.size j _ 5 (4,5) (heap_alloc_new W _)]
  obtain rfl | rfl | rfl | rfl:j=0 ∨ j=1 ∨ j=2 ∨ j=3:=by omega
  all_goals rfl⟩⟩
theorem sa.flat_le {α:Type} (c:α→List Int) (m:Nat):∀ (l:List α),(∀ x ∈ l,(c x).length≤m)→((l.map c).flatten).length≤m * l.length
 | [],_=>by simp
 | x :: l,h=>by
  have h1:=sa.flat_le c m l (fun y hy=>h y (List.mem_cons_of_mem _ hy))
  have h2:=h x List.mem_cons_self
  simp only [List.map_cons,List.flatten_cons,List.length_append,List.length_cons]
  rw [Nat.mul_add,Nat.mul_one]
  omega
theorem sa.e51_len {x:S51} (hv:Val x.f1) (h:sa.Ri x):(sa.e51 x).length≤30000:=by
 have h1:=(en_len x.f1 hv).1
 have h2:=h.1.2
 have h3:=h.2.2
 have h4:=qBe (x.f0.size:Int)
 unfold sa.e51 X.str
 simp only [List.length_append,qBB]
 omega
set_option maxHeartbeats 8000000 in
theorem sa.enc24 {l:List S51} {A:Option Addr} {c:Nat} (w:World) (hA:k51.C w A l.length l) (hc:l.length≤c) (hv:∀ x ∈ l,Val x.f1∧x.f0.size≤140737488351232) (hl:l.length≤9223372036854775000) :
  Calls Try.prog 24 #[.slice A l.length c] w (sa.EncS l w):=by
 have hu51:=Try.underlying51
 have hu44:=Try.underlying44
 have hu34:=Try.underlying34
 obtain ⟨b,⟨K,hK⟩,hb⟩:=sa.right_ev l hv hl
 have RC:=qAA.mk (qAZ.calls K A c l b w hA hc (hK K (Nat.le_refl _)))
 cases b with
 | false =>
  have hn:¬ sa.RS l:=fun h=>by cases hb.2 h
  clear hb hK
  go_enter Try.func24,Try.ntmps24
  go_wp2_with (first | (go_at_call 25;refine RC.out.mono ?_;rintro e_ w2 ⟨rfl,hb⟩;have B2:=qAA.mk hb;clear hb))
  go_ret2
  exact sa.encS_bad hn rfl B2.out
 | true =>
  have hR:=hb.1 rfl
  have HR:=qAA.mk hR
  have HA:=qAA.mk hA
  have HV:=qAA.mk hv
  have HN:=qAA.mk hR.2.2.2
  have hw:IntKind.u64.wrap (l.length:Int)=(l.length:Int):=u64w _ (by omega) (by have:=hR.2.2.2;omega)
  have PUT:=qAA.mk (fun (W:World) (B:Option Addr) (hC:(Kd.int .u8).C W B 4 [83,83,84,49])=>show Calls Try.prog 46 #[.slice B 4 4,.int .u64 (l.length:Int)] W (fun e w'=>∃ v,e=.returned v∧(Kd.int .u8).R 5 w' W.heap.size (fun _=>True) v ([83,83,84,49] ++ putU (l.length:Int))∧Below W.heap.size W w') from qAc.calls 10 B 4 [83,83,84,49] (l.length:Int) ([83,83,84,49] ++ putU (l.length:Int)) W hC (by decide) (qCC 10 [83,83,84,49] (l.length:Int) (Nat.le_refl _) (by omega) (by have:=hR.2.2.2;omega) (by simp)))
  have kc:=fun (w:World) (C:Array Value) (n c:Nat)=>Lib.run_convert_bytes_const (P:=Try.prog) w 44 5 C n c Try.underlying44 Try.underlying5
  clear hb hK hA hc hv hl hR
  go_enter Try.func24,Try.ntmps24
  go_wp2_with (first | (go_at_call 25;refine RC.out.mono ?_;rintro e_ w2 ⟨rfl,hb⟩;have B2:=qAA.mk hb;clear hb) | (go_at_call 46;refine (PUT.out _ _ (sa.magic_row w2)).mono ?_;rintro e_ w3 ⟨v3,rfl,hr,hb⟩;have B3:=qAA.mk (qAX (qAF B2.out _) hb);have R3:=qAA.mk (Kd.qBn hr (Nat.le_trans B2.out.size (qAF (Below.refl w2.heap.size w2) _).size));clear hr hb))
  go_loopw [20,4] (fun v20 v4 wr=>∃ (j:Nat) (d:List Int),v20=.int .i64 (j:Int)∧qAA (j≤l.length∧d=[83,83,84,49] ++ (putU (l.length:Int) ++ ((l.take j).map sa.e51).flatten))∧qAA ((Kd.int .u8).R 5 wr w.heap.size (fun _=>True) v4 d)∧qAA (Below w.heap.size w wr)) (fun v20 _ _=>l.length - (intOf v20).toNat)
  case atStart=>exact ⟨0,[83,83,84,49] ++ putU (l.length:Int),rfl,⟨Nat.zero_le _,by simp⟩,R3,B3⟩
  case round =>
   clear R3 B3 B2
   obtain ⟨j,d,rfl,HJ,HO,HB⟩:=hrel
   obtain ⟨B,cb,e4⟩:=Kd.qBV HO.out
   subst e4
   by_cases hlt:j < l.length
   ·have k1:decide ((j:Int) < (l.length:Int))=true:=decide_eq_true (by omega)
    have k2:decide (j < l.length)=true:=decide_eq_true hlt
    have k3:(j < l.length)=True:=eq_true hlt
    have k4:(j:Int) < (l.length:Int):=by omega
    have HWR:=qAA.mk (show wrap64 ((j:Int)+1)=(j:Int)+1 from by have:=HN.out;unfold wrap64;omega)
    have hx:=sa.rd_mem l j hlt
    have ht:=sa.rd_take l j hlt
    have hlen:d.length≤5000000:=by
     have h1:=sa.flat_le sa.e51 30000 (l.take j) (fun y hy=>sa.e51_len (HV.out y (List.mem_of_mem_take hy)).1 (HR.out.1 y (List.mem_of_mem_take hy)))
     have h2:=qBe (l.length:Int)
     have h3:(l.take j).length≤128:=by rw [List.length_take];have:=HN.out;omega
     have h4:30000 * (l.take j).length≤30000 * 128:=Nat.mul_le_mul_left _ h3
     rw [HJ.out.2]
     simp only [List.length_append,List.length_cons,List.length_nil]
     omega
    obtain ⟨ad,A4,c4,A5,c5,ea,h0,h1,h2,h3,h4,h5,l4,g4,l5,g5⟩:=qB6 (Kd.qAa HA.out HB.out) (j:Int) (by omega) k4
    subst ea
    rw [Int.toNat_natCast] at h0 h1 h2 h3 h4 h5
    generalize qAM l (j:Int)=x at *
    have hri:=HR.out.1 x hx
    have hvx:=(HV.out x hx).1
    obtain ⟨KE,hKE⟩:=sa.wenc_ev x.f1 hvx hri.1
    have EN:=qAA.mk (fun (W:World) (q4:k34.C W A4 x.f1.f3.length x.f1.f3) (q5:Kd.string.C W A5 x.f1.f4.length x.f1.f4)=>qBb.calls KE x.f1.f0 x.f1.f1 x.f1.f2 A4 c4 x.f1.f3 A5 c5 x.f1.f4 (en x.f1) 0 W q4 l4 q5 l5 (hKE KE (Nat.le_refl _)))
    have hel:(en x.f1).length≤30000:=by have h1:=(en_len x.f1 hvx).1;have h2:=hri.1.2;omega
    have PTX:=qAA.mk (fun (W:World) (hC:(Kd.int .u8).C W B d.length d) (hcb:d.length≤cb)=>qAw.calls 10 B cb d x.f0 (d ++ putU x.f0.size ++ bytesOf x.f0) W hC hcb (PutText_eq 10 d x.f0 (Nat.le_refl _) (by have:=hri.2.2;omega)))
    have HD2:=qAA.mk (show (d ++ putU x.f0.size ++ bytesOf x.f0) ++ en x.f1=[83,83,84,49] ++ (putU (l.length:Int) ++ ((l.take (j+1)).map sa.e51).flatten) from by
     rw [HJ.out.2,ht]
     simp [sa.e51,X.str])
    have hpl:=qBe (x.f0.size:Int)
    have HL2:=qAA.mk (show ((d ++ putU x.f0.size ++ bytesOf x.f0).length+(en x.f1).length) * 1≤140737488355328 from by
     have:=hri.2.2
     simp only [List.length_append,qBB]
     omega)
    generalize d ++ putU x.f0.size ++ bytesOf x.f0=d2 at *
    have G4:=qAA.mk g4;have G5:=qAA.mk g5
    have LB:=qAA.mk (show (wr.alloc (.cells #[.string x.f0,.int .i64 x.f1.f0,.int .i64 x.f1.f1,.string x.f1.f2,.slice A4 x.f1.f3.length c4,.slice A5 x.f1.f4.length c5] 51)).heap[wr.heap.size]?=some (.cells #[.string x.f0,.int .i64 x.f1.f0,.int .i64 x.f1.f1,.string x.f1.f2,.slice A4 x.f1.f3.length c4,.slice A5 x.f1.f4.length c5] 51 (0,0)) by simpa using heap_alloc_new wr _)
    have HJ2:=qAA.mk (show j+1≤l.length from hlt)
    clear hlt hx ht hlen hri hvx hKE hel hpl g4 g5 l4 l5 HJ
    go_wp2_with (first | (go_at_call 47;refine (EN.out _ (Kd.qAl G4.out _) (Kd.qAl G5.out _)).mono ?_;rintro e_ w5 ⟨Av,cv,rfl,hr,hle,hb⟩;have RV:=qAA.mk hr;have BV:=qAA.mk hb;have LB5:=qAA.mk (qAb LB.out hb);have O5:=qAA.mk (Kd.qA2 (Kd.qBp HO.out (.cells #[.string x.f0,.int .i64 x.f1.f0,.int .i64 x.f1.f1,.string x.f1.f2,.slice A4 x.f1.f3.length c4,.slice A5 x.f1.f4.length c5] 51)) hb);have B5:=qAA.mk (qAg (qAF HB.out (.cells #[.string x.f0,.int .i64 x.f1.f0,.int .i64 x.f1.f1,.string x.f1.f2,.slice A4 x.f1.f3.length c4,.slice A5 x.f1.f4.length c5] 51)) (qAF HB.out _).size hb);clear hr hle hb h0 h1 h2 h3 h4 h5;have y0:=(qAB LB5.out 0).trans rfl) | (go_at_call 48;refine (PTX.out _ (Kd.R_reads' O5.out).2.2 (Kd.R_reads' O5.out).2.1).mono ?_;rintro e_ w6 ⟨v6,rfl,hr,hb⟩;have R6:=qAA.mk (Kd.qBn hr B5.out.size);have RV6:=qAA.mk (Kd.qAa RV.out hb);have B6:=qAA.mk (qAg B5.out B5.out.size hb);clear hr hb y0) | ((with_reducible refine qB5 (b:=.append) (xs:=#[.tmp 33,.tmp 34]) rfl ?_);at_builtin;refine Kd.R_append_rows (Kd.int .u8) (w0:=w) w.heap.size rfl (.tmp 33) (.tmp 34) 44 5 (.int .u8 0) 1 rfl Try.underlying44 info5 rfl (by decide) (by omega) v6 d2 (en x.f1) _ _ _ (fun _=>True) (fun _=>False) rfl rfl ?aO ?aR (fun _ _ h=>h) (fun _ h=>h.elim) ?aF ?aB ?aS ?aL ?_;(case aO=>exact R6.out);(case aR=>exact RV6.out);(case aF=>exact fun _ _=>trivial);(case aB=>exact B6.out);(case aS=>exact B6.out.size);(case aL=>exact HL2.out);intro v7 w7 ho hb hg hat;have R7:=qAA.mk ho;have B7:=qAA.mk hb;clear ho hb hg hat))
    go_roundw
    case rel=>exact ⟨j+1,_,by rw [HWR.out];rfl,⟨HJ2.out,HD2.out⟩,R7,B7⟩
    case measure =>
     rw [HWR.out]
     show l.length - ((j:Int)+1).toNat < l.length - ((j:Int)).toNat
     have:=HJ2.out
     omega
   ·have k1:decide ((j:Int) < (l.length:Int))=false:=decide_eq_false (by omega)
    have k2:decide (j < l.length)=false:=decide_eq_false hlt
    have k3:(j < l.length)=False:=eq_false hlt
    have HD:=qAA.mk (show d=sa.enS l from by
     rw [HJ.out.2,List.take_of_length_le (by omega)]
     rfl)
    clear hlt
    go_wp2
    go_ret2
    exact sa.encS_ok HR.out rfl HD.out HO.out HB.out
end
end Go.Proofs.Ytdommiicjpjfpaa.X
namespace Go.Proofs.Ytdommiicjpjfpaa.X
open Go.RowKit Go.Proofs.YtdommiicjpjfpaaW.PrintWords Go.Proofs.YtdommiicjpjfpaaW.PrintLast Go.Proofs.YtdommiicjpjfpaaW.PrintMore Go.Proofs.YtdommiicjpjfpaaW
section
set_option maxHeartbeats 1000000
set_option maxRecDepth 100000
open Go.Proofs.Ytdommiicjpjfpaa Go.Proofs.Ytdommiicjpjfpaa.Pl
def sa.flat (l:List S51):List Int:=(l.map sa.e51).flatten
theorem sa.flat_app (l m:List S51):sa.flat (l ++ m)=sa.flat l ++ sa.flat m:=by unfold sa.flat;simp
theorem sa.flat_one (x:S51):sa.flat [x]=sa.e51 x:=by unfold sa.flat;simp
theorem sa.rd_left (l m:List S51) (i:Nat) (h:i < l.length):qAM (l ++ m) (i:Int)=qAM l (i:Int):=by
 unfold qAM
 rw [Int.toNat_natCast,List.getD_eq_getElem?_getD,List.getD_eq_getElem?_getD,List.getElem?_append_left h]
theorem sa.rd_mid (l m:List S51) (x:S51):qAM (l ++ x :: m) ((l.length:Nat):Int)=x:=by
 unfold qAM
 rw [Int.toNat_natCast,List.getD_eq_getElem?_getD,List.getElem?_append_right (Nat.le_refl _),Nat.sub_self]
 rfl
theorem sa.up_snoc {l:List S51} {x:S51} (h:sa.Up l) (hx:0 < l.length→Op.bytesLess (qAM l ((l.length:Int) - 1)).f0.toList x.f0.toList=true):sa.Up (l ++ [x]):=by
 intro i hi
 rw [List.length_append,List.length_singleton] at hi
 by_cases e:i+1 < l.length
 ·rw [show (i:Int)+1=((i+1:Nat):Int) by omega,sa.rd_left l [x] i (by omega),sa.rd_left l [x] (i+1) e]
  have:=h i e
  rwa [show (i:Int)+1=((i+1:Nat):Int) by omega] at this
 ·have hl:i+1=l.length:=by omega
  have h1:=hx (by omega)
  rw [show (i:Int)+1=((l.length:Nat):Int) by omega,sa.rd_mid l [] x,sa.rd_left l [x] i (by omega)]
  rwa [show (l.length:Int) - 1=(i:Int) by omega] at h1
theorem sa.entF_told {bs:List Int} (hb:Bytes bs) (hl:bs.length≤140737488351232) {a all:Int} {l l2:List S51} {a2 all2:Int} (h:sa.entF bs a all l=.ok l2 a2 all2) :
  ∃ x,l2=l ++ [x]∧sa.Ri x∧Val x.f1∧Siz x.f1∧(0 < l.length→Op.bytesLess (qAM l ((l.length:Int) - 1)).f0.toList x.f0.toList=true)∧all2=all+sa.hv x∧all2≤32768∧0≤a∧a≤a2∧a2≤(bs.length:Int)∧bs.drop a.toNat=sa.e51 x ++ bs.drop a2.toNat:=by
 unfold sa.entF at h
 have ht:=fun q=>textAt_ok (l:=bs) hb (a:=a) (most:=32) q
 have hs:=fun q=>textAt_small (l:=bs) hb (a:=a) (most:=32) (by omega) q
 generalize qBY bs a 32=t at *
 obtain ⟨s,n1,e1⟩:=t
 dsimp only at h ht hs
 by_cases h1:e1 ≠ 0
 ·rw [if_pos h1] at h;cases h
 rw [if_neg h1] at h
 have he:e1=0:=Classical.byContradiction h1
 obtain ⟨q0,q1,q2,q3⟩:=ht he
 have hsz:=hs he
 by_cases h2:s.toList=[] ∨ (0 < l.length∧¬ Op.bytesLess (qAM l ((l.length:Int) - 1)).f0.toList s.toList=true)
 ·rw [if_pos h2] at h;cases h
 rw [if_neg h2] at h
 have hne:s.toList ≠ []:=fun q=>h2 (Or.inl q)
 have hup:0 < l.length→Op.bytesLess (qAM l ((l.length:Int) - 1)).f0.toList s.toList=true:=fun q=>Classical.byContradiction fun r=>h2 (Or.inr ⟨q,r⟩)
 rcases hr:sa.takeS bs (qAe bs) (intAt bs) n1 with ⟨x,b2,l3⟩ | ⟨ee,pp⟩
 ·rw [hr] at h
  dsimp only at h
  obtain ⟨v1,v2,v3,v4,v5,v6,v7,_⟩:=sa.takeS_ok hb hl hr
  split at h
  ·cases h
  ·rename_i hq
   injection h with g1 g2 g3
   subst g1;subst g2;subst g3
   refine ⟨⟨s,x⟩,rfl,⟨v3,hne,hsz⟩,v1,v2,hup,rfl,by omega,q0,by omega,v6, ?_⟩
   rw [q3,v7]
   unfold sa.e51 X.str
   simp only [List.append_assoc]
 ·rw [hr] at h;cases h
theorem sa.decL_told {bs:List Int} (hb:Bytes bs) (hl:bs.length≤140737488351232):∀ (k:Nat) (a all:Int) (l l2:List S51) (a2 all2:Int),sa.decL bs k a all l=.ok l2 a2 all2→(∀ x ∈ l,sa.Ri x∧Val x.f1∧Siz x.f1)→sa.Up l→all=sa.hvs l→all≤32768→0≤a→a≤(bs.length:Int) →
  (∀ x ∈ l2,sa.Ri x∧Val x.f1∧Siz x.f1)∧sa.Up l2∧all2=sa.hvs l2∧all2≤32768∧0≤a2∧a2≤(bs.length:Int)∧l2.length=l.length+k∧sa.flat l ++ bs.drop a.toNat=sa.flat l2 ++ bs.drop a2.toNat
 | 0,a,all,l,l2,a2,all2,h,hR,hU,hw,hw2,h0,h1=>by
  unfold sa.decL at h
  injection h with e1 e2 e3
  subst e1;subst e2;subst e3
  exact ⟨hR,hU,hw,hw2,h0,h1,rfl,rfl⟩
 | k+1,a,all,l,l2,a2,all2,h,hR,hU,hw,hw2,h0,h1=>by
  unfold sa.decL at h
  rcases hr:sa.entF bs a all l with ⟨l3,a3,all3⟩ | ⟨ee,pp⟩
  ·rw [hr] at h
   dsimp only at h
   obtain ⟨x,rfl,x1,x2,x3,x4,x5,x6,x7,x8,x9,x10⟩:=sa.entF_told hb hl hr
   obtain ⟨y1,y2,y3,y4,y5,y6,y7,y8⟩:=sa.decL_told hb hl k a3 all3 (l ++ [x]) l2 a2 all2 h (fun y hy=>by
    rcases List.mem_append.1 hy with hy | hy
    ·exact hR y hy
    ·rw [show y=x by simpa using hy];exact ⟨x1,x2,x3⟩) (sa.up_snoc hU x4) (by rw [sa.hvs_app,x5,hw];simp [sa.hvs]) x6 (by omega) x9
   refine ⟨y1,y2,y3,y4,y5,y6,by rw [y7,List.length_append,List.length_singleton];omega, ?_⟩
   rw [← y8,sa.flat_app,sa.flat_one,x10,List.append_assoc]
  ·rw [hr] at h;cases h
theorem sa.decF_sound {bs:List Int} (hb:Bytes bs) (hl:bs.length≤140737488351232) {p:Int} {l:List S51} (h:sa.decF bs=(0,p,l)):sa.RS l∧(∀ x ∈ l,Val x.f1∧Siz x.f1)∧sa.enS l=bs∧p=0:=by
 unfold sa.decF at h
 by_cases h1:(bs.length:Int) < 4 ∨ bs.take 4 ≠ [83,83,84,49]
 ·rw [if_pos h1] at h;injection h with h _;cases h
 rw [if_neg h1] at h
 have hm:bs.take 4=[83,83,84,49]:=Classical.byContradiction fun q=>h1 (Or.inr q)
 by_cases h2:(qAe bs 4).2.2 ≠ 0
 ·rw [if_pos h2] at h;injection h with h _;cases h
 rw [if_neg h2] at h
 have hu:=qBU bs hb 4 (Classical.byContradiction h2)
 have hr:=qBD bs hb 4
 by_cases h3:(qAe bs 4).1 > 128
 ·rw [if_pos h3] at h;injection h with h _;cases h
 rw [if_neg h3] at h
 generalize qAe bs 4=u at *
 obtain ⟨n1,nx,e1⟩:=u
 dsimp only at h hu hr h3
 rcases hd:sa.decL bs n1.toNat nx 0 [] with ⟨l2,a2,all2⟩ | ⟨cc,pp⟩
 ·rw [hd] at h
  dsimp only at h
  obtain ⟨y1,y2,y3,y4,y5,y6,y7,y8⟩:=sa.decL_told hb hl _ _ _ _ _ _ _ hd (fun x hx=>by simp at hx) (fun i hi=>by simp at hi) rfl (by omega) (by omega) (by omega)
  by_cases h5:a2 < (bs.length:Int)
  ·rw [if_pos h5] at h;injection h with h _;cases h
  rw [if_neg h5] at h
  injection h with _ h
  injection h with g1 g2
  subst g2
  refine ⟨⟨fun x hx=>(y1 x hx).1,y2,by omega,by rw [y7];simp;omega⟩,fun x hx=>(y1 x hx).2, ?_,g1.symm⟩
  have hd0:bs.drop a2.toNat=[]:=List.drop_eq_nil_of_le (by omega)
  rw [hd0,List.append_nil] at y8
  have hfl:bs.drop nx.toNat=sa.flat l2:=by rw [← y8];simp [sa.flat]
  have hln:(l2.length:Int)=n1:=by rw [y7];simp;omega
  unfold sa.enS X.lst
  rw [hln,show (l2.map sa.e51).flatten=bs.drop nx.toNat from hfl.symm,← hm,← hu.2.2.2.2]
  have e2:(bs.drop 4).take (nx - 4).toNat ++ bs.drop nx.toNat=bs.drop 4:=by
   conv=>rhs;rw [← List.take_append_drop (nx - 4).toNat (bs.drop 4)]
   rw [List.drop_drop]
   congr 2
   omega
  rw [show ((4:Int)).toNat=4 from rfl,e2,List.take_append_drop]
 ·rw [hd] at h
  dsimp only at h
  injection h with hc h
  exfalso
  have hbad:∀ (k:Nat) (a all:Int) (l:List S51),sa.decL bs k a all l=.bad cc pp→cc ≠ 0:=by
   intro k
   induction k with
   | zero=>intro a all l q;unfold sa.decL at q;cases q
   | succ k ih =>
    intro a all l q
    unfold sa.decL at q
    rcases hr2:sa.entF bs a all l with ⟨l3,a3,all3⟩ | ⟨ee,pp⟩
    ·rw [hr2] at q;exact ih a3 all3 l3 q
    ·rw [hr2] at q
     injection q with q1 q2
     subst q1
     unfold sa.entF at hr2
     split at hr2
     ·injection hr2 with r1 _;omega
     split at hr2
     ·injection hr2 with r1 _;omega
     split at hr2
     ·injection hr2 with r1 _;omega
     ·split at hr2
      ·injection hr2 with r1 _;omega
      ·cases hr2
  exact hbad _ _ _ _ hd hc
theorem sa.decL_place {bs:List Int} (hb:Bytes bs) (hl:bs.length≤140737488351232) {cc pp:Int}:∀ (k:Nat) (a all:Int) (l:List S51),0≤a→a≤(bs.length:Int)→sa.decL bs k a all l=.bad cc pp→0≤pp∧pp≤(bs.length:Int):=by
 intro k
 induction k with
 | zero=>intro a all l _ _ q;unfold sa.decL at q;cases q
 | succ k ih =>
  intro a all l h0 h1 q
  unfold sa.decL at q
  rcases hr2:sa.entF bs a all l with ⟨l3,a3,all3⟩ | ⟨ee,p2⟩
  ·rw [hr2] at q
   obtain ⟨x,_,_,_,_,_,_,_,_,h5,h6,_⟩:=sa.entF_told hb hl hr2
   exact ih a3 all3 l3 (by omega) h6 q
  ·rw [hr2] at q
   injection q with q1 q2
   subst q2
   unfold sa.entF at hr2
   split at hr2
   ·injection hr2 with _ r1;omega
   split at hr2
   ·injection hr2 with _ r1;omega
   split at hr2
   ·rename_i hk
    injection hr2 with _ r1
    subst r1
    exact (sa.takeS_bad hb hl hk).2
   ·split at hr2
    ·injection hr2 with _ r1;omega
    ·cases hr2
theorem sa.decF_bad {bs:List Int} (hb:Bytes bs) (hl:bs.length≤140737488351232) {c p:Int} {l:List S51} (h:sa.decF bs=(c,p,l)) (hc:c ≠ 0):l=[]∧0≤p∧p≤(bs.length:Int):=by
 unfold sa.decF at h
 by_cases h1:(bs.length:Int) < 4 ∨ bs.take 4 ≠ [83,83,84,49]
 ·rw [if_pos h1] at h;injection h with _ h;injection h with e1 e2;exact ⟨e2.symm,by omega,by omega⟩
 rw [if_neg h1] at h
 have h4:4≤(bs.length:Int):=Int.not_lt.1 fun q=>h1 (Or.inl q)
 by_cases h2:(qAe bs 4).2.2 ≠ 0
 ·rw [if_pos h2] at h;injection h with _ h;injection h with e1 e2;exact ⟨e2.symm,by omega,by omega⟩
 rw [if_neg h2] at h
 have hu:=qBU bs hb 4 (Classical.byContradiction h2)
 by_cases h3:(qAe bs 4).1 > 128
 ·rw [if_pos h3] at h;injection h with _ h;injection h with e1 e2;exact ⟨e2.symm,by omega,by omega⟩
 rw [if_neg h3] at h
 rcases hd:sa.decL bs (qAe bs 4).1.toNat (qAe bs 4).2.1 0 [] with ⟨l2,a2,all2⟩ | ⟨cc,pp⟩
 ·rw [hd] at h
  dsimp only at h
  obtain ⟨_,_,_,_,y5,y6,_,_⟩:=sa.decL_told hb hl _ _ _ _ _ _ _ hd (fun x hx=>by simp at hx) (fun i hi=>by simp at hi) rfl (by omega) (by omega) (by omega)
  by_cases h5:a2 < (bs.length:Int)
  ·rw [if_pos h5] at h;injection h with _ h;injection h with e1 e2;exact ⟨e2.symm,by omega,by omega⟩
  ·rw [if_neg h5] at h;injection h with h _;exact absurd h.symm hc
 ·rw [hd] at h
  dsimp only at h
  injection h with _ h
  injection h with e1 e2
  have:=sa.decL_place hb hl _ _ _ _ (by omega) (by omega) hd
  exact ⟨e2.symm,by omega,by omega⟩
end
end Go.Proofs.Ytdommiicjpjfpaa.X
namespace Go.Proofs.Ytdommiicjpjfpaa.X
open Go.RowKit Go.Proofs.YtdommiicjpjfpaaW.PrintWords Go.Proofs.YtdommiicjpjfpaaW.PrintLast Go.Proofs.YtdommiicjpjfpaaW.PrintMore Go.Proofs.YtdommiicjpjfpaaW
section
set_option maxHeartbeats 400000
set_option maxRecDepth 100000
open Go.Proofs.Ytdommiicjpjfpaa Go.Proofs.Ytdommiicjpjfpaa.Pl
def sa.x0:S51:=⟨⟨#[98]⟩,⟨1,1,⟨#[]⟩,[],[]⟩⟩
theorem sa.x0_val:Val sa.x0.f1:=Val.mk _ (by decide) (by decide) (by decide) (by decide) (by decide) (by decide) (by decide) (fun s hs=>by cases hs) (fun y hy=>by cases hy)
theorem sa.x0_rt:sa.Rt sa.x0.f1:=by
 refine ⟨sa.okV.mk (d:=7) (by unfold qAh.b;simp [wrap64]) (fun h=>absurd h (by decide)) (fun y hy=>by cases hy), ?_⟩
 rw [show wt sa.x0.f1=1+(⟨#[]⟩:ByteArray).size from sa.wt_leaf 1 1 ⟨#[]⟩]
 decide
theorem sa.x0_rs:sa.RS [sa.x0]:=by
 have hs:(sa.x0.f0.size:Int)=1:=rfl
 have hl:sa.x0.f0.toList=[98]:=by show (⟨#[98]⟩:ByteArray).toList=[98];rw [ByteArray.toList_eq]
 refine ⟨fun x hx => ?_,fun i hi=>by simp at hi, ?_,by simp⟩
 ·rw [show x=sa.x0 by simpa using hx]
  exact ⟨sa.x0_rt,by rw [hl];simp,by omega⟩
 ·have:=sa.x0_rt.2
  show sa.hv sa.x0+0≤32768
  unfold sa.hv
  omega
theorem sa.x0_en:sa.enS [sa.x0]=[83,83,84,49,1,1,98,2]:=by
 unfold sa.enS X.lst sa.e51 X.str
 simp only [List.map_cons,List.map_nil,List.flatten_cons,List.flatten_nil,List.append_nil]
 rw [en1 (x:=sa.x0.f1) rfl]
 rfl
theorem sa.x0_row (w:World):k51.C (w.alloc (.cells #[.string ⟨#[98]⟩,.int .i64 1,.int .i64 1,.string ⟨#[]⟩,.slice none 0 0,.slice none 0 0] 51)) (some ⟨w.heap.size,0,none⟩) 1 [sa.x0]:=by
 refine ⟨rfl,by simp,fun _=>⟨_,rfl,fun j p hj => ?_⟩⟩
 obtain ⟨hj0,hp⟩:=List.getElem?_eq_some_iff.1 hj
 have hj0:j < 1:=hj0
 obtain rfl:j=0:=by omega
 obtain rfl:sa.x0=p:=hp
 refine ⟨[.string ⟨#[98]⟩,.int .i64 1,.int .i64 1,.string ⟨#[]⟩,.slice none 0 0,.slice none 0 0],rfl,k51_mk _ sa.x0 (A4:=none) (c4:=0) (Nat.le_refl _) (Kd.C_nil k34 _) (A5:=none) (c5:=0) (Nat.le_refl _) (Kd.C_nil Kd.string _),fun i u hu => ?_⟩
 rw [add_plain,qAB (blk_new w _) _]
 simpa using hu
theorem sa.encY {l:List S51} {A:Option Addr} {c:Nat} (w:World) (hA:k51.C w A l.length l) (hc:l.length≤c) (hv:∀ x ∈ l,Val x.f1∧x.f0.size≤140737488351232) (hl:l.length≤9223372036854775000) (h:sa.RS l) :
  Calls Try.prog 24 #[.slice A l.length c] w fun e w'=>∃ v,e=.returned (.tuple #[v,.int .i64 0])∧(Kd.int .u8).R 5 w' w.heap.size (fun _=>True) v (sa.enS l)∧Below w.heap.size w w' :=
 (sa.enc24 w hA hc hv hl).mono fun e w' q=>by
  rcases q with q | q
  ·exact absurd h q.1
  ·exact q.2
theorem sa.shown9 (w:World):Calls Try.prog 9 #[] w fun e w'=>e=.returned (.bool true)∧Below w.heap.size w w':=by
 have hu51:=Try.underlying51
 have hu34:=Try.underlying34
 have hx:∀ x ∈ [sa.x0],Val x.f1∧x.f0.size≤140737488351232:=fun x hx=>by
  rw [show x=sa.x0 by simpa using hx]
  exact ⟨sa.x0_val,by show (1:Nat)≤140737488351232;omega⟩
 have EN:=qAA.mk (sa.encY (l:=[sa.x0]) (c:=1) _ (sa.x0_row w) (Nat.le_refl _) hx (by show (1:Nat)≤9223372036854775000;omega) sa.x0_rs)
 clear hx
 rw [sa.x0_en] at EN
 have hst:strOfNums [83,83,84,49,1,1,98,2]=⟨#[83,83,84,49,1,1,98,2]⟩:=by rfl
 go_enter Try.func9,Try.ntmps9
 go_wp2_with (first | (go_at_call 24;refine EN.out.mono ?_;rintro e_ w2 ⟨v0,rfl,hr,hb⟩;obtain ⟨A9,c9,e9⟩:=Kd.qBV hr;subst e9;have R2:=Kd.C_string (P:=Try.prog) (c:=c9) Try.underlying44 Try.underlying5 Try.underlying9 (Kd.R_reads' hr).2.2;rw [hst] at R2;have R2:(convert 44 9 (.slice A9 8 c9)).run Try.prog w2=.ok (.string ⟨#[83,83,84,49,1,1,98,2]⟩) w2:=R2;have B2:=qAA.mk (qAg (qAF (Below.refl w.heap.size w) _) (qAF (Below.refl w.heap.size w) _).size hb);clear hr hb hst))
 go_ret
 exact ⟨rfl,B2.out⟩
set_option maxHeartbeats 8000000 in
theorem sa.oneform7 {bs:List Int} (hb:Bytes bs) (hl:bs.length≤140737488351232) {w:World} {A:Option Addr} {c:Nat} (hC:(Kd.int .u8).C w A bs.length bs) (hc:bs.length≤c) :
  Calls Try.prog 7 #[.slice A bs.length c] w fun e w'=>e=.returned (.bool true)∧Below w.heap.size w w':=by
 have hu44:=Try.underlying44
 have DC:=qAA.mk (fun (W:World) (hW:Below w.heap.size w W)=>sa.dec22 hb hl (Kd.qAa hC hW) hc)
 have HC:=qAA.mk hC
 obtain ⟨cc,pp,l,hd⟩:∃ cc pp l,sa.decF bs=(cc,pp,l):=⟨_,_,_,rfl⟩
 rw [hd] at DC
 dsimp only at DC
 by_cases hz:cc=0
 ·subst hz
  obtain ⟨hrs,hvs,hen,rfl⟩:=sa.decF_sound hb hl hd
  have hsz:∀ x ∈ l,Val x.f1∧x.f0.size≤140737488351232:=fun x hx=>⟨(hvs x hx).1,by have:=(hrs.1 x hx).2.2;omega⟩
  have ENC:=qAA.mk (fun (W:World) (A2:Option Addr) (c2:Nat) (q:k51.C W A2 l.length l) (qc:l.length≤c2)=>sa.encY W q qc hsz (by have:=hrs.2.2.2;omega) hrs)
  rw [hen] at ENC
  have SR:=qAA.mk (fun (W:World) (B:Option Addr) (d:Nat) (q:(Kd.int .u8).C W B bs.length bs)=>Kd.C_string (P:=Try.prog) (c:=d) Try.underlying44 Try.underlying5 Try.underlying9 q)
  generalize strOfNums bs=s1 at SR
  clear hd hrs hvs hen hsz hb hl hC
  go_enter Try.func7,Try.ntmps7
  go_wp2_with (first | (go_at_call 9;refine (sa.shown9 _).mono ?_;rintro e_ w2 ⟨rfl,hb⟩;have B2:=qAA.mk hb;clear hb) | (go_at_call 22;refine (DC.out _ B2.out).mono ?_;rintro e_ w3 ⟨hb,v3,rfl,hr⟩;obtain ⟨A3,c3,e3⟩:=Kd.qBV hr;subst e3;have R3:=qAA.mk (sa.ke_C (Kd.R_reads' hr).2.2);have L3:=qAA.mk (Kd.R_reads' hr).2.1;have B3:=qAA.mk (qAX B2.out hb);clear hb hr) | (go_at_call 24;refine (ENC.out _ _ _ R3.out L3.out).mono ?_;rintro e_ w4 ⟨v4,rfl,hr,hb⟩;obtain ⟨A4,c4,e4⟩:=Kd.qBV hr;subst e4;have B4:=qAA.mk (qAX B3.out hb);have s1_:=SR.out _ A4 c4 (Kd.R_reads' hr).2.2;have s2_:=SR.out _ A c (Kd.qAa HC.out B4.out);clear hb hr))
  go_ret
  exact ⟨rfl,B4.out⟩
 ·obtain ⟨rfl,hp0,hp1⟩:=sa.decF_bad hb hl hd hz
  have d1:(cc != 0)=true:=bne_iff_ne.2 hz
  have d2:(cc == 0)=false:=beq_eq_false_iff_ne.2 hz
  have d3:decide (cc=0)=false:=decide_eq_false hz
  have d4:decide (pp ≥ 0)=true:=decide_eq_true hp0
  have d5:decide (0≤pp)=true:=decide_eq_true hp0
  have d6:decide (pp≤(bs.length:Int))=true:=decide_eq_true hp1
  clear hd hb hl hC hz hp0 hp1
  go_enter Try.func7,Try.ntmps7
  go_wp2_with (first | (go_at_call 9;refine (sa.shown9 _).mono ?_;rintro e_ w2 ⟨rfl,hb⟩;have B2:=qAA.mk hb;clear hb) | (go_at_call 22;refine (DC.out _ B2.out).mono ?_;rintro e_ w3 ⟨hb,v3,rfl,hr⟩;obtain ⟨A3,c3,e3⟩:=Kd.qBV hr;subst e3;have B3:=qAA.mk (qAX B2.out hb);clear hb hr))
  go_ret
  exact ⟨rfl,B3.out⟩
end
end Go.Proofs.Ytdommiicjpjfpaa.X
namespace Go.Proofs.Ytdommiicjpjfpaa.X
open Go.RowKit Go.Proofs.YtdommiicjpjfpaaW.PrintWords Go.Proofs.YtdommiicjpjfpaaW.PrintLast Go.Proofs.YtdommiicjpjfpaaW.PrintMore Go.Proofs.YtdommiicjpjfpaaW
section
set_option maxHeartbeats 4000000
set_option maxRecDepth 100000
open Go.ChangeShapes Go.WideShapes Go.ChangeAt Go.RowKit
theorem el_int {H:Type} {enc:TypeId × Value→H} {P:Program} {w:World} {held:Bool} {spare:Nat→Bool} {k:IntKind} {e:TypeId} (he:P.underlying e=some (.int k)):∀ n cs (y:DataW H × List MemPlace),DataW.trod enc P w 0 spare held n e cs=some y→∃ x,(Kd.int k).K w x cs∧(Lit.int k x).wf=true:=fun n cs y hy=>by
 obtain ⟨s,q,_,z⟩:=DataW.trod_int he hy
 exact ⟨s,q,z⟩
section
variable {H:Type} {enc:TypeId × Value→H} {w:World} {held:Bool} {spare:Nat→Bool}
end
end
end Go.Proofs.Ytdommiicjpjfpaa.X
