import Derived.Test.YtdommiicjpjfpaaZStateReads3
set_option linter.unusedVariables false
set_option linter.unusedSimpArgs false
namespace Go.Proofs.Ytdommiicjpjfpaa.X
open Go.RowKit Go.Proofs.YtdommiicjpjfpaaW.PrintWords Go.Proofs.YtdommiicjpjfpaaW.PrintLast Go.Proofs.YtdommiicjpjfpaaW.PrintMore Go.Proofs.YtdommiicjpjfpaaW
attribute [local go_sem] qBE qBD qBV qBU qA6 qA5 qBJ qBI
def qCD.f (l0:List Int):Option (List Int):=if 0≤(l0.length:Int) then (if (l0.length:Int)≤(wrap64 ((l0.length:Int)+10)) then (if (wrap64 ((l0.length:Int)+10):Int).toNat≤281474976710656 then ((some (List.replicate ((l0.length:Int):Int).toNat 0:List Int)).bind fun y110=>(some (l0.take (min l0.length y110.length) ++ y110.drop (min l0.length y110.length)))) else (none)) else (none)) else (none)
set_option maxHeartbeats 8000000 in
set_option maxRecDepth 100000 in
theorem qCD.calls (A0:Option Addr) (c0:Nat) (l0:List Int) (r:List Int) (w:World) (hr0:Kd.C (Kd.int .u8) w A0 l0.length l0) (hc0:l0.length≤c0) (h:qCD.f l0=some r) :
  Calls Try.prog 63 #[.slice A0 l0.length c0] w fun e w'=>∃ v0_:Value,e=.returned (v0_)∧Kd.R (Kd.int .u8) 5 w' w.heap.size (fun _=>True) v0_ r∧Below w.heap.size w w':=by
 have HR0:=qAA.mk hr0
 have HC0:=qAA.mk hc0
 clear hr0 hc0
 have HB:=qAA.mk (Below.refl w.heap.size w)
 have H:(if 0≤(l0.length:Int) then (if (l0.length:Int)≤(wrap64 ((l0.length:Int)+10)) then (if (wrap64 ((l0.length:Int)+10):Int).toNat≤281474976710656 then ((some (List.replicate ((l0.length:Int):Int).toNat 0:List Int)).bind fun y110=>(some (l0.take (min l0.length y110.length) ++ y110.drop (min l0.length y110.length)))) else (none)) else (none)) else (none))=some r:=h
 clear h
 by_cases c2:0≤(l0.length:Int)
 ·rw [if_pos c2] at H
  have c2b0:=eq_true c2
  have c2b1:decide (0≤(l0.length:Int))=true:=decide_eq_true c2
  clear c2
  by_cases c3:(l0.length:Int)≤(wrap64 ((l0.length:Int)+10))
  ·rw [if_pos c3] at H
   have LMc3:=qAA.mk c3
   clear c3
   by_cases c4:(wrap64 ((l0.length:Int)+10):Int).toNat≤281474976710656
   ·rw [if_pos c4] at H
    have LMc4:=qAA.mk c4
    clear c4
    obtain ⟨y110,hy110⟩:∃ y_:List Int,y_=(List.replicate ((l0.length:Int):Int).toNat 0):=⟨_,rfl⟩
    replace H:(some (l0.take (min l0.length y110.length) ++ y110.drop (min l0.length y110.length)))=some r:=by first | (rw [hy110];with_reducible exact H) | (have H2_:=(Option.bind_some _ _).symm.trans H;rw [hy110];with_reducible exact H2_) | (have H2_:=(Option.bind_some _ _).symm.trans H;with_reducible exact H2_) | with_reducible exact H | (rw [hy110];exact H) | exact H
    have Ny110:=qAA.mk hy110
    clear hy110
    obtain ⟨y113,hy113⟩:∃ y_:List Int,y_=(l0.take (min l0.length y110.length) ++ y110.drop (min l0.length y110.length)):=⟨_,rfl⟩
    replace H:(some y113)=some r:=by first | (rw [hy113];with_reducible exact H) | (have H2_:=(Option.bind_some _ _).symm.trans H;rw [hy113];with_reducible exact H2_) | (have H2_:=(Option.bind_some _ _).symm.trans H;with_reducible exact H2_) | with_reducible exact H | (rw [hy113];exact H) | exact H
    have Ny113:=qAA.mk hy113
    clear hy113
    obtain rfl:=Option.some.inj H
    simp only [Option.some.injEq,Prod.mk.injEq] at H
    obtain ⟨rfl⟩:=H
    go_enter Try.func63,Try.ntmps63
    go_wp2_with (first | ((with_reducible refine qAl (N:=9) rfl ?_);refine XWords.R_make_c (Kd.int .u8) _ 5 rfl (N:=9) rfl 44 _ _ rfl (l0.length:Int) (wrap64 ((l0.length:Int)+10)) rfl rfl Try.underlying44 (.int .u8 0) 1 info5 rfl (by decide) (by omega) 0 (ok:=fun _=>True) (okp:=fun _=>True) rfl (fun _ hk=>hk) trivial (of_decide_eq_true (by first | (with_reducible assumption) | assumption)) LMc3.out (Nat.le_trans (Nat.mul_le_mul_right _ (show (wrap64 ((l0.length:Int)+10)).toNat≤281474976710656 from LMc4.out)) (by omega)) (Below.refl _ _) (Nat.le_refl _) ?_;intro v111 w5 ho6 hb hg_ hnew_;clear hg_ hnew_;(first | rw [← Ny110.out] at ho6 | (simp only [Int.reduceToNat] at ho6;rw [← Ny110.out] at ho6));have n0_:=qAA.mk (Kd.qB6 ho6 (qAV (by repeat (first | (with_reducible first | exact HB.out | apply qAE | apply qAD | apply qAF) | exact HB.out))));have n1_:=qAA.mk (qAO (by repeat (first | (with_reducible first | exact HB.out | apply qAE | apply qAD | apply qAF) | exact HB.out)) hb);clear HB;have HO112:=n0_;have HB:=n1_;clear n0_ n1_;clear hb ho6) | ((with_reducible refine qBh (b:=.copy) (xs:=#[.tmp 10,.tmp 11]) rfl ?_);skip;refine XWords.R_copy_row (enc:=(Value.int .u8)) (h1:=fun _=>rfl) 0 (w0:=w) w.heap.size rfl (.tmp 10) (.tmp 11) 44 44 5 rfl Try.underlying44 (by kernel_rfl) v111 y110 l0 _ _ _ (fun _=>True) rfl rfl ?aO ?aR ?aB ?aF ?aS ?aL ?_;(case aR=>repeat (first | exact (Kd.qAc HR0.out HB.out) | (with_reducible refine Kd.qAh ?_ _) | (with_reducible refine Kd.qAk ?_ _) | (with_reducible refine Kd.qAs ?_)));(case aB=>exact (by repeat (first | (with_reducible first | exact HB.out | apply qAE | apply qAD | apply qAF) | exact HB.out)));(case aF=>exact (fun _ _=>trivial));(case aO=>exact (by (with_reducible repeat (first | apply Kd.qBW | apply Kd.qCR | apply Kd.qBB));exact HO112.out));(case aS=>exact (qAV (by repeat (first | (with_reducible first | exact HB.out | apply qAE | apply qAD | apply qAF) | exact HB.out))));(case aL=>have:=HB.out;omega);intro w7 ho hb hg hat;rw [← Ny113.out] at ho;have n0_:=qAA.mk (hb);have n1_:=qAA.mk (ho);clear HB;clear HO112;have HB:=n0_;have HO114:=n1_;clear n0_ n1_;clear ho hb hg hat))
    go_ret
    exact ⟨_,by first | rfl | (simp [qAT,qAS] <;> rfl) | (simp [*,qAT,qAS] <;> rfl),by (with_reducible repeat (first | apply Kd.qBW | apply Kd.qCR | apply Kd.qBB));exact HO114.out,by repeat (first | (with_reducible first | exact HB.out | apply qAE | apply qAD | apply qAF) | exact HB.out)⟩
   ·rw [if_neg c4] at H
    exact absurd H (by simp)
  ·rw [if_neg c3] at H
   exact absurd H (by simp)
 ·rw [if_neg c2] at H
  exact absurd H (by simp)
end Go.Proofs.Ytdommiicjpjfpaa.X
