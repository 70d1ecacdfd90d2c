import Derived.Test.YtnkbobblnhaclaaZWireCodes3
set_option linter.unusedVariables false
set_option linter.unusedSimpArgs false
namespace Go.Proofs.Ytnkbobblnhaclaa.X
open Go.RowKit Go.Proofs.YtnkbobblnhaclaaW.PrintWords Go.Proofs.YtnkbobblnhaclaaW.PrintLast Go.Proofs.YtnkbobblnhaclaaW.PrintMore Go.Proofs.YtnkbobblnhaclaaW
attribute [local go_sem] qBF qBE qBX qBW qA6 qA5 qBJ qBI
def qAS.l0:Nat→Int→List Int→Option (List Int)
 | 0,_,_=>none
 | k+1,x1,x5=>if x1 ≥ 128 then (if x5.length < 140737488355328 then (qAS.l0 k (IntKind.u64.wrap (Int.tdiv x1 128)) (x5 ++ [(IntKind.u64.wrap ((Int.tmod x1 128)+128)) % 256])) else (none)) else (if x5.length < 140737488355328 then (some (x5 ++ [(x1) % 256])) else (none))
def qAS.f (k:Nat) (l0:List Int) (a1:Int):Option (List Int):=if ([]:List Int).length+l0.length < 140737488355328 then (qAS.l0 k a1 (([]:List Int) ++ l0)) else (none)
theorem qAS.qBj:∀ k,(∀ y0 y1,LeO (qAS.l0 k y0 y1) (qAS.l0 (k+1) y0 y1))
 | 0=>fun _ _ r h=>by simp [qAS.l0] at h
 | k+1=>by
  have ih0:=qAS.qBj k
  ·intro y0 y1
   unfold qAS.l0
   repeat' first
   | (with_reducible exact ih0 _ _)
   | (with_reducible exact LeO.refl _)
   | (with_reducible exact LeO.none _)
   | (with_reducible refine LeO.ite ?_ ?_)
   | (with_reducible refine LeO.bind ?_ (fun _ => ?_))
   | exact ih0 _ _
   | exact LeO.none _
   | refine LeO.ite ?_ ?_
   | refine LeO.bind ?_ (fun _ => ?_)
theorem qAS.mono:∀ a0 a1 k,LeO (qAS.f k a0 a1) (qAS.f (k+1) a0 a1):=by
 intro a0 a1 k
 have ih0:=qAS.qBj k
 unfold qAS.f
 repeat' first
   | (with_reducible exact ih0 _ _)
   | (with_reducible exact LeO.refl _)
   | (with_reducible exact LeO.none _)
   | (with_reducible refine LeO.ite ?_ ?_)
   | (with_reducible refine LeO.bind ?_ (fun _ => ?_))
   | exact ih0 _ _
   | exact LeO.none _
   | refine LeO.ite ?_ ?_
   | refine LeO.bind ?_ (fun _ => ?_)
set_option maxHeartbeats 8000000 in
set_option maxRecDepth 100000 in
theorem qAS.calls (k:Nat) (A0:Option Addr) (c0:Nat) (l0:List Int) (a1:Int) (r:List Int) (w:World) (hr0:Kd.C (Kd.int .u8) w A0 l0.length l0) (hc0:l0.length≤c0) (h:qAS.f k l0 a1=some r) :
  Calls Try.prog 49 #[.slice A0 l0.length c0,.int .u64 a1] w fun e w'=>∃ v0_:Value,e=.returned (v0_)∧Kd.R (Kd.int .u8) 5 w' w.heap.size (fun _=>True) v0_ r∧Below w.heap.size w w':=by
 have HR0:=qAA.mk hr0
 have HC0:=qAA.mk hc0
 clear hr0 hc0
 have HB:=qAA.mk (Below.refl w.heap.size w)
 have H:(if ([]:List Int).length+l0.length < 140737488355328 then (qAS.l0 k a1 (([]:List Int) ++ l0)) else (none))=some r:=h
 clear h
 by_cases c3:([]:List Int).length+l0.length < 140737488355328
 ·rw [if_pos c3] at H
  have LMc3:=qAA.mk c3
  clear c3
  obtain ⟨y207,hy207⟩:∃ y_:List Int,y_=(([]:List Int) ++ l0):=⟨_,rfl⟩
  replace H:(qAS.l0 k a1 y207)=some r:=by first | (rw [hy207];with_reducible exact H) | (have H2_:=(Option.bind_some _ _).symm.trans H;rw [hy207];with_reducible exact H2_) | (have H2_:=(Option.bind_some _ _).symm.trans H;with_reducible exact H2_) | with_reducible exact H | (rw [hy207];exact H) | exact H
  have Ny207:=qAA.mk hy207
  clear hy207
  have H':=qAA.mk H
  clear H
  go_enter Try.func49,Try.ntmps49
  go_wp2_with (first | ((with_reducible refine qB3 (b:=.append) (xs:=#[.tmp 6,.tmp 7]) rfl ?_);at_builtin;refine Kd.R_append_rows (Kd.int .u8) (w0:=w) w.heap.size rfl (.tmp 6) (.tmp 7) 26 5 (.int .u8 0) 1 rfl Try.underlying26 info5 rfl (by decide) (by omega) (.slice none 0 0) ([]:List Int) l0 _ _ _ (fun _=>True) (fun _=>False) rfl rfl ?aO ?aR (fun _ _ h=>h) (fun _ h=>h.elim) ?aF ?aB ?aS ?aL ?_;(case aR=>repeat (first | exact HR0.out | (with_reducible refine Kd.qAs ?_ _) | (with_reducible refine Kd.qAr ?_ _) | (with_reducible refine Kd.qA0 ?_)));(case aB=>exact (by repeat (first | (with_reducible first | exact HB.out | apply qAF | apply qAD | apply qAG) | exact HB.out)));(case aF=>exact (fun _ _=>trivial));(case aO=>exact ((Kd.qBB _ _ _ _ (fun _=>True))));(case aS=>exact (qAV (by repeat (first | (with_reducible first | exact HB.out | apply qAF | apply qAD | apply qAG) | exact HB.out))));(case aL=>have:=LMc3.out;omega);intro v208 w4 ho hb hg hat;rw [← Ny207.out] at ho;have n0_:=qAA.mk (hb);have n1_:=qAA.mk (ho);clear HB;have HB:=n0_;have HO209:=n1_;clear n0_ n1_;clear ho hb hg hat))
  go_loopg [1,5] k (fun kq v1 v5 w'=>∃ (x1_1:Int) (x5_1:List Int),v1=.int .u64 x1_1∧qAA (qAS.l0 kq x1_1 x5_1=some r)∧qAA (kq≤k)∧qAA (Kd.R (Kd.int .u8) 5 w' w.heap.size (fun _=>True) v5 x5_1)∧qAA (Below w.heap.size w w'))
  case atStart=>exact ⟨(a1),(y207),(by first | rfl | (simp;done) | (simp [*];done)),H',⟨Nat.le_refl _⟩,⟨by (with_reducible repeat (first | apply Kd.qA7 | apply Kd.qBA | apply Kd.qBC));exact HO209.out⟩,⟨by repeat (first | (with_reducible first | exact HB.out | apply qAF | apply qAD | apply qAG) | exact HB.out)⟩⟩
  case round =>
   clear H'
   try clear p2
   try clear c3
   try clear c4
   obtain ⟨x1_1,x5_1,rfl,HA,HK1,HO_5,HB⟩:=hrel
   cases gk with
   | zero=>exact absurd HA.out (by simp [qAS.l0])
   | succ k1 =>
    have H:=HA.out
    clear HA
    simp only [qAS.l0] at H
    by_cases c5:x1_1 ≥ 128
    ·rw [if_pos c5] at H
     have c5b0:decide (128≤x1_1)=true:=decide_eq_true c5
     clear c5
     by_cases c6:x5_1.length < 140737488355328
     ·rw [if_pos c6] at H
      have LMc6:=qAA.mk c6
      clear c6
      obtain ⟨y210,hy210⟩:∃ y_:List Int,y_=(x5_1 ++ [(IntKind.u64.wrap ((Int.tmod x1_1 128)+128)) % 256]):=⟨_,rfl⟩
      replace H:(qAS.l0 k1 (IntKind.u64.wrap (Int.tdiv x1_1 128)) y210)=some r:=by first | (rw [hy210];with_reducible exact H) | (have H2_:=(Option.bind_some _ _).symm.trans H;rw [hy210];with_reducible exact H2_) | (have H2_:=(Option.bind_some _ _).symm.trans H;with_reducible exact H2_) | with_reducible exact H | (rw [hy210];exact H) | exact H
      have Ny210:=qAA.mk hy210
      clear hy210
      have H':=qAA.mk H
      clear H
      go_wp2_with (first | ((with_reducible refine qB3 (b:=.append) (xs:=#[.tmp 11,.tmp 16]) rfl ?_);at_builtin;refine Kd.qCD (Kd.int .u8) (w0:=w) w.heap.size rfl (.tmp 11) (.tmp 16) 26 5 (.int .u8 0) 1 rfl Try.underlying26 info5 rfl (by decide) (by omega) u5 x5_1 ((IntKind.u64.wrap ((Int.tmod x1_1 128)+128)) % 256) [.int .u8 ((IntKind.u64.wrap ((Int.tmod x1_1 128)+128)) % 256)] (fun _=>True) (fun _=>False) rfl rfl ?aP (fun _ hk=>hk.elim) ?aF ?aO ?aB ?aS ?aL ?_;(case aP=>exact rfl);(case aB=>exact (by repeat (first | (with_reducible first | exact HB.out | apply qAF | apply qAD | apply qAG) | exact HB.out)));(case aF=>exact (fun _ _=>trivial));(case aO=>exact (by (with_reducible repeat (first | apply Kd.qA7 | apply Kd.qBA | apply Kd.qBC));exact HO_5.out));(case aS=>exact (qAV (by repeat (first | (with_reducible first | exact HB.out | apply qAF | apply qAD | apply qAG) | exact HB.out))));(case aL=>have:=LMc6.out;omega);intro v211 w7 ho hb hg hat;rw [← Ny210.out] at ho;have n0_:=qAA.mk (hb);have n1_:=qAA.mk (ho);clear HB;clear HO_5;have HB:=n0_;have HO212:=n1_;clear n0_ n1_;clear ho hb hg hat))
      go_roundg k1
      case measure=>have:=HK1.out;omega
      case rel=>exact ⟨(IntKind.u64.wrap (Int.tdiv x1_1 128)),(y210),(by first | rfl | (simp;done) | (simp [*];done)),H',⟨by have:=HK1.out;omega⟩,⟨by (with_reducible repeat (first | apply Kd.qA7 | apply Kd.qBA | apply Kd.qBC));exact HO212.out⟩,⟨by repeat (first | (with_reducible first | exact HB.out | apply qAF | apply qAD | apply qAG) | exact HB.out)⟩⟩
     ·rw [if_neg c6] at H
      exact absurd H (by simp)
    ·rw [if_neg c5] at H
     have c5b0:decide (128≤x1_1)=false:=decide_eq_false c5
     clear c5
     by_cases c8:x5_1.length < 140737488355328
     ·rw [if_pos c8] at H
      have LMc8:=qAA.mk c8
      clear c8
      obtain ⟨y213,hy213⟩:∃ y_:List Int,y_=(x5_1 ++ [(x1_1) % 256]):=⟨_,rfl⟩
      replace H:(some y213)=some r:=by first | (rw [hy213];with_reducible exact H) | (have H2_:=(Option.bind_some _ _).symm.trans H;rw [hy213];with_reducible exact H2_) | (have H2_:=(Option.bind_some _ _).symm.trans H;with_reducible exact H2_) | with_reducible exact H | (rw [hy213];exact H) | exact H
      have Ny213:=qAA.mk hy213
      clear hy213
      obtain rfl:=Option.some.inj H
      simp only [Option.some.injEq,Prod.mk.injEq] at H
      obtain ⟨rfl⟩:=H
      go_wp2_with (first | ((with_reducible refine qB3 (b:=.append) (xs:=#[.tmp 20,.tmp 23]) rfl ?_);at_builtin;refine Kd.qCD (Kd.int .u8) (w0:=w) w.heap.size rfl (.tmp 20) (.tmp 23) 26 5 (.int .u8 0) 1 rfl Try.underlying26 info5 rfl (by decide) (by omega) u5 x5_1 ((x1_1) % 256) [.int .u8 ((x1_1) % 256)] (fun _=>True) (fun _=>False) rfl rfl ?aP (fun _ hk=>hk.elim) ?aF ?aO ?aB ?aS ?aL ?_;(case aP=>exact rfl);(case aB=>exact (by repeat (first | (with_reducible first | exact HB.out | apply qAF | apply qAD | apply qAG) | exact HB.out)));(case aF=>exact (fun _ _=>trivial));(case aO=>exact (by (with_reducible repeat (first | apply Kd.qA7 | apply Kd.qBA | apply Kd.qBC));exact HO_5.out));(case aS=>exact (qAV (by repeat (first | (with_reducible first | exact HB.out | apply qAF | apply qAD | apply qAG) | exact HB.out))));(case aL=>have:=LMc8.out;omega);intro v214 w9 ho hb hg hat;rw [← Ny213.out] at ho;have n0_:=qAA.mk (hb);have n1_:=qAA.mk (ho);clear HB;clear HO_5;have HB:=n0_;have HO215:=n1_;clear n0_ n1_;clear ho hb hg hat))
      go_ret
      exact ⟨_,by first | rfl | (simp [qAa,qAZ] <;> rfl) | (simp [*,qAa,qAZ] <;> rfl),by (with_reducible repeat (first | apply Kd.qA7 | apply Kd.qBA | apply Kd.qBC));exact HO215.out,by repeat (first | (with_reducible first | exact HB.out | apply qAF | apply qAD | apply qAG) | exact HB.out)⟩
     ·rw [if_neg c8] at H
      exact absurd H (by simp)
 ·rw [if_neg c3] at H
  exact absurd H (by simp)
end Go.Proofs.Ytnkbobblnhaclaa.X
