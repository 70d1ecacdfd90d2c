/- Texts of the claim of ModuleApart, one behind the other; what nothing names is left out. -/
import Derived.Test.YtmehfnikecmiiaaZModuleApart3
set_option linter.unusedVariables false
set_option linter.unusedSimpArgs false
-- Written by a program of this session (wip/xprint.py) out of the translation's print; Lean checks it.
namespace Go.Proofs.Ytmehfnikecmiiaa.X
open Go.RowKit Go.Proofs.YtmehfnikecmiiaaW.PrintWords Go.Proofs.YtmehfnikecmiiaaW.PrintLast Go.Proofs.YtmehfnikecmiiaaW.PrintMore Go.Proofs.YtmehfnikecmiiaaW
attribute [local go_sem] max2_int min2_int max_two min_two max_three min_three max_four min_four   -- for this text's walks alone
/-! ### num_fresh: function 68 -/
def num_fresh.f (l0 : List Int) : Option (List Int) := if 0 ≤ (l0.length : Int) then (if (l0.length : Int) ≤ (wrap64 ((l0.length : Int) + 10)) then (if (wrap64 ((l0.length : Int) + 10) : Int).toNat ≤ 281474976710656 then ((some (List.replicate ((l0.length : Int) : Int).toNat 0 : List Int)).bind fun y106 => (some (l0.take (min l0.length y106.length) ++ y106.drop (min l0.length y106.length)))) else (none)) else (none)) else (none)
set_option maxHeartbeats 8000000 in
set_option maxRecDepth 100000 in
theorem num_fresh.calls (A0 : Option Addr) (c0 : Nat) (l0 : List Int) (r : List Int) (w : World) (hr0 : Kd.C (Kd.int .u8) w A0 l0.length l0) (hc0 : l0.length ≤ c0) (h : num_fresh.f l0 = some r) :
    Calls Try.prog 68 #[.slice A0 l0.length c0] w fun e w' => ∃ v0_ : Value, e = .returned (v0_) ∧ Kd.R (Kd.int .u8) 5 w' w.heap.size (fun _ => True) v0_ r ∧ Below w.heap.size w w' := by
  have HR0 := Aside0.mk hr0
  have HC0 := Aside0.mk hc0
  clear hr0 hc0
  have HB := Aside0.mk (Below.refl w.heap.size w)
  have H : (if 0 ≤ (l0.length : Int) then (if (l0.length : Int) ≤ (wrap64 ((l0.length : Int) + 10)) then (if (wrap64 ((l0.length : Int) + 10) : Int).toNat ≤ 281474976710656 then ((some (List.replicate ((l0.length : Int) : Int).toNat 0 : List Int)).bind fun y106 => (some (l0.take (min l0.length y106.length) ++ y106.drop (min l0.length y106.length)))) else (none)) else (none)) else (none)) = some r := h
  clear h
  by_cases c2 : 0 ≤ (l0.length : Int)
  · rw [if_pos c2] at H
    have c2b0 := eq_true c2
    have c2b1 : decide (0 ≤ (l0.length : Int)) = true := decide_eq_true c2
    clear c2
    by_cases c3 : (l0.length : Int) ≤ (wrap64 ((l0.length : Int) + 10))
    · rw [if_pos c3] at H
      have LMc3 := Aside0.mk c3
      clear c3
      by_cases c4 : (wrap64 ((l0.length : Int) + 10) : Int).toNat ≤ 281474976710656
      · rw [if_pos c4] at H
        have LMc4 := Aside0.mk c4
        clear c4
        obtain ⟨y106, hy106⟩ : ∃ y_ : List Int, y_ = (List.replicate ((l0.length : Int) : Int).toNat 0) := ⟨_, rfl⟩
        replace H : (some (l0.take (min l0.length y106.length) ++ y106.drop (min l0.length y106.length))) = some r := by first | (rw [hy106]; with_reducible exact H) | (have H2_ := (Option.bind_some _ _).symm.trans H; rw [hy106]; with_reducible exact H2_) | (have H2_ := (Option.bind_some _ _).symm.trans H; with_reducible exact H2_) | with_reducible exact H | (rw [hy106]; exact H) | exact H
        have Ny106 := Aside0.mk hy106
        clear hy106
        obtain ⟨y109, hy109⟩ : ∃ y_ : List Int, y_ = (l0.take (min l0.length y106.length) ++ y106.drop (min l0.length y106.length)) := ⟨_, rfl⟩
        replace H : (some y109) = some r := by first | (rw [hy109]; with_reducible exact H) | (have H2_ := (Option.bind_some _ _).symm.trans H; rw [hy109]; with_reducible exact H2_) | (have H2_ := (Option.bind_some _ _).symm.trans H; with_reducible exact H2_) | with_reducible exact H | (rw [hy109]; exact H) | exact H
        have Ny109 := Aside0.mk hy109
        clear hy109
        obtain rfl := Option.some.inj H
        simp only [Option.some.injEq, Prod.mk.injEq] at H
        obtain ⟨rfl⟩ := H
        go_enter Try.func68, Try.ntmps68
        go_wp2_with (first | ((with_reducible refine gate_dst (N := 9) rfl ?_); refine XWords.R_make_c (Kd.int .u8) _ 5 rfl (N := 9) rfl 29 _ _ rfl (l0.length : Int) (wrap64 ((l0.length : Int) + 10)) rfl rfl Try.underlying29 (.int .u8 0) 1 info5 rfl (by decide) (by omega) 0 (ok := fun _ => True) (okp := fun _ => True) rfl (fun _ hk => hk) trivial (of_decide_eq_true (by first | (with_reducible assumption) | assumption)) LMc3.out (Nat.le_trans (Nat.mul_le_mul_right _ (show (wrap64 ((l0.length : Int) + 10)).toNat ≤ 281474976710656 from LMc4.out)) (by omega)) (Below.refl _ _) (Nat.le_refl _) ?_; intro v107 w5 ho6 hb hg_ hnew_; clear hg_ hnew_; (first | rw [← Ny106.out] at ho6 | (simp only [Int.reduceToNat] at ho6; rw [← Ny106.out] at ho6)); have n0_ := Aside0.mk (Kd.R_lower ho6 (below_size (by repeat (first | (with_reducible first | exact HB.out | apply below_alloc | apply pw_below_drewN | apply below_drew1) | exact HB.out)))); have n1_ := Aside0.mk (below_step (by repeat (first | (with_reducible first | exact HB.out | apply below_alloc | apply pw_below_drewN | apply below_drew1) | exact HB.out)) hb); clear HB; have HO108 := n0_; have HB := n1_; clear n0_ n1_; clear hb ho6) | ((with_reducible refine gate_builtin (b := .copy) (xs := #[.tmp 10, .tmp 11]) rfl ?_); skip; refine XWords.R_copy_row (enc := (Value.int .u8)) (h1 := fun _ => rfl) 0 (w0 := w) w.heap.size rfl (.tmp 10) (.tmp 11) 29 29 5 rfl Try.underlying29 (by kernel_rfl) v107 y106 l0 _ _ _ (fun _ => True) rfl rfl ?aO ?aR ?aB ?aF ?aS ?aL ?_; (case aR => repeat (first | exact (Kd.C_below HR0.out HB.out) | (with_reducible refine Kd.C_alloc ?_ _) | (with_reducible refine Kd.C_drewN ?_ _) | (with_reducible refine Kd.C_drew ?_))); (case aB => exact (by repeat (first | (with_reducible first | exact HB.out | apply below_alloc | apply pw_below_drewN | apply below_drew1) | exact HB.out))); (case aF => exact (fun _ _ => trivial)); (case aO => exact (by (with_reducible repeat (first | apply Kd.R_alloc | apply Kd.R_drewN | apply Kd.R_drew)); exact HO108.out)); (case aS => exact (below_size (by repeat (first | (with_reducible first | exact HB.out | apply below_alloc | apply pw_below_drewN | apply below_drew1) | exact HB.out)))); (case aL => have := HB.out; omega); intro w7 ho hb hg hat; rw [← Ny109.out] at ho; have n0_ := Aside0.mk (hb); have n1_ := Aside0.mk (ho); clear HB; clear HO108; have HB := n0_; have HO110 := n1_; clear n0_ n1_; clear ho hb hg hat))
        go_ret
        exact ⟨_, by first | rfl | (simp [errW_none, errW_some] <;> rfl) | (simp [*, errW_none, errW_some] <;> rfl), by (with_reducible repeat (first | apply Kd.R_alloc | apply Kd.R_drewN | apply Kd.R_drew)); exact HO110.out, by repeat (first | (with_reducible first | exact HB.out | apply below_alloc | apply pw_below_drewN | apply below_drew1) | exact HB.out)⟩
      · rw [if_neg c4] at H
        exact absurd H (by simp)
    · rw [if_neg c3] at H
      exact absurd H (by simp)
  · rw [if_neg c2] at H
    exact absurd H (by simp)
/-! ### num_Uint: function 77 -/
mutual
def num_Uint.j0 : Nat → List Int → Int → Bool → Option (Int × Int × Int)
  | 0, _, _, _ => none
  | k + 1, x0, x1, x18 => if x18 = true then (some (0, 0, 10)) else (if 0 ≤ x1 then (if x1 ≤ (x0.length : Int) then (num_Uint.l0 k x1 (x0.drop (x1 : Int).toNat) 0 0) else (none)) else (none))
def num_Uint.l0 : Nat → Int → List Int → Int → Int → Option (Int × Int × Int)
  | 0, _, _, _, _ => none
  | k + 1, x1, x7, x8, x22 => if x22 < 10 then (if x22 = (x7.length : Int) then (some (0, 0, 11)) else (if 0 ≤ x22 then (if x22 < (x7.length : Int) then (if x22 = 9 then (if (rd x7 x22) > 1 then (num_Uint.j2 k x1 x7 x8 x22 (rd x7 x22) x22 true) else (if x22 > 0 then (num_Uint.j2 k x1 x7 x8 x22 (rd x7 x22) x22 ((rd x7 x22) == 0)) else (num_Uint.j2 k x1 x7 x8 x22 (rd x7 x22) x22 false))) else (if x22 > 0 then (num_Uint.j2 k x1 x7 x8 x22 (rd x7 x22) x22 ((rd x7 x22) == 0)) else (num_Uint.j2 k x1 x7 x8 x22 (rd x7 x22) x22 false))) else (none)) else (none))) else (some (0, 0, 12))
def num_Uint.j2 : Nat → Int → List Int → Int → Int → Int → Int → Bool → Option (Int × Int × Int)
  | 0, _, _, _, _, _, _, _ => none
  | k + 1, x1, x7, x8, x9, x10, x22, x46 => if x46 = true then (some (0, 0, 12)) else (if 0 ≤ (wrap64 (7 * x9)) then (if x10 < 128 then (some (Go.bits .or .u64 x8 (shl .u64 (IntKind.u64.wrap (Go.bits .and .u8 x10 127)) (wrap64 (7 * x9))), wrap64 ((wrap64 (x1 + x9)) + 1), 0)) else (num_Uint.l0 k x1 x7 (Go.bits .or .u64 x8 (shl .u64 (IntKind.u64.wrap (Go.bits .and .u8 x10 127)) (wrap64 (7 * x9)))) (wrap64 (x22 + 1)))) else (none))
end
def num_Uint.f (k : Nat) (l0 : List Int) (a1 : Int) : Option (Int × Int × Int) := if a1 < 0 then (num_Uint.j0 k l0 a1 true) else (num_Uint.j0 k l0 a1 (decide (a1 > (l0.length : Int))))
theorem num_Uint.mono_l : ∀ k, (∀ y0 y1 y2, LeO (num_Uint.j0 k y0 y1 y2) (num_Uint.j0 (k + 1) y0 y1 y2)) ∧ (∀ y0 y1 y2 y3, LeO (num_Uint.l0 k y0 y1 y2 y3) (num_Uint.l0 (k + 1) y0 y1 y2 y3)) ∧ (∀ y0 y1 y2 y3 y4 y5 y6, LeO (num_Uint.j2 k y0 y1 y2 y3 y4 y5 y6) (num_Uint.j2 (k + 1) y0 y1 y2 y3 y4 y5 y6))
  | 0 => ⟨fun _ _ _ r h => by simp [num_Uint.j0] at h, fun _ _ _ _ r h => by simp [num_Uint.l0] at h, fun _ _ _ _ _ _ _ r h => by simp [num_Uint.j2] at h⟩
  | k + 1 => by
    obtain ⟨ih0, ih1, ih2⟩ := num_Uint.mono_l k
    refine ⟨?_, ?_, ?_⟩
    · intro y0 y1 y2
      unfold num_Uint.j0
      repeat' first
      | (with_reducible exact ih0 _ _ _)
      | (with_reducible exact ih1 _ _ _ _)
      | (with_reducible exact ih2 _ _ _ _ _ _ _)
      | (with_reducible exact LeO.refl _)
      | (with_reducible exact LeO.none _)
      | (with_reducible refine LeO.ite ?_ ?_)
      | (with_reducible refine LeO.bind ?_ (fun _ => ?_))
      | exact ih0 _ _ _
      | exact ih1 _ _ _ _
      | exact ih2 _ _ _ _ _ _ _
      | exact LeO.none _
      | refine LeO.ite ?_ ?_
      | refine LeO.bind ?_ (fun _ => ?_)
    · intro y0 y1 y2 y3
      unfold num_Uint.l0
      repeat' first
      | (with_reducible exact ih0 _ _ _)
      | (with_reducible exact ih1 _ _ _ _)
      | (with_reducible exact ih2 _ _ _ _ _ _ _)
      | (with_reducible exact LeO.refl _)
      | (with_reducible exact LeO.none _)
      | (with_reducible refine LeO.ite ?_ ?_)
      | (with_reducible refine LeO.bind ?_ (fun _ => ?_))
      | exact ih0 _ _ _
      | exact ih1 _ _ _ _
      | exact ih2 _ _ _ _ _ _ _
      | exact LeO.none _
      | refine LeO.ite ?_ ?_
      | refine LeO.bind ?_ (fun _ => ?_)
    · intro y0 y1 y2 y3 y4 y5 y6
      unfold num_Uint.j2
      repeat' first
      | (with_reducible exact ih0 _ _ _)
      | (with_reducible exact ih1 _ _ _ _)
      | (with_reducible exact ih2 _ _ _ _ _ _ _)
      | (with_reducible exact LeO.refl _)
      | (with_reducible exact LeO.none _)
      | (with_reducible refine LeO.ite ?_ ?_)
      | (with_reducible refine LeO.bind ?_ (fun _ => ?_))
      | exact ih0 _ _ _
      | exact ih1 _ _ _ _
      | exact ih2 _ _ _ _ _ _ _
      | exact LeO.none _
      | refine LeO.ite ?_ ?_
      | refine LeO.bind ?_ (fun _ => ?_)
theorem num_Uint.mono : ∀ a0 a1 k, LeO (num_Uint.f k a0 a1) (num_Uint.f (k + 1) a0 a1) := by
  intro a0 a1 k
  obtain ⟨ih0, ih1, ih2⟩ := num_Uint.mono_l k
  unfold num_Uint.f
  repeat' first
      | (with_reducible exact ih0 _ _ _)
      | (with_reducible exact ih1 _ _ _ _)
      | (with_reducible exact ih2 _ _ _ _ _ _ _)
      | (with_reducible exact LeO.refl _)
      | (with_reducible exact LeO.none _)
      | (with_reducible refine LeO.ite ?_ ?_)
      | (with_reducible refine LeO.bind ?_ (fun _ => ?_))
      | exact ih0 _ _ _
      | exact ih1 _ _ _ _
      | exact ih2 _ _ _ _ _ _ _
      | exact LeO.none _
      | refine LeO.ite ?_ ?_
      | refine LeO.bind ?_ (fun _ => ?_)
set_option maxHeartbeats 8000000 in
set_option maxRecDepth 100000 in
theorem num_Uint.calls (k : Nat) (A0 : Option Addr) (c0 : Nat) (l0 : List Int) (a1 : Int) (r1 : Int) (r2 : Int) (r3 : Int) (w : World) (hr0 : Kd.C (Kd.int .u8) w A0 l0.length l0) (hc0 : l0.length ≤ c0) (h : num_Uint.f k l0 a1 = some (r1, r2, r3)) :
    Calls Try.prog 77 #[.slice A0 l0.length c0, .int .i64 a1] w fun e w' => e = .returned (.tuple #[.int .u64 r1, .int .i64 r2, .int .i64 r3]) ∧ Drawn0 w w' := by
  have HR0 := Aside0.mk hr0
  have HC0 := Aside0.mk hc0
  clear hr0 hc0
  have H : (if a1 < 0 then (num_Uint.j0 k l0 a1 true) else (num_Uint.j0 k l0 a1 (decide (a1 > (l0.length : Int))))) = some (r1, r2, r3) := h
  clear h
  have HC3 := Aside0.mk H
  clear H
  go_enter Try.func77, Try.ntmps77
  go_upto_region 1 with (fail)
  go_cut [18] (fun v18 wc => ∃ (kq : Nat) (x18_2 : Bool), v18 = .bool x18_2 ∧ Aside0 (num_Uint.j0 kq l0 a1 x18_2 = some (r1, r2, r3)) ∧ Aside0 (kq ≤ k) ∧ Drawn0 w wc)
  case first =>
    have H := HC3.out
    clear HC3
    by_cases c4 : a1 < 0
    · rw [if_pos c4] at H
      have c4b0 : decide (a1 < 0) = true := decide_eq_true c4
      clear c4
      (first | rw [c4b0] | (simp only [i64_w, i32_w]; rw [c4b0]) | rw [c4b1] | (simp only [i64_w, i32_w]; rw [c4b1]) | skip)
      have H' := Aside0.mk H
      clear H
      go_wp2
      go_meet
      case rel => exact ⟨_, (true), (by first | rfl | (simp; done) | (simp [*]; done)), H', ⟨by first | omega | exact Nat.le_refl _⟩, by repeat (first | exact Drawn0.refl _ | apply Drawn0.step)⟩
    · rw [if_neg c4] at H
      have c4b0 : decide (a1 < 0) = false := decide_eq_false c4
      clear c4
      (first | rw [c4b0] | (simp only [i64_w, i32_w]; rw [c4b0]) | rw [c4b1] | (simp only [i64_w, i32_w]; rw [c4b1]) | skip)
      have H' := Aside0.mk H
      clear H
      go_wp2
      go_meet
      case rel => exact ⟨_, (decide (a1 > (l0.length : Int))), (by first | rfl | (simp; done) | (simp [*]; done)), H', ⟨by first | omega | exact Nat.le_refl _⟩, by repeat (first | exact Drawn0.refl _ | apply Drawn0.step)⟩
  case rest =>
    clear HC3
    try clear p2
    try clear c4
    try clear c4b0
    try clear c4b1
    obtain ⟨kq, x18_2, rfl, HA, HJ2, ⟨mc2, rfl⟩⟩ := hcut
    cases kq with
    | zero => exact absurd HA.out (by simp [num_Uint.j0])
    | succ kj2 =>
      have H := HA.out
      clear HA
      simp only [num_Uint.j0] at H
      by_cases c5 : x18_2 = true
      · subst c5
        have H1 : (some (0, 0, 10)) = some (r1, r2, r3) := by rw [if_pos rfl] at H; exact H
        clear H
        have H := H1
        clear H1
        simp only [Option.some.injEq, Prod.mk.injEq] at H
        obtain ⟨rfl, rfl, rfl⟩ := H
        go_wp2
        go_ret3
        exact ⟨by first | rfl | (simp; done) | (simp [*]; done), by repeat (first | exact Drawn0.refl _ | apply Drawn0.step)⟩
      · replace c5 := Bool.eq_false_iff.mpr c5
        subst c5
        have H1 : (if 0 ≤ a1 then (if a1 ≤ (l0.length : Int) then (num_Uint.l0 kj2 a1 (l0.drop (a1 : Int).toNat) 0 0) else (none)) else (none)) = some (r1, r2, r3) := by rw [if_neg (show ¬ (false = true) by decide)] at H; exact H
        clear H
        have H := H1
        clear H1
        by_cases c6 : 0 ≤ a1
        · rw [if_pos c6] at H
          have c6b0 := eq_true c6
          have c6b1 : decide (0 ≤ a1) = true := decide_eq_true c6
          clear c6
          by_cases c7 : a1 ≤ (l0.length : Int)
          · rw [if_pos c7] at H
            have c7b0 := eq_true c7
            have c7b1 : decide (a1 ≤ (l0.length : Int)) = true := decide_eq_true c7
            clear c7
            have H' := Aside0.mk H
            clear H
            obtain ⟨i08, hi08, _, hsz8, _⟩ := info_parts info5
            obtain ⟨A8, hcut8, hA8, hC8⟩ := print_drop_of (P := Try.prog) (Value.int .u8) 0 29 5 .i64 Try.underlying29 hi08 hsz8 A0 c0 l0 a1 (of_decide_eq_true (by first | (with_reducible assumption) | assumption)) (of_decide_eq_true (by first | (with_reducible assumption) | assumption)) HC0.out
            have HR447 := Aside0.mk (Kd.C_of_reads (h1 := fun _ => rfl) (hA8 _ (Kd.reads_of_C HR0.out)))
            have HC447 := Aside0.mk hC8
            clear hA8 hC8 hi08 hsz8
            go_wp2
            go_loopg [8, 22] kj2 (fun kq v8 v22 w' => ∃ (x8_2 : Int) (x22_2 : Int), v8 = .int .u64 x8_2 ∧ v22 = .int .i64 x22_2 ∧ Aside0 (num_Uint.l0 kq a1 (l0.drop (a1 : Int).toNat) x8_2 x22_2 = some (r1, r2, r3)) ∧ Aside0 (kq ≤ kj2) ∧ Drawn0 w w')
            case atStart => exact ⟨(0), (0), (by first | rfl | (simp; done) | (simp [*]; done)), (by first | rfl | (simp; done) | (simp [*]; done)), H', ⟨Nat.le_refl _⟩, by repeat (first | exact Drawn0.refl _ | apply Drawn0.step)⟩
            case round =>
              clear H'
              try clear c2
              try clear p2
              try clear c4
              try clear c4b0
              try clear c4b1
              try clear c5
              try clear c6
              try clear c6b0
              try clear c6b1
              try clear c7
              try clear c7b0
              try clear c7b1
              try clear p2
              obtain ⟨x8_2, x22_2, rfl, rfl, HA, HK2, ⟨m2, rfl⟩⟩ := hrel
              cases gk with
              | zero => exact absurd HA.out (by simp [num_Uint.l0])
              | succ k2 =>
                have H := HA.out
                clear HA
                simp only [num_Uint.l0] at H
                by_cases c9 : x22_2 < 10
                · rw [if_pos c9] at H
                  have c9b0 : decide (x22_2 < 10) = true := decide_eq_true c9
                  clear c9
                  by_cases c10 : x22_2 = ((l0.drop (a1 : Int).toNat).length : Int)
                  · rw [if_pos c10] at H
                    have c10b0 : (x22_2 == ((l0.drop (a1 : Int).toNat).length : Int)) = true := beq_iff_eq.mpr c10
                    have c10b0_ : (x22_2 == ((l0.length - (a1 : Int).toNat : Nat) : Int)) = true := by rw [← List.length_drop]; exact c10b0
                    have c10b1 : (x22_2 != ((l0.drop (a1 : Int).toNat).length : Int)) = false := bne_eq_false_iff_eq.mpr c10
                    have c10b1_ : (x22_2 != ((l0.length - (a1 : Int).toNat : Nat) : Int)) = false := by rw [← List.length_drop]; exact c10b1
                    clear c10
                    simp only [Option.some.injEq, Prod.mk.injEq] at H
                    obtain ⟨rfl, rfl, rfl⟩ := H
                    go_wp2
                    go_ret3
                    exact ⟨by first | rfl | (simp; done) | (simp [*]; done), by repeat (first | exact Drawn0.refl _ | apply Drawn0.step)⟩
                  · rw [if_neg c10] at H
                    have c10b0 : (x22_2 == ((l0.drop (a1 : Int).toNat).length : Int)) = false := beq_eq_false_iff_ne.mpr c10
                    have c10b0_ : (x22_2 == ((l0.length - (a1 : Int).toNat : Nat) : Int)) = false := by rw [← List.length_drop]; exact c10b0
                    have c10b1 : (x22_2 != ((l0.drop (a1 : Int).toNat).length : Int)) = true := bne_iff_ne.mpr c10
                    have c10b1_ : (x22_2 != ((l0.length - (a1 : Int).toNat : Nat) : Int)) = true := by rw [← List.length_drop]; exact c10b1
                    by_cases c11 : 0 ≤ x22_2
                    · rw [if_pos c11] at H
                      have c11b0 : decide (0 ≤ x22_2) = true := decide_eq_true c11
                      clear c11
                      by_cases c12 : x22_2 < ((l0.drop (a1 : Int).toNat).length : Int)
                      · rw [if_pos c12] at H
                        have c12b0 : decide (x22_2 < ((l0.drop (a1 : Int).toNat).length : Int)) = true := decide_eq_true c12
                        have c12b0_ : decide (x22_2 < ((l0.length - (a1 : Int).toNat : Nat) : Int)) = true := by rw [← List.length_drop]; exact c12b0
                        clear c12
                        have HC13 := Aside0.mk H
                        clear H
                        have p448 : 0 ≤ (x22_2 : Int) := of_decide_eq_true (by first | (with_reducible assumption) | assumption)
                        have q448 : x22_2 < ((l0.drop (a1 : Int).toNat).length : Int) := of_decide_eq_true (by first | (with_reducible assumption) | assumption)
                        obtain ⟨ad448, e448, hx448_0⟩ := Kd.at_int HR447.out x22_2 p448 q448
                        cases e448
                        replace p448 := eq_true p448
                        replace q448 := eq_true q448
                        have q448_ : (x22_2 < ((l0.length - (a1 : Int).toNat : Nat) : Int)) = True := by rw [← List.length_drop]; exact q448
                        go_upto_region 11 with (fail)
                        go_cut [46] (fun v46 wc => ∃ (kq : Nat) (x46_12 : Bool), v46 = .bool x46_12 ∧ Aside0 (num_Uint.j2 kq a1 (l0.drop (a1 : Int).toNat) x8_2 x22_2 (rd (l0.drop (a1 : Int).toNat) x22_2) x22_2 x46_12 = some (r1, r2, r3)) ∧ Aside0 (kq ≤ k2) ∧ Drawn0 w wc)
                        case first =>
                          have H := HC13.out
                          clear HC13
                          by_cases c14 : x22_2 = 9
                          · rw [if_pos c14] at H
                            have c14b0 : (x22_2 == 9) = true := beq_iff_eq.mpr c14
                            have c14b1 : (x22_2 != 9) = false := bne_eq_false_iff_eq.mpr c14
                            clear c14
                            (first | rw [c14b0] | (simp only [i64_w, i32_w]; rw [c14b0]) | rw [c14b1] | (simp only [i64_w, i32_w]; rw [c14b1]) | skip)
                            by_cases c15 : (rd (l0.drop (a1 : Int).toNat) x22_2) > 1
                            · rw [if_pos c15] at H
                              have c15b0 : decide (1 < (rd (l0.drop (a1 : Int).toNat) x22_2)) = true := decide_eq_true c15
                              clear c15
                              have H' := Aside0.mk H
                              clear H
                              go_wp2
                              go_meet
                              case rel => exact ⟨_, (true), (by first | rfl | (simp; done) | (simp [*]; done)), H', ⟨by have := HJ2.out; have := HK2.out; first | omega | exact Nat.le_refl _⟩, by repeat (first | exact Drawn0.refl _ | apply Drawn0.step)⟩
                            · rw [if_neg c15] at H
                              have c15b0 : decide (1 < (rd (l0.drop (a1 : Int).toNat) x22_2)) = false := decide_eq_false c15
                              clear c15
                              by_cases c16 : x22_2 > 0
                              · rw [if_pos c16] at H
                                have c16b0 : decide (0 < x22_2) = true := decide_eq_true c16
                                clear c16
                                have H' := Aside0.mk H
                                clear H
                                go_wp2
                                go_meet
                                case rel => exact ⟨_, (((rd (l0.drop (a1 : Int).toNat) x22_2) == 0)), (by first | rfl | (simp; done) | (simp [*]; done)), H', ⟨by have := HJ2.out; have := HK2.out; first | omega | exact Nat.le_refl _⟩, by repeat (first | exact Drawn0.refl _ | apply Drawn0.step)⟩
                              · rw [if_neg c16] at H
                                have c16b0 : decide (0 < x22_2) = false := decide_eq_false c16
                                clear c16
                                have H' := Aside0.mk H
                                clear H
                                go_wp2
                                go_meet
                                case rel => exact ⟨_, (false), (by first | rfl | (simp; done) | (simp [*]; done)), H', ⟨by have := HJ2.out; have := HK2.out; first | omega | exact Nat.le_refl _⟩, by repeat (first | exact Drawn0.refl _ | apply Drawn0.step)⟩
                          · rw [if_neg c14] at H
                            have c14b0 : (x22_2 == 9) = false := beq_eq_false_iff_ne.mpr c14
                            have c14b1 : (x22_2 != 9) = true := bne_iff_ne.mpr c14
                            (first | rw [c14b0] | (simp only [i64_w, i32_w]; rw [c14b0]) | rw [c14b1] | (simp only [i64_w, i32_w]; rw [c14b1]) | skip)
                            by_cases c17 : x22_2 > 0
                            · rw [if_pos c17] at H
                              have c17b0 : decide (0 < x22_2) = true := decide_eq_true c17
                              clear c17
                              have H' := Aside0.mk H
                              clear H
                              go_wp2
                              go_meet
                              case rel => exact ⟨_, (((rd (l0.drop (a1 : Int).toNat) x22_2) == 0)), (by first | rfl | (simp; done) | (simp [*]; done)), H', ⟨by have := HJ2.out; have := HK2.out; first | omega | exact Nat.le_refl _⟩, by repeat (first | exact Drawn0.refl _ | apply Drawn0.step)⟩
                            · rw [if_neg c17] at H
                              have c17b0 : decide (0 < x22_2) = false := decide_eq_false c17
                              clear c17
                              have H' := Aside0.mk H
                              clear H
                              go_wp2
                              go_meet
                              case rel => exact ⟨_, (false), (by first | rfl | (simp; done) | (simp [*]; done)), H', ⟨by have := HJ2.out; have := HK2.out; first | omega | exact Nat.le_refl _⟩, by repeat (first | exact Drawn0.refl _ | apply Drawn0.step)⟩
                        case rest =>
                          clear HC13
                          try clear c1
                          try clear c2
                          try clear p2
                          try clear c4
                          try clear c4b0
                          try clear c4b1
                          try clear p4
                          try clear q4
                          try clear hx4
                          try clear c5
                          try clear c6
                          try clear c6b0
                          try clear c6b1
                          try clear c7
                          try clear c7b0
                          try clear c7b1
                          try clear c9
                          try clear c9b0
                          try clear c10
                          try clear c10b0
                          try clear c10b1
                          try clear c11
                          try clear c11b0
                          try clear c12
                          try clear c12b0
                          try clear c14
                          try clear c14b0
                          try clear c14b1
                          try clear c15
                          try clear c15b0
                          try clear c16
                          try clear c16b0
                          try clear c17
                          try clear c17b0
                          try clear hx448_0
                          try clear p2
                          try clear p448
                          try clear q448
                          obtain ⟨kq, x46_12, rfl, HA, HJ12, ⟨mc12, rfl⟩⟩ := hcut
                          cases kq with
                          | zero => exact absurd HA.out (by simp [num_Uint.j2])
                          | succ kj12 =>
                            have H := HA.out
                            clear HA
                            simp only [num_Uint.j2] at H
                            by_cases c18 : x46_12 = true
                            · subst c18
                              have H1 : (some (0, 0, 12)) = some (r1, r2, r3) := by rw [if_pos rfl] at H; exact H
                              clear H
                              have H := H1
                              clear H1
                              simp only [Option.some.injEq, Prod.mk.injEq] at H
                              obtain ⟨rfl, rfl, rfl⟩ := H
                              go_wp2
                              go_ret3
                              exact ⟨by first | rfl | (simp; done) | (simp [*]; done), by repeat (first | exact Drawn0.refl _ | apply Drawn0.step)⟩
                            · replace c18 := Bool.eq_false_iff.mpr c18
                              subst c18
                              have H1 : (if 0 ≤ (wrap64 (7 * x22_2)) then (if (rd (l0.drop (a1 : Int).toNat) x22_2) < 128 then (some (Go.bits .or .u64 x8_2 (shl .u64 (IntKind.u64.wrap (Go.bits .and .u8 (rd (l0.drop (a1 : Int).toNat) x22_2) 127)) (wrap64 (7 * x22_2))), wrap64 ((wrap64 (a1 + x22_2)) + 1), 0)) else (num_Uint.l0 kj12 a1 (l0.drop (a1 : Int).toNat) (Go.bits .or .u64 x8_2 (shl .u64 (IntKind.u64.wrap (Go.bits .and .u8 (rd (l0.drop (a1 : Int).toNat) x22_2) 127)) (wrap64 (7 * x22_2)))) (wrap64 (x22_2 + 1)))) else (none)) = some (r1, r2, r3) := by rw [if_neg (show ¬ (false = true) by decide)] at H; exact H
                              clear H
                              have H := H1
                              clear H1
                              obtain ⟨ji19, hji19⟩ : ∃ j_ : Int, (wrap64 (7 * x22_2)) = j_ := ⟨_, rfl⟩
                              replace H : (if 0 ≤ (ji19) then (if (rd (l0.drop (a1 : Int).toNat) x22_2) < 128 then (some (Go.bits .or .u64 x8_2 (shl .u64 (IntKind.u64.wrap (Go.bits .and .u8 (rd (l0.drop (a1 : Int).toNat) x22_2) 127)) (ji19)), wrap64 ((wrap64 (a1 + x22_2)) + 1), 0)) else (num_Uint.l0 kj12 a1 (l0.drop (a1 : Int).toNat) (Go.bits .or .u64 x8_2 (shl .u64 (IntKind.u64.wrap (Go.bits .and .u8 (rd (l0.drop (a1 : Int).toNat) x22_2) 127)) (ji19))) (wrap64 (x22_2 + 1)))) else (none)) = some (r1, r2, r3) := by first | (rw [hji19] at H; exact H) | (simp only [hji19] at H ⊢; exact H)
                              have hji19w : (IntKind.i64.wrap (7 * x22_2)) = ji19 := (i64_w _).trans hji19
                              by_cases c20 : 0 ≤ (ji19)
                              · rw [if_pos c20] at H
                                have c20b0 := eq_true c20
                                have c20b1 : decide (0 ≤ (ji19)) = true := decide_eq_true c20
                                clear c20
                                obtain ⟨ji21, hji21⟩ : ∃ j_ : Int, (shl .u64 (IntKind.u64.wrap (Go.bits .and .u8 (rd (l0.drop (a1 : Int).toNat) x22_2) 127)) (ji19)) = j_ := ⟨_, rfl⟩
                                replace H : (if (rd (l0.drop (a1 : Int).toNat) x22_2) < 128 then (some (Go.bits .or .u64 x8_2 (ji21), wrap64 ((wrap64 (a1 + x22_2)) + 1), 0)) else (num_Uint.l0 kj12 a1 (l0.drop (a1 : Int).toNat) (Go.bits .or .u64 x8_2 (ji21)) (wrap64 (x22_2 + 1)))) = some (r1, r2, r3) := by first | (rw [hji21] at H; exact H) | (simp only [hji21] at H ⊢; exact H)
                                have hji21_ : (IntKind.u64.wrap ((IntKind.u64.wrap (Go.bits .and .u8 (rd (l0.drop (a1 : Int).toNat) x22_2) 127)) * 2 ^ min (ji19).toNat 64)) = ji21 := hji21
                                have hji21z : (ji19) ≤ 64 → (IntKind.u64.wrap ((IntKind.u64.wrap (Go.bits .and .u8 (rd (l0.drop (a1 : Int).toNat) x22_2) 127)) * 2 ^ (ji19).toNat)) = ji21 := shl_small hji21
                                by_cases c22 : (rd (l0.drop (a1 : Int).toNat) x22_2) < 128
                                · rw [if_pos c22] at H
                                  have c22b0 : decide ((rd (l0.drop (a1 : Int).toNat) x22_2) < 128) = true := decide_eq_true c22
                                  clear c22
                                  simp only [Option.some.injEq, Prod.mk.injEq] at H
                                  obtain ⟨rfl, rfl, rfl⟩ := H
                                  go_wp2
                                  go_ret3
                                  exact ⟨by first | rfl | (simp; done) | (simp only [← hji19, ← hji21] <;> (first | rfl | simp)) | (simp [*]; done), by repeat (first | exact Drawn0.refl _ | apply Drawn0.step)⟩
                                · rw [if_neg c22] at H
                                  have c22b0 : decide ((rd (l0.drop (a1 : Int).toNat) x22_2) < 128) = false := decide_eq_false c22
                                  clear c22
                                  have H' := Aside0.mk H
                                  clear H
                                  go_wp2
                                  go_roundg kj12
                                  case measure => have := HJ2.out; have := HK2.out; have := HJ12.out; omega
                                  case rel => exact ⟨(Go.bits .or .u64 x8_2 (ji21)), (wrap64 (x22_2 + 1)), (by first | rfl | (simp; done) | (simp only [← hji21] <;> (first | rfl | simp)) | (simp [*]; done)), (by first | rfl | (simp; done) | (simp [*]; done)), H', ⟨by have := HJ2.out; have := HK2.out; have := HJ12.out; omega⟩, by repeat (first | exact Drawn0.refl _ | apply Drawn0.step)⟩
                              · rw [if_neg c20] at H
                                exact absurd H (by simp)
                      · rw [if_neg c12] at H
                        exact absurd H (by simp)
                    · rw [if_neg c11] at H
                      exact absurd H (by simp)
                · rw [if_neg c9] at H
                  have c9b0 : decide (x22_2 < 10) = false := decide_eq_false c9
                  clear c9
                  simp only [Option.some.injEq, Prod.mk.injEq] at H
                  obtain ⟨rfl, rfl, rfl⟩ := H
                  go_wp2
                  go_ret3
                  exact ⟨by first | rfl | (simp; done) | (simp [*]; done), by repeat (first | exact Drawn0.refl _ | apply Drawn0.step)⟩
          · rw [if_neg c7] at H
            exact absurd H (by simp)
        · rw [if_neg c6] at H
          exact absurd H (by simp)
end Go.Proofs.Ytmehfnikecmiiaa.X
