-- Written by a program of this session (wip/xprint.py) out of the translation's print; Lean checks it.
import Derived.Test.YtgpmkljklkmipaaXx0
namespace Go.Proofs.Ytgpmkljklkmipaa.X
open Go.RowKit Go.Proofs.YtgpmkljklkmipaaW.PrintWords Go.Proofs.YtgpmkljklkmipaaW.PrintLast Go.Proofs.YtgpmkljklkmipaaW.PrintMore Go.Proofs.YtgpmkljklkmipaaW
attribute [local go_sem] max2_int min2_int max_two min_two max_three min_three max_four min_four   -- for this text's walks alone
set_option linter.unusedVariables false
set_option linter.unusedSimpArgs false

/-! ### scrupleref05_Find: function 16 -/
def scrupleref05_Find.l0 : Nat → List (S50) → Int → Int → Option (Int × Bool)
  | 0, _, _, _ => none
  | k + 1, x0, x1, x6 => if x6 < (x0.length : Int) then (if 0 ≤ x6 then (if ((rd_T50 x0 x6).f0) < x1 then (scrupleref05_Find.l0 k x0 x1 (wrap64 (x6 + 1))) else (some (x6, (((rd_T50 x0 x6).f0) == x1)))) else (none)) else (some (x6, false))
def scrupleref05_Find.f (k : Nat) (l0 : List (S50)) (a1 : Int) : Option (Int × Bool) := scrupleref05_Find.l0 k l0 a1 0
theorem scrupleref05_Find.mono_l : ∀ k, (∀ y0 y1 y2, LeO (scrupleref05_Find.l0 k y0 y1 y2) (scrupleref05_Find.l0 (k + 1) y0 y1 y2))
  | 0 => fun _ _ _ r h => by simp [scrupleref05_Find.l0] at h
  | k + 1 => by
    have ih0 := scrupleref05_Find.mono_l k
    · intro y0 y1 y2
      unfold scrupleref05_Find.l0
      repeat' first
      | (with_reducible exact ih0 _ _ _)
      | (with_reducible exact LeO.refl _)
      | (with_reducible exact LeO.none _)
      | (with_reducible refine LeO.ite ?_ ?_)
      | (with_reducible refine LeO.bind ?_ (fun _ => ?_))
      | exact ih0 _ _ _
      | exact LeO.none _
      | refine LeO.ite ?_ ?_
      | refine LeO.bind ?_ (fun _ => ?_)
theorem scrupleref05_Find.mono : ∀ a0 a1 k, LeO (scrupleref05_Find.f k a0 a1) (scrupleref05_Find.f (k + 1) a0 a1) := by
  intro a0 a1 k
  have ih0 := scrupleref05_Find.mono_l k
  unfold scrupleref05_Find.f
  repeat' first
      | (with_reducible exact ih0 _ _ _)
      | (with_reducible exact LeO.refl _)
      | (with_reducible exact LeO.none _)
      | (with_reducible refine LeO.ite ?_ ?_)
      | (with_reducible refine LeO.bind ?_ (fun _ => ?_))
      | exact ih0 _ _ _
      | exact LeO.none _
      | refine LeO.ite ?_ ?_
      | refine LeO.bind ?_ (fun _ => ?_)
set_option maxHeartbeats 8000000 in
set_option maxRecDepth 100000 in
theorem scrupleref05_Find.calls (k : Nat) (A0 : Option Addr) (c0 : Nat) (l0 : List (S50)) (a1 : Int) (r1 : Int) (r2 : Bool) (w : World) (hr0 : Kd.C k50 w A0 l0.length l0) (hc0 : l0.length ≤ c0) (h : scrupleref05_Find.f k l0 a1 = some (r1, r2)) :
    Calls Try.prog 16 #[.slice A0 l0.length c0, .int .i64 a1] w fun e w' => e = .returned (.tuple #[.int .i64 r1, .bool r2]) ∧ Drawn0 w w' := by
  have HR0 := Aside0.mk hr0
  have HC0 := Aside0.mk hc0
  clear hr0 hc0
  have H : (scrupleref05_Find.l0 k l0 a1 0) = some (r1, r2) := h
  clear h
  have H' := Aside0.mk H
  clear H
  go_enter Try.func16, Try.ntmps16
  go_wp2
  repeat (go_quiet (fail); try go_wp2)
  go_loopg [6] k (fun kq v6 w' => ∃ (x6_1 : Int), v6 = .int .i64 x6_1 ∧ Aside0 (scrupleref05_Find.l0 kq l0 a1 x6_1 = some (r1, r2)) ∧ Aside0 (kq ≤ k) ∧ Drawn0 w w')
  case atStart => exact ⟨(0), (by first | rfl | (simp; done) | (simp [*]; done)), H', ⟨Nat.le_refl _⟩, by repeat (first | exact Drawn0.refl _ | apply Drawn0.step)⟩
  case round =>
    clear H'
    try clear c1
    try clear p2
    obtain ⟨x6_1, rfl, HA, HK1, ⟨m1, rfl⟩⟩ := hrel
    cases gk with
    | zero => exact absurd HA.out (by simp [scrupleref05_Find.l0])
    | succ k1 =>
      have H := HA.out
      clear HA
      simp only [scrupleref05_Find.l0] at H
      by_cases c3 : x6_1 < (l0.length : Int)
      · rw [if_pos c3] at H
        have c3b0 : decide (x6_1 < (l0.length : Int)) = true := decide_eq_true c3
        clear c3
        by_cases c4 : 0 ≤ x6_1
        · rw [if_pos c4] at H
          have c4b0 : decide (0 ≤ x6_1) = true := decide_eq_true c4
          clear c4
          by_cases c5 : ((rd_T50 l0 x6_1).f0) < a1
          · rw [if_pos c5] at H
            have c5b0 : decide (((rd_T50 l0 x6_1).f0) < a1) = true := decide_eq_true c5
            clear c5
            have H' := Aside0.mk H
            clear H
            have p111 : 0 ≤ (x6_1 : Int) := of_decide_eq_true (by first | (with_reducible assumption) | assumption)
            have q111 : x6_1 < (l0.length : Int) := of_decide_eq_true (by first | (with_reducible assumption) | assumption)
            obtain ⟨ad111, e111, hx111_0, hx111_1⟩ := at_T50 HR0.out x6_1 p111 q111
            cases e111
            replace p111 := eq_true p111
            replace q111 := eq_true q111
            go_wp2
            repeat (go_quiet (fail); try go_wp2)
            go_roundg k1
            case measure => have := HK1.out; omega
            case rel => exact ⟨(wrap64 (x6_1 + 1)), (by first | rfl | (simp; done) | (simp [*]; done)), H', ⟨by have := HK1.out; omega⟩, by repeat (first | exact Drawn0.refl _ | apply Drawn0.step)⟩
          · rw [if_neg c5] at H
            have c5b0 : decide (((rd_T50 l0 x6_1).f0) < a1) = false := decide_eq_false c5
            clear c5
            simp only [Option.some.injEq, Prod.mk.injEq] at H
            obtain ⟨rfl, rfl⟩ := H
            have p111 : 0 ≤ (x6_1 : Int) := of_decide_eq_true (by first | (with_reducible assumption) | assumption)
            have q111 : x6_1 < (l0.length : Int) := of_decide_eq_true (by first | (with_reducible assumption) | assumption)
            obtain ⟨ad111, e111, hx111_0, hx111_1⟩ := at_T50 HR0.out x6_1 p111 q111
            cases e111
            replace p111 := eq_true p111
            replace q111 := eq_true q111
            have p112 : 0 ≤ (x6_1 : Int) := of_decide_eq_true (by first | (with_reducible assumption) | assumption)
            have q112 : x6_1 < (l0.length : Int) := of_decide_eq_true (by first | (with_reducible assumption) | assumption)
            obtain ⟨ad112, e112, hx112_0, hx112_1⟩ := at_T50 HR0.out x6_1 p112 q112
            obtain rfl : ad111 = ad112 := (by injection e112)
            replace p112 := eq_true p112
            replace q112 := eq_true q112
            go_wp2
            repeat (go_quiet (fail); try go_wp2)
            go_ret2
            exact ⟨by first | rfl | (simp; done) | (simp [*]; done), by repeat (first | exact Drawn0.refl _ | apply Drawn0.step)⟩
        · rw [if_neg c4] at H
          exact absurd H (by simp)
      · rw [if_neg c3] at H
        have c3b0 : decide (x6_1 < (l0.length : Int)) = false := decide_eq_false c3
        clear c3
        simp only [Option.some.injEq, Prod.mk.injEq] at H
        obtain ⟨rfl, rfl⟩ := H
        go_wp2
        repeat (go_quiet (fail); try go_wp2)
        go_ret2
        exact ⟨by first | rfl | (simp; done) | (simp [*]; done), by repeat (first | exact Drawn0.refl _ | apply Drawn0.step)⟩

/-! ### scrupleref05_Put: function 40 -/
def scrupleref05_Put.f (k : Nat) (l0 : List (S50)) (a1 : Int) (a2 : Int) : Option ((List (S50)) × Bool) := (scrupleref05_Find.f k l0 a1).bind fun bt114 => (if 0 ≤ bt114.1 then (if bt114.1 ≤ (l0.length : Int) then ((some (l0.take (bt114.1 : Int).toNat : List (S50))).bind fun y116 => (if ([] : List (S50)).length + y116.length < 8796093022208 then ((some (([] : List (S50)) ++ y116 : List (S50))).bind fun y120 => (if y120.length < 8796093022208 then ((some (y120 ++ [(⟨a1, a2⟩ : S50)] : List (S50))).bind fun y123 => (if bt114.2 = true then (if 0 ≤ (wrap64 (bt114.1 + 1)) then (if (wrap64 (bt114.1 + 1)) ≤ (l0.length : Int) then ((some (l0.drop ((wrap64 (bt114.1 + 1)) : Int).toNat : List (S50))).bind fun y126 => (if y123.length + y126.length < 8796093022208 then (some ((y123 ++ y126), bt114.2)) else (none))) else (none)) else (none)) else ((some (l0.drop (bt114.1 : Int).toNat : List (S50))).bind fun y133 => (if y123.length + y133.length < 8796093022208 then (some ((y123 ++ y133), bt114.2)) else (none))))) else (none))) else (none))) else (none)) else (none))
theorem scrupleref05_Put.mono : ∀ a0 a1 a2 k, LeO (scrupleref05_Put.f k a0 a1 a2) (scrupleref05_Put.f (k + 1) a0 a1 a2) := by
  intro a0 a1 a2 k
  unfold scrupleref05_Put.f
  repeat' first
      | (with_reducible exact scrupleref05_Find.mono _ _ _)
      | (with_reducible exact LeO.refl _)
      | (with_reducible exact LeO.none _)
      | (with_reducible refine LeO.ite ?_ ?_)
      | (with_reducible refine LeO.bind ?_ (fun _ => ?_))
      | exact scrupleref05_Find.mono _ _ _
      | exact LeO.none _
      | refine LeO.ite ?_ ?_
      | refine LeO.bind ?_ (fun _ => ?_)
set_option maxHeartbeats 8000000 in
set_option maxRecDepth 100000 in
theorem scrupleref05_Put.calls (k : Nat) (A0 : Option Addr) (c0 : Nat) (l0 : List (S50)) (a1 : Int) (a2 : Int) (r1 : List (S50)) (r2 : Bool) (w : World) (hr0 : Kd.C k50 w A0 l0.length l0) (hc0 : l0.length ≤ c0) (h : scrupleref05_Put.f k l0 a1 a2 = some (r1, r2)) :
    Calls Try.prog 40 #[.slice A0 l0.length c0, .int .i64 a1, .int .i64 a2] w fun e w' => ∃ v0_ : Value, e = .returned (.tuple #[v0_, .bool r2]) ∧ Kd.R k50 50 w' w.heap.size (fun _ => True) v0_ r1 ∧ Below w.heap.size w w' := by
  have hu50 := Try.underlying50
  have HR0 := Aside0.mk hr0
  have HC0 := Aside0.mk hc0
  clear hr0 hc0
  have HB := Aside0.mk (Below.refl w.heap.size w)
  have H : ((scrupleref05_Find.f k l0 a1).bind fun bt114 => (if 0 ≤ bt114.1 then (if bt114.1 ≤ (l0.length : Int) then ((some (l0.take (bt114.1 : Int).toNat : List (S50))).bind fun y116 => (if ([] : List (S50)).length + y116.length < 8796093022208 then ((some (([] : List (S50)) ++ y116 : List (S50))).bind fun y120 => (if y120.length < 8796093022208 then ((some (y120 ++ [(⟨a1, a2⟩ : S50)] : List (S50))).bind fun y123 => (if bt114.2 = true then (if 0 ≤ (wrap64 (bt114.1 + 1)) then (if (wrap64 (bt114.1 + 1)) ≤ (l0.length : Int) then ((some (l0.drop ((wrap64 (bt114.1 + 1)) : Int).toNat : List (S50))).bind fun y126 => (if y123.length + y126.length < 8796093022208 then (some ((y123 ++ y126), bt114.2)) else (none))) else (none)) else (none)) else ((some (l0.drop (bt114.1 : Int).toNat : List (S50))).bind fun y133 => (if y123.length + y133.length < 8796093022208 then (some ((y123 ++ y133), bt114.2)) else (none))))) else (none))) else (none))) else (none)) else (none))) = some (r1, r2) := h
  clear h
  replace H := Option.bind_eq_some_iff.mp H
  obtain ⟨⟨t114, t115⟩, A40, H⟩ := H
  replace H : (if 0 ≤ t114 then (if t114 ≤ (l0.length : Int) then ((some (l0.take (t114 : Int).toNat : List (S50))).bind fun y116 => (if ([] : List (S50)).length + y116.length < 8796093022208 then ((some (([] : List (S50)) ++ y116 : List (S50))).bind fun y120 => (if y120.length < 8796093022208 then ((some (y120 ++ [(⟨a1, a2⟩ : S50)] : List (S50))).bind fun y123 => (if t115 = true then (if 0 ≤ (wrap64 (t114 + 1)) then (if (wrap64 (t114 + 1)) ≤ (l0.length : Int) then ((some (l0.drop ((wrap64 (t114 + 1)) : Int).toNat : List (S50))).bind fun y126 => (if y123.length + y126.length < 8796093022208 then (some ((y123 ++ y126), t115)) else (none))) else (none)) else (none)) else ((some (l0.drop (t114 : Int).toNat : List (S50))).bind fun y133 => (if y123.length + y133.length < 8796093022208 then (some ((y123 ++ y133), t115)) else (none))))) else (none))) else (none))) else (none)) else (none)) = some (r1, r2) := H
  have A4 := Aside0.mk A40
  clear A40
  by_cases c5 : 0 ≤ t114
  · rw [if_pos c5] at H
    have c5b0 := eq_true c5
    have c5b1 : decide (0 ≤ t114) = true := decide_eq_true c5
    clear c5
    by_cases c6 : t114 ≤ (l0.length : Int)
    · rw [if_pos c6] at H
      have c6b0 := eq_true c6
      have c6b1 : decide (t114 ≤ (l0.length : Int)) = true := decide_eq_true c6
      clear c6
      obtain ⟨y116, hy116⟩ : ∃ y_ : List (S50), y_ = (l0.take (t114 : Int).toNat) := ⟨_, rfl⟩
      replace H : (if ([] : List (S50)).length + y116.length < 8796093022208 then ((some (([] : List (S50)) ++ y116 : List (S50))).bind fun y120 => (if y120.length < 8796093022208 then ((some (y120 ++ [(⟨a1, a2⟩ : S50)] : List (S50))).bind fun y123 => (if t115 = true then (if 0 ≤ (wrap64 (t114 + 1)) then (if (wrap64 (t114 + 1)) ≤ (l0.length : Int) then ((some (l0.drop ((wrap64 (t114 + 1)) : Int).toNat : List (S50))).bind fun y126 => (if y123.length + y126.length < 8796093022208 then (some ((y123 ++ y126), t115)) else (none))) else (none)) else (none)) else ((some (l0.drop (t114 : Int).toNat : List (S50))).bind fun y133 => (if y123.length + y133.length < 8796093022208 then (some ((y123 ++ y133), t115)) else (none))))) else (none))) else (none)) = some (r1, r2) := by first | (rw [hy116]; with_reducible exact H) | (have H2_ := (Option.bind_some _ _).symm.trans H; rw [hy116]; with_reducible exact H2_) | (have H2_ := (Option.bind_some _ _).symm.trans H; with_reducible exact H2_) | with_reducible exact H | (rw [hy116]; exact H) | exact H
      have Ny116 := Aside0.mk hy116
      clear hy116
      by_cases c7 : ([] : List (S50)).length + y116.length < 8796093022208
      · rw [if_pos c7] at H
        have LMc7 := Aside0.mk c7
        clear c7
        obtain ⟨y120, hy120⟩ : ∃ y_ : List (S50), y_ = (([] : List (S50)) ++ y116) := ⟨_, rfl⟩
        replace H : (if y120.length < 8796093022208 then ((some (y120 ++ [(⟨a1, a2⟩ : S50)] : List (S50))).bind fun y123 => (if t115 = true then (if 0 ≤ (wrap64 (t114 + 1)) then (if (wrap64 (t114 + 1)) ≤ (l0.length : Int) then ((some (l0.drop ((wrap64 (t114 + 1)) : Int).toNat : List (S50))).bind fun y126 => (if y123.length + y126.length < 8796093022208 then (some ((y123 ++ y126), t115)) else (none))) else (none)) else (none)) else ((some (l0.drop (t114 : Int).toNat : List (S50))).bind fun y133 => (if y123.length + y133.length < 8796093022208 then (some ((y123 ++ y133), t115)) else (none))))) else (none)) = some (r1, r2) := by first | (rw [hy120]; with_reducible exact H) | (have H2_ := (Option.bind_some _ _).symm.trans H; rw [hy120]; with_reducible exact H2_) | (have H2_ := (Option.bind_some _ _).symm.trans H; with_reducible exact H2_) | with_reducible exact H | (rw [hy120]; exact H) | exact H
        have Ny120 := Aside0.mk hy120
        clear hy120
        by_cases c8 : y120.length < 8796093022208
        · rw [if_pos c8] at H
          have LMc8 := Aside0.mk c8
          clear c8
          obtain ⟨y123, hy123⟩ : ∃ y_ : List (S50), y_ = (y120 ++ [(⟨a1, a2⟩ : S50)]) := ⟨_, rfl⟩
          replace H : (if t115 = true then (if 0 ≤ (wrap64 (t114 + 1)) then (if (wrap64 (t114 + 1)) ≤ (l0.length : Int) then ((some (l0.drop ((wrap64 (t114 + 1)) : Int).toNat : List (S50))).bind fun y126 => (if y123.length + y126.length < 8796093022208 then (some ((y123 ++ y126), t115)) else (none))) else (none)) else (none)) else ((some (l0.drop (t114 : Int).toNat : List (S50))).bind fun y133 => (if y123.length + y133.length < 8796093022208 then (some ((y123 ++ y133), t115)) else (none)))) = some (r1, r2) := by first | (rw [hy123]; with_reducible exact H) | (have H2_ := (Option.bind_some _ _).symm.trans H; rw [hy123]; with_reducible exact H2_) | (have H2_ := (Option.bind_some _ _).symm.trans H; with_reducible exact H2_) | with_reducible exact H | (rw [hy123]; exact H) | exact H
          have Ny123 := Aside0.mk hy123
          clear hy123
          by_cases c9 : t115 = true
          · subst c9
            have H1 : (if 0 ≤ (wrap64 (t114 + 1)) then (if (wrap64 (t114 + 1)) ≤ (l0.length : Int) then ((some (l0.drop ((wrap64 (t114 + 1)) : Int).toNat : List (S50))).bind fun y126 => (if y123.length + y126.length < 8796093022208 then (some ((y123 ++ y126), true)) else (none))) else (none)) else (none)) = some (r1, r2) := by rw [if_pos rfl] at H; exact H
            clear H
            have H := H1
            clear H1
            obtain ⟨ji10, hji10⟩ : ∃ j_ : Int, (wrap64 (t114 + 1)) = j_ := ⟨_, rfl⟩
            replace H : (if 0 ≤ (ji10) then (if (ji10) ≤ (l0.length : Int) then ((some (l0.drop ((ji10) : Int).toNat : List (S50))).bind fun y126 => (if y123.length + y126.length < 8796093022208 then (some ((y123 ++ y126), true)) else (none))) else (none)) else (none)) = some (r1, r2) := by first | (rw [hji10] at H; exact H) | (simp only [hji10] at H ⊢; exact H)
            (try rw [hji10] at A4)
            have hji10w : (IntKind.i64.wrap (t114 + 1)) = ji10 := (i64_w _).trans hji10
            by_cases c11 : 0 ≤ (ji10)
            · rw [if_pos c11] at H
              have c11b0 := eq_true c11
              have c11b1 : decide (0 ≤ (ji10)) = true := decide_eq_true c11
              clear c11
              by_cases c12 : (ji10) ≤ (l0.length : Int)
              · rw [if_pos c12] at H
                have c12b0 := eq_true c12
                have c12b1 : decide ((ji10) ≤ (l0.length : Int)) = true := decide_eq_true c12
                clear c12
                obtain ⟨y126, hy126⟩ : ∃ y_ : List (S50), y_ = (l0.drop ((ji10) : Int).toNat) := ⟨_, rfl⟩
                replace H : (if y123.length + y126.length < 8796093022208 then (some ((y123 ++ y126), true)) else (none)) = some (r1, r2) := by first | (rw [hy126]; with_reducible exact H) | (have H2_ := (Option.bind_some _ _).symm.trans H; rw [hy126]; with_reducible exact H2_) | (have H2_ := (Option.bind_some _ _).symm.trans H; with_reducible exact H2_) | with_reducible exact H | (rw [hy126]; exact H) | exact H
                have Ny126 := Aside0.mk hy126
                clear hy126
                by_cases c13 : y123.length + y126.length < 8796093022208
                · rw [if_pos c13] at H
                  have LMc13 := Aside0.mk c13
                  clear c13
                  obtain ⟨y130, hy130⟩ : ∃ y_ : List (S50), y_ = (y123 ++ y126) := ⟨_, rfl⟩
                  replace H : (some (y130, true)) = some (r1, r2) := by first | (rw [hy130]; with_reducible exact H) | (have H2_ := (Option.bind_some _ _).symm.trans H; rw [hy130]; with_reducible exact H2_) | (have H2_ := (Option.bind_some _ _).symm.trans H; with_reducible exact H2_) | with_reducible exact H | (rw [hy130]; exact H) | exact H
                  have Ny130 := Aside0.mk hy130
                  clear hy130
                  simp only [Option.some.injEq, Prod.mk.injEq] at H
                  obtain ⟨rfl, rfl⟩ := H
                  go_enter Try.func40, Try.ntmps40
                  go_wp2_with (first | ((with_reducible refine gate_callee (f := 16) rfl ?_); refine goesL_ (some 14) rfl rfl Try.func16 (by kernel_rfl) rfl #[.slice A0 l0.length c0, .int .i64 a1] rfl (by (try simp only [List.map_toArray, List.map_cons, List.map_nil]); first | done | rfl | (simp only [List.length_drop, List.length_take]; rfl)) ?_; (with_reducible refine (scrupleref05_Find.calls k _ _ l0 a1 t114 true _ ?side1 ?side2 A4.out).mono ?_); (case side1 => repeat (first | exact HR0.out | (with_reducible refine Kd.C_alloc ?_ _) | (with_reducible refine Kd.C_drewN ?_ _) | (with_reducible refine Kd.C_drew ?_))); (case side2 => exact HC0.out); rintro e w' ⟨rfl, ⟨nd, rfl⟩⟩; refine ⟨_, rfl, ?_⟩; have q14 : (t114 : Int) ≤ ((l0.length : Int) : Int) := of_decide_eq_true (by first | (with_reducible assumption) | assumption); obtain ⟨i014, hi014, _, hsz14, _⟩ := info_parts info50; have hroom14 : l0.length ≤ c0 := HC0.out; have hC14 : Kd.C k50 _ A0 l0.length l0 := HR0.out; have hcut14 := cut_to (P := Try.prog) 40 50 .i64 Try.underlying40 hi014 A0 l0.length c0 t114 (of_decide_eq_true (by first | (with_reducible assumption) | assumption)) q14 hroom14; have hr14 := Kd.C_take (m := (t114 : Int).toNat) hC14 (by omega); have hy14 : y116.length = (t114 : Int).toNat := (by rw [Ny116.out, List.length_take]; omega); rw [← Ny116.out] at hr14; rw [← hy14] at hcut14; have HR119 := Aside0.mk hr14; have HC119 := Aside0.mk (show y116.length ≤ c0 from by omega); clear hr14 hC14 hroom14 hi014 hsz14; have KY14 := Aside0.mk hy14; clear hy14; replace q14 := eq_true q14) | ((with_reducible refine gate_builtin (b := .append) (xs := #[.tmp 17, .tmp 20]) rfl ?_); at_builtin; refine Kd.R_append_rows k50 (w0 := w) w.heap.size rfl (.tmp 17) (.tmp 20) 40 50 (.agg #[(.int .i64 0), (.int .i64 0)]) 16 rfl Try.underlying40 info50 rfl (by decide) (by omega) (.slice none 0 0) ([] : List (S50)) y116 _ _ _ (fun _ => True) (fun _ => False) rfl rfl ?aO ?aR (fun _ _ h => h) (fun _ h => h.elim) ?aF ?aB ?aS ?aL ?_; (case aR => repeat (first | exact HR119.out | (with_reducible refine Kd.C_alloc ?_ _) | (with_reducible refine Kd.C_drewN ?_ _) | (with_reducible refine Kd.C_drew ?_))); (case aB => exact (by repeat (first | (with_reducible first | exact HB.out | apply below_alloc | apply pw_below_drewN | apply below_drew1) | exact HB.out))); (case aF => exact (fun _ _ => trivial)); (case aO => exact ((Kd.R_nil _ _ _ _ (fun _ => True)))); (case aS => exact (below_size (by repeat (first | (with_reducible first | exact HB.out | apply below_alloc | apply pw_below_drewN | apply below_drew1) | exact HB.out)))); (case aL => have := LMc7.out; omega); intro v121 w15 ho hb hg hat; rw [← Ny120.out] at ho; have n0_ := Aside0.mk (hb); have n1_ := Aside0.mk (ho); clear HB; have HB := n0_; have HO122 := n1_; clear n0_ n1_; clear ho hb hg hat) | ((with_reducible refine gate_builtin (b := .append) (xs := #[.tmp 22, .tmp 26]) rfl ?_); at_builtin; refine Kd.R_append k50 (w0 := w) w.heap.size rfl (.tmp 22) (.tmp 26) 40 50 (.agg #[(.int .i64 0), (.int .i64 0)]) 16 rfl Try.underlying40 info50 rfl (by decide) (by omega) v121 y120 (⟨a1, a2⟩ : S50) [.int .i64 a1, .int .i64 a2] (fun _ => True) (fun _ => False) rfl rfl ?aP (fun _ hk => hk.elim) ?aF ?aO ?aB ?aS ?aL ?_; (case aP => exact k50_mkM _ _ _ (⟨a1, a2⟩ : S50)); (case aB => exact (by repeat (first | (with_reducible first | exact HB.out | apply below_alloc | apply pw_below_drewN | apply below_drew1) | exact HB.out))); (case aF => exact (fun _ _ => trivial)); (case aO => exact (by (with_reducible repeat (first | apply Kd.R_alloc | apply Kd.R_drewN | apply Kd.R_drew)); exact HO122.out)); (case aS => exact (below_size (by repeat (first | (with_reducible first | exact HB.out | apply below_alloc | apply pw_below_drewN | apply below_drew1) | exact HB.out)))); (case aL => have := LMc8.out; omega); intro v124 w16 ho hb hg hat; rw [← Ny123.out] at ho; have n0_ := Aside0.mk (hb); have n1_ := Aside0.mk (ho); clear HB; clear HO122; have HB := n0_; have HO125 := n1_; clear n0_ n1_; clear ho hb hg hat; have q17 : ((ji10) : Int) ≤ ((l0.length : Int) : Int) := of_decide_eq_true (by first | (with_reducible assumption) | assumption); obtain ⟨i017, hi017, _, hsz17, _⟩ := info_parts info50; have hroom17 : l0.length ≤ c0 := HC0.out; have hC17 : Kd.C k50 _ A0 l0.length l0 := HR0.out; have q017 : (0 : Int) ≤ ((ji10) : Int) := of_decide_eq_true (by first | (with_reducible assumption) | assumption); have hcut17 := cut_from (P := Try.prog) 40 50 .i64 Try.underlying40 hi017 2 hsz17 A0 l0.length c0 (ji10) q017 q17; have hr17 := Kd.C_drop (m := ((ji10) : Int).toNat) (c := c0) hC17 (by omega) hroom17; obtain ⟨A17, hA17⟩ : ∃ A1, A1 = (if c0 = ((ji10) : Int).toNat then A0 else (A0 : Option Addr).map (·.add (((ji10) : Int).toNat * 2))) := ⟨_, rfl⟩; obtain ⟨c17, hc17⟩ : ∃ c1, c1 = c0 - ((ji10) : Int).toNat := ⟨_, rfl⟩; have hy17 : y126.length = l0.length - ((ji10) : Int).toNat := (by rw [Ny126.out, List.length_drop] <;> omega); rw [show (l0).drop ((ji10) : Int).toNat = y126 from Ny126.out.symm] at hr17; replace hr17 : Kd.C k50 _ A17 y126.length y126 := (by rw [hA17]; exact hr17); rw [← hy17, ← hA17, ← hc17] at hcut17; have HR129 := Aside0.mk hr17; have HC129 := Aside0.mk (show y126.length ≤ c17 from by rw [hy17, hc17]; exact Nat.sub_le_sub_right hroom17 _); clear hr17 hC17 hroom17 hi017 hsz17 hc17; have KY17 := Aside0.mk hy17; have KA17 := Aside0.mk hA17; clear hy17 hA17; replace q17 := eq_true q17) | ((with_reducible refine gate_builtin (b := .append) (xs := #[.tmp 31, .tmp 34]) rfl ?_); at_builtin; refine Kd.R_append_rows k50 (w0 := w) w.heap.size rfl (.tmp 31) (.tmp 34) 40 50 (.agg #[(.int .i64 0), (.int .i64 0)]) 16 rfl Try.underlying40 info50 rfl (by decide) (by omega) v124 y123 y126 _ _ _ (fun _ => True) (fun _ => False) rfl rfl ?aO ?aR (fun _ _ h => h) (fun _ h => h.elim) ?aF ?aB ?aS ?aL ?_; (case aR => repeat (first | exact (Kd.C_below HR129.out HB.out) | (with_reducible refine Kd.C_alloc ?_ _) | (with_reducible refine Kd.C_drewN ?_ _) | (with_reducible refine Kd.C_drew ?_))); (case aB => exact (by repeat (first | (with_reducible first | exact HB.out | apply below_alloc | apply pw_below_drewN | apply below_drew1) | exact HB.out))); (case aF => exact (fun _ _ => trivial)); (case aO => exact (by (with_reducible repeat (first | apply Kd.R_alloc | apply Kd.R_drewN | apply Kd.R_drew)); exact HO125.out)); (case aS => exact (below_size (by repeat (first | (with_reducible first | exact HB.out | apply below_alloc | apply pw_below_drewN | apply below_drew1) | exact HB.out)))); (case aL => have := LMc13.out; omega); intro v131 w18 ho hb hg hat; rw [← Ny130.out] at ho; have n0_ := Aside0.mk (hb); have n1_ := Aside0.mk (ho); clear HB; clear HO125; have HB := n0_; have HO132 := n1_; clear n0_ n1_; clear ho hb hg hat))
                  go_ret2
                  exact ⟨_, by first | rfl | (simp [errW_none, errW_some] <;> rfl) | (simp only [← hji10]; first | rfl | (simp [errW_none, errW_some] <;> rfl)) | (simp [*, errW_none, errW_some] <;> rfl), by (with_reducible repeat (first | apply Kd.R_alloc | apply Kd.R_drewN | apply Kd.R_drew)); exact HO132.out, by repeat (first | (with_reducible first | exact HB.out | apply below_alloc | apply pw_below_drewN | apply below_drew1) | exact HB.out)⟩
                · rw [if_neg c13] at H
                  exact absurd H (by simp)
              · rw [if_neg c12] at H
                exact absurd H (by simp)
            · rw [if_neg c11] at H
              exact absurd H (by simp)
          · replace c9 := Bool.eq_false_iff.mpr c9
            subst c9
            have H1 : ((some (l0.drop (t114 : Int).toNat : List (S50))).bind fun y133 => (if y123.length + y133.length < 8796093022208 then (some ((y123 ++ y133), false)) else (none))) = some (r1, r2) := by rw [if_neg (show ¬ (false = true) by decide)] at H; exact H
            clear H
            have H := H1
            clear H1
            have c19b0 := eq_true (of_decide_eq_true (by first | (with_reducible assumption) | assumption) : 0 ≤ t114)
            have c20b0 := eq_true (of_decide_eq_true (by first | (with_reducible assumption) | assumption) : t114 ≤ (l0.length : Int))
            obtain ⟨y133, hy133⟩ : ∃ y_ : List (S50), y_ = (l0.drop (t114 : Int).toNat) := ⟨_, rfl⟩
            replace H : (if y123.length + y133.length < 8796093022208 then (some ((y123 ++ y133), false)) else (none)) = some (r1, r2) := by first | (rw [hy133]; with_reducible exact H) | (have H2_ := (Option.bind_some _ _).symm.trans H; rw [hy133]; with_reducible exact H2_) | (have H2_ := (Option.bind_some _ _).symm.trans H; with_reducible exact H2_) | with_reducible exact H | (rw [hy133]; exact H) | exact H
            have Ny133 := Aside0.mk hy133
            clear hy133
            by_cases c21 : y123.length + y133.length < 8796093022208
            · rw [if_pos c21] at H
              have LMc21 := Aside0.mk c21
              clear c21
              obtain ⟨y137, hy137⟩ : ∃ y_ : List (S50), y_ = (y123 ++ y133) := ⟨_, rfl⟩
              replace H : (some (y137, false)) = some (r1, r2) := by first | (rw [hy137]; with_reducible exact H) | (have H2_ := (Option.bind_some _ _).symm.trans H; rw [hy137]; with_reducible exact H2_) | (have H2_ := (Option.bind_some _ _).symm.trans H; with_reducible exact H2_) | with_reducible exact H | (rw [hy137]; exact H) | exact H
              have Ny137 := Aside0.mk hy137
              clear hy137
              simp only [Option.some.injEq, Prod.mk.injEq] at H
              obtain ⟨rfl, rfl⟩ := H
              go_enter Try.func40, Try.ntmps40
              go_wp2_with (first | ((with_reducible refine gate_callee (f := 16) rfl ?_); refine goesL_ (some 14) rfl rfl Try.func16 (by kernel_rfl) rfl #[.slice A0 l0.length c0, .int .i64 a1] rfl (by (try simp only [List.map_toArray, List.map_cons, List.map_nil]); first | done | rfl | (simp only [List.length_drop, List.length_take]; rfl)) ?_; (with_reducible refine (scrupleref05_Find.calls k _ _ l0 a1 t114 false _ ?side1 ?side2 A4.out).mono ?_); (case side1 => repeat (first | exact HR0.out | (with_reducible refine Kd.C_alloc ?_ _) | (with_reducible refine Kd.C_drewN ?_ _) | (with_reducible refine Kd.C_drew ?_))); (case side2 => exact HC0.out); rintro e w' ⟨rfl, ⟨nd, rfl⟩⟩; refine ⟨_, rfl, ?_⟩; have q22 : (t114 : Int) ≤ ((l0.length : Int) : Int) := of_decide_eq_true (by first | (with_reducible assumption) | assumption); obtain ⟨i022, hi022, _, hsz22, _⟩ := info_parts info50; have hroom22 : l0.length ≤ c0 := HC0.out; have hC22 : Kd.C k50 _ A0 l0.length l0 := HR0.out; have hcut22 := cut_to (P := Try.prog) 40 50 .i64 Try.underlying40 hi022 A0 l0.length c0 t114 (of_decide_eq_true (by first | (with_reducible assumption) | assumption)) q22 hroom22; have hr22 := Kd.C_take (m := (t114 : Int).toNat) hC22 (by omega); have hy22 : y116.length = (t114 : Int).toNat := (by rw [Ny116.out, List.length_take]; omega); rw [← Ny116.out] at hr22; rw [← hy22] at hcut22; have HR119 := Aside0.mk hr22; have HC119 := Aside0.mk (show y116.length ≤ c0 from by omega); clear hr22 hC22 hroom22 hi022 hsz22; have KY22 := Aside0.mk hy22; clear hy22; replace q22 := eq_true q22) | ((with_reducible refine gate_builtin (b := .append) (xs := #[.tmp 17, .tmp 20]) rfl ?_); at_builtin; refine Kd.R_append_rows k50 (w0 := w) w.heap.size rfl (.tmp 17) (.tmp 20) 40 50 (.agg #[(.int .i64 0), (.int .i64 0)]) 16 rfl Try.underlying40 info50 rfl (by decide) (by omega) (.slice none 0 0) ([] : List (S50)) y116 _ _ _ (fun _ => True) (fun _ => False) rfl rfl ?aO ?aR (fun _ _ h => h) (fun _ h => h.elim) ?aF ?aB ?aS ?aL ?_; (case aR => repeat (first | exact HR119.out | (with_reducible refine Kd.C_alloc ?_ _) | (with_reducible refine Kd.C_drewN ?_ _) | (with_reducible refine Kd.C_drew ?_))); (case aB => exact (by repeat (first | (with_reducible first | exact HB.out | apply below_alloc | apply pw_below_drewN | apply below_drew1) | exact HB.out))); (case aF => exact (fun _ _ => trivial)); (case aO => exact ((Kd.R_nil _ _ _ _ (fun _ => True)))); (case aS => exact (below_size (by repeat (first | (with_reducible first | exact HB.out | apply below_alloc | apply pw_below_drewN | apply below_drew1) | exact HB.out)))); (case aL => have := LMc7.out; omega); intro v121 w23 ho hb hg hat; rw [← Ny120.out] at ho; have n0_ := Aside0.mk (hb); have n1_ := Aside0.mk (ho); clear HB; have HB := n0_; have HO122 := n1_; clear n0_ n1_; clear ho hb hg hat) | ((with_reducible refine gate_builtin (b := .append) (xs := #[.tmp 22, .tmp 26]) rfl ?_); at_builtin; refine Kd.R_append k50 (w0 := w) w.heap.size rfl (.tmp 22) (.tmp 26) 40 50 (.agg #[(.int .i64 0), (.int .i64 0)]) 16 rfl Try.underlying40 info50 rfl (by decide) (by omega) v121 y120 (⟨a1, a2⟩ : S50) [.int .i64 a1, .int .i64 a2] (fun _ => True) (fun _ => False) rfl rfl ?aP (fun _ hk => hk.elim) ?aF ?aO ?aB ?aS ?aL ?_; (case aP => exact k50_mkM _ _ _ (⟨a1, a2⟩ : S50)); (case aB => exact (by repeat (first | (with_reducible first | exact HB.out | apply below_alloc | apply pw_below_drewN | apply below_drew1) | exact HB.out))); (case aF => exact (fun _ _ => trivial)); (case aO => exact (by (with_reducible repeat (first | apply Kd.R_alloc | apply Kd.R_drewN | apply Kd.R_drew)); exact HO122.out)); (case aS => exact (below_size (by repeat (first | (with_reducible first | exact HB.out | apply below_alloc | apply pw_below_drewN | apply below_drew1) | exact HB.out)))); (case aL => have := LMc8.out; omega); intro v124 w24 ho hb hg hat; rw [← Ny123.out] at ho; have n0_ := Aside0.mk (hb); have n1_ := Aside0.mk (ho); clear HB; clear HO122; have HB := n0_; have HO125 := n1_; clear n0_ n1_; clear ho hb hg hat; have q25 : (t114 : Int) ≤ ((l0.length : Int) : Int) := of_decide_eq_true (by first | (with_reducible assumption) | assumption); obtain ⟨i025, hi025, _, hsz25, _⟩ := info_parts info50; have hroom25 : l0.length ≤ c0 := HC0.out; have hC25 : Kd.C k50 _ A0 l0.length l0 := HR0.out; have q025 : (0 : Int) ≤ (t114 : Int) := of_decide_eq_true (by first | (with_reducible assumption) | assumption); have hcut25 := cut_from (P := Try.prog) 40 50 .i64 Try.underlying40 hi025 2 hsz25 A0 l0.length c0 t114 q025 q25; have hr25 := Kd.C_drop (m := (t114 : Int).toNat) (c := c0) hC25 (by omega) hroom25; obtain ⟨A25, hA25⟩ : ∃ A1, A1 = (if c0 = (t114 : Int).toNat then A0 else (A0 : Option Addr).map (·.add ((t114 : Int).toNat * 2))) := ⟨_, rfl⟩; obtain ⟨c25, hc25⟩ : ∃ c1, c1 = c0 - (t114 : Int).toNat := ⟨_, rfl⟩; have hy25 : y133.length = l0.length - (t114 : Int).toNat := (by rw [Ny133.out, List.length_drop] <;> omega); rw [show (l0).drop (t114 : Int).toNat = y133 from Ny133.out.symm] at hr25; replace hr25 : Kd.C k50 _ A25 y133.length y133 := (by rw [hA25]; exact hr25); rw [← hy25, ← hA25, ← hc25] at hcut25; have HR136 := Aside0.mk hr25; have HC136 := Aside0.mk (show y133.length ≤ c25 from by rw [hy25, hc25]; exact Nat.sub_le_sub_right hroom25 _); clear hr25 hC25 hroom25 hi025 hsz25 hc25; have KY25 := Aside0.mk hy25; have KA25 := Aside0.mk hA25; clear hy25 hA25; replace q25 := eq_true q25) | ((with_reducible refine gate_builtin (b := .append) (xs := #[.tmp 31, .tmp 34]) rfl ?_); at_builtin; refine Kd.R_append_rows k50 (w0 := w) w.heap.size rfl (.tmp 31) (.tmp 34) 40 50 (.agg #[(.int .i64 0), (.int .i64 0)]) 16 rfl Try.underlying40 info50 rfl (by decide) (by omega) v124 y123 y133 _ _ _ (fun _ => True) (fun _ => False) rfl rfl ?aO ?aR (fun _ _ h => h) (fun _ h => h.elim) ?aF ?aB ?aS ?aL ?_; (case aR => repeat (first | exact (Kd.C_below HR136.out HB.out) | (with_reducible refine Kd.C_alloc ?_ _) | (with_reducible refine Kd.C_drewN ?_ _) | (with_reducible refine Kd.C_drew ?_))); (case aB => exact (by repeat (first | (with_reducible first | exact HB.out | apply below_alloc | apply pw_below_drewN | apply below_drew1) | exact HB.out))); (case aF => exact (fun _ _ => trivial)); (case aO => exact (by (with_reducible repeat (first | apply Kd.R_alloc | apply Kd.R_drewN | apply Kd.R_drew)); exact HO125.out)); (case aS => exact (below_size (by repeat (first | (with_reducible first | exact HB.out | apply below_alloc | apply pw_below_drewN | apply below_drew1) | exact HB.out)))); (case aL => have := LMc21.out; omega); intro v138 w26 ho hb hg hat; rw [← Ny137.out] at ho; have n0_ := Aside0.mk (hb); have n1_ := Aside0.mk (ho); clear HB; clear HO125; have HB := n0_; have HO139 := n1_; clear n0_ n1_; clear ho hb hg hat))
              go_ret2
              exact ⟨_, by first | rfl | (simp [errW_none, errW_some] <;> rfl) | (simp [*, errW_none, errW_some] <;> rfl), by (with_reducible repeat (first | apply Kd.R_alloc | apply Kd.R_drewN | apply Kd.R_drew)); exact HO139.out, by repeat (first | (with_reducible first | exact HB.out | apply below_alloc | apply pw_below_drewN | apply below_drew1) | exact HB.out)⟩
            · rw [if_neg c21] at H
              exact absurd H (by simp)
        · rw [if_neg c8] at H
          exact absurd H (by simp)
      · rw [if_neg c7] at H
        exact absurd H (by simp)
    · rw [if_neg c6] at H
      exact absurd H (by simp)
  · rw [if_neg c5] at H
    exact absurd H (by simp)

/-! ### scrupleref05_Delete: function 41 -/
def scrupleref05_Delete.f (k : Nat) (l0 : List (S50)) (a1 : Int) : Option ((List (S50)) × Bool) := (scrupleref05_Find.f k l0 a1).bind fun bt140 => (if bt140.2 = true then (if 0 ≤ bt140.1 then (if bt140.1 ≤ (l0.length : Int) then ((some (l0.take (bt140.1 : Int).toNat : List (S50))).bind fun y142 => (if ([] : List (S50)).length + y142.length < 8796093022208 then ((some (([] : List (S50)) ++ y142 : List (S50))).bind fun y146 => (if 0 ≤ (wrap64 (bt140.1 + 1)) then (if (wrap64 (bt140.1 + 1)) ≤ (l0.length : Int) then ((some (l0.drop ((wrap64 (bt140.1 + 1)) : Int).toNat : List (S50))).bind fun y149 => (if y146.length + y149.length < 8796093022208 then (some ((y146 ++ y149), true)) else (none))) else (none)) else (none))) else (none))) else (none)) else (none)) else (some (l0, false)))
theorem scrupleref05_Delete.mono : ∀ a0 a1 k, LeO (scrupleref05_Delete.f k a0 a1) (scrupleref05_Delete.f (k + 1) a0 a1) := by
  intro a0 a1 k
  unfold scrupleref05_Delete.f
  repeat' first
      | (with_reducible exact scrupleref05_Find.mono _ _ _)
      | (with_reducible exact LeO.refl _)
      | (with_reducible exact LeO.none _)
      | (with_reducible refine LeO.ite ?_ ?_)
      | (with_reducible refine LeO.bind ?_ (fun _ => ?_))
      | exact scrupleref05_Find.mono _ _ _
      | exact LeO.none _
      | refine LeO.ite ?_ ?_
      | refine LeO.bind ?_ (fun _ => ?_)
set_option maxHeartbeats 8000000 in
set_option maxRecDepth 100000 in
theorem scrupleref05_Delete.calls (k : Nat) (P0_ : Nat → Prop) (u9000_ : Value) (l0 : List (S50)) (a1 : Int) (r1 : List (S50)) (r2 : Bool) (w0 w : World) (hB : Below w0.heap.size w0 w) (ho0 : Kd.R k50 50 w w0.heap.size P0_ u9000_ l0) (h : scrupleref05_Delete.f k l0 a1 = some (r1, r2)) :
    Calls Try.prog 41 #[u9000_, .int .i64 a1] w fun e w' => ∃ v0_ : Value, e = .returned (.tuple #[v0_, .bool r2]) ∧ Kd.R k50 50 w' w0.heap.size (fun k_ => (P0_ k_ ∨ w.heap.size ≤ k_)) v0_ r1 ∧ Below w0.heap.size w0 w' ∧ Kept w w' (fun k_ => P0_ k_) := by
  have HO0 := Aside0.mk (show Kd.R k50 50 w w0.heap.size (fun k_ => (P0_ k_ ∨ w.heap.size ≤ k_)) u9000_ l0 from Kd.R_mono ho0 (fun k_ hk => (.inl hk)))
  have HK := Aside0.mk (Kept.refl w (fun k_ => P0_ k_))
  have HW0 := Aside0.mk hB.size
  have HB := Aside0.mk hB
  clear hB
  have H : ((scrupleref05_Find.f k l0 a1).bind fun bt140 => (if bt140.2 = true then (if 0 ≤ bt140.1 then (if bt140.1 ≤ (l0.length : Int) then ((some (l0.take (bt140.1 : Int).toNat : List (S50))).bind fun y142 => (if ([] : List (S50)).length + y142.length < 8796093022208 then ((some (([] : List (S50)) ++ y142 : List (S50))).bind fun y146 => (if 0 ≤ (wrap64 (bt140.1 + 1)) then (if (wrap64 (bt140.1 + 1)) ≤ (l0.length : Int) then ((some (l0.drop ((wrap64 (bt140.1 + 1)) : Int).toNat : List (S50))).bind fun y149 => (if y146.length + y149.length < 8796093022208 then (some ((y146 ++ y149), true)) else (none))) else (none)) else (none))) else (none))) else (none)) else (none)) else (some (l0, false)))) = some (r1, r2) := h
  clear h
  replace H := Option.bind_eq_some_iff.mp H
  obtain ⟨⟨t140, t141⟩, A30, H⟩ := H
  replace H : (if t141 = true then (if 0 ≤ t140 then (if t140 ≤ (l0.length : Int) then ((some (l0.take (t140 : Int).toNat : List (S50))).bind fun y142 => (if ([] : List (S50)).length + y142.length < 8796093022208 then ((some (([] : List (S50)) ++ y142 : List (S50))).bind fun y146 => (if 0 ≤ (wrap64 (t140 + 1)) then (if (wrap64 (t140 + 1)) ≤ (l0.length : Int) then ((some (l0.drop ((wrap64 (t140 + 1)) : Int).toNat : List (S50))).bind fun y149 => (if y146.length + y149.length < 8796093022208 then (some ((y146 ++ y149), true)) else (none))) else (none)) else (none))) else (none))) else (none)) else (none)) else (some (l0, false))) = some (r1, r2) := H
  have A3 := Aside0.mk A30
  clear A30
  by_cases c4 : t141 = true
  · subst c4
    have H1 : (if 0 ≤ t140 then (if t140 ≤ (l0.length : Int) then ((some (l0.take (t140 : Int).toNat : List (S50))).bind fun y142 => (if ([] : List (S50)).length + y142.length < 8796093022208 then ((some (([] : List (S50)) ++ y142 : List (S50))).bind fun y146 => (if 0 ≤ (wrap64 (t140 + 1)) then (if (wrap64 (t140 + 1)) ≤ (l0.length : Int) then ((some (l0.drop ((wrap64 (t140 + 1)) : Int).toNat : List (S50))).bind fun y149 => (if y146.length + y149.length < 8796093022208 then (some ((y146 ++ y149), true)) else (none))) else (none)) else (none))) else (none))) else (none)) else (none)) = some (r1, r2) := by rw [if_pos rfl] at H; exact H
    clear H
    have H := H1
    clear H1
    by_cases c5 : 0 ≤ t140
    · rw [if_pos c5] at H
      have c5b0 := eq_true c5
      have c5b1 : decide (0 ≤ t140) = true := decide_eq_true c5
      clear c5
      by_cases c6 : t140 ≤ (l0.length : Int)
      · rw [if_pos c6] at H
        have c6b0 := eq_true c6
        have c6b1 : decide (t140 ≤ (l0.length : Int)) = true := decide_eq_true c6
        clear c6
        obtain ⟨y142, hy142⟩ : ∃ y_ : List (S50), y_ = (l0.take (t140 : Int).toNat) := ⟨_, rfl⟩
        replace H : (if ([] : List (S50)).length + y142.length < 8796093022208 then ((some (([] : List (S50)) ++ y142 : List (S50))).bind fun y146 => (if 0 ≤ (wrap64 (t140 + 1)) then (if (wrap64 (t140 + 1)) ≤ (l0.length : Int) then ((some (l0.drop ((wrap64 (t140 + 1)) : Int).toNat : List (S50))).bind fun y149 => (if y146.length + y149.length < 8796093022208 then (some ((y146 ++ y149), true)) else (none))) else (none)) else (none))) else (none)) = some (r1, r2) := by first | (rw [hy142]; with_reducible exact H) | (have H2_ := (Option.bind_some _ _).symm.trans H; rw [hy142]; with_reducible exact H2_) | (have H2_ := (Option.bind_some _ _).symm.trans H; with_reducible exact H2_) | with_reducible exact H | (rw [hy142]; exact H) | exact H
        have Ny142 := Aside0.mk hy142
        clear hy142
        by_cases c7 : ([] : List (S50)).length + y142.length < 8796093022208
        · rw [if_pos c7] at H
          have LMc7 := Aside0.mk c7
          clear c7
          obtain ⟨y146, hy146⟩ : ∃ y_ : List (S50), y_ = (([] : List (S50)) ++ y142) := ⟨_, rfl⟩
          replace H : (if 0 ≤ (wrap64 (t140 + 1)) then (if (wrap64 (t140 + 1)) ≤ (l0.length : Int) then ((some (l0.drop ((wrap64 (t140 + 1)) : Int).toNat : List (S50))).bind fun y149 => (if y146.length + y149.length < 8796093022208 then (some ((y146 ++ y149), true)) else (none))) else (none)) else (none)) = some (r1, r2) := by first | (rw [hy146]; with_reducible exact H) | (have H2_ := (Option.bind_some _ _).symm.trans H; rw [hy146]; with_reducible exact H2_) | (have H2_ := (Option.bind_some _ _).symm.trans H; with_reducible exact H2_) | with_reducible exact H | (rw [hy146]; exact H) | exact H
          have Ny146 := Aside0.mk hy146
          clear hy146
          obtain ⟨ji8, hji8⟩ : ∃ j_ : Int, (wrap64 (t140 + 1)) = j_ := ⟨_, rfl⟩
          replace H : (if 0 ≤ (ji8) then (if (ji8) ≤ (l0.length : Int) then ((some (l0.drop ((ji8) : Int).toNat : List (S50))).bind fun y149 => (if y146.length + y149.length < 8796093022208 then (some ((y146 ++ y149), true)) else (none))) else (none)) else (none)) = some (r1, r2) := by first | (rw [hji8] at H; exact H) | (simp only [hji8] at H ⊢; exact H)
          (try rw [hji8] at A3)
          have hji8w : (IntKind.i64.wrap (t140 + 1)) = ji8 := (i64_w _).trans hji8
          by_cases c9 : 0 ≤ (ji8)
          · rw [if_pos c9] at H
            have c9b0 := eq_true c9
            have c9b1 : decide (0 ≤ (ji8)) = true := decide_eq_true c9
            clear c9
            by_cases c10 : (ji8) ≤ (l0.length : Int)
            · rw [if_pos c10] at H
              have c10b0 := eq_true c10
              have c10b1 : decide ((ji8) ≤ (l0.length : Int)) = true := decide_eq_true c10
              clear c10
              obtain ⟨y149, hy149⟩ : ∃ y_ : List (S50), y_ = (l0.drop ((ji8) : Int).toNat) := ⟨_, rfl⟩
              replace H : (if y146.length + y149.length < 8796093022208 then (some ((y146 ++ y149), true)) else (none)) = some (r1, r2) := by first | (rw [hy149]; with_reducible exact H) | (have H2_ := (Option.bind_some _ _).symm.trans H; rw [hy149]; with_reducible exact H2_) | (have H2_ := (Option.bind_some _ _).symm.trans H; with_reducible exact H2_) | with_reducible exact H | (rw [hy149]; exact H) | exact H
              have Ny149 := Aside0.mk hy149
              clear hy149
              by_cases c11 : y146.length + y149.length < 8796093022208
              · rw [if_pos c11] at H
                have LMc11 := Aside0.mk c11
                clear c11
                obtain ⟨y153, hy153⟩ : ∃ y_ : List (S50), y_ = (y146 ++ y149) := ⟨_, rfl⟩
                replace H : (some (y153, true)) = some (r1, r2) := by first | (rw [hy153]; with_reducible exact H) | (have H2_ := (Option.bind_some _ _).symm.trans H; rw [hy153]; with_reducible exact H2_) | (have H2_ := (Option.bind_some _ _).symm.trans H; with_reducible exact H2_) | with_reducible exact H | (rw [hy153]; exact H) | exact H
                have Ny153 := Aside0.mk hy153
                clear hy153
                simp only [Option.some.injEq, Prod.mk.injEq] at H
                obtain ⟨rfl, rfl⟩ := H
                obtain ⟨Ao12, co12, eo12⟩ := Kd.R_slice HO0.out
                subst eo12
                go_enter Try.func41, Try.ntmps41
                go_wp2_with (first | ((with_reducible refine gate_callee (f := 16) rfl ?_); refine goesL_ (some 12) rfl rfl Try.func16 (by kernel_rfl) rfl #[.slice Ao12 l0.length co12, .int .i64 a1] rfl (by (try simp only [List.map_toArray, List.map_cons, List.map_nil]); first | done | rfl | (simp only [List.length_drop, List.length_take]; rfl)) ?_; (with_reducible refine (scrupleref05_Find.calls k _ _ l0 a1 t140 true _ ?side1 ?side2 A3.out).mono ?_); (case side1 => repeat (first | exact (Kd.R_reads' HO0.out).2.2 | (with_reducible refine Kd.C_alloc ?_ _) | (with_reducible refine Kd.C_drewN ?_ _) | (with_reducible refine Kd.C_drew ?_))); (case side2 => exact (Kd.R_reads' HO0.out).2.1); rintro e w' ⟨rfl, ⟨nd, rfl⟩⟩; refine ⟨_, rfl, ?_⟩; have q13 : (t140 : Int) ≤ ((l0.length : Int) : Int) := of_decide_eq_true (by first | (with_reducible assumption) | assumption); obtain ⟨i013, hi013, _, hsz13, _⟩ := info_parts info50; have hroom13 : l0.length ≤ co12 := (Kd.R_reads' HO0.out).2.1; have hC13 : Kd.C k50 _ Ao12 l0.length l0 := (Kd.R_reads' HO0.out).2.2; have hcut13 := cut_to (P := Try.prog) 40 50 .i64 Try.underlying40 hi013 Ao12 l0.length co12 t140 (of_decide_eq_true (by first | (with_reducible assumption) | assumption)) q13 hroom13; have hr13 := Kd.C_take (m := (t140 : Int).toNat) hC13 (by omega); have hy13 : y142.length = (t140 : Int).toNat := (by rw [Ny142.out, List.length_take]; omega); rw [← Ny142.out] at hr13; rw [← hy13] at hcut13; have HR145 := Aside0.mk hr13; have HC145 := Aside0.mk (show y142.length ≤ co12 from by omega); clear hr13 hC13 hroom13 hi013 hsz13; have KY13 := Aside0.mk hy13; clear hy13; have KL13 := Aside0.mk (show (t140 : Int).toNat ≤ l0.length from by omega); replace q13 := eq_true q13) | ((with_reducible refine gate_builtin (b := .append) (xs := #[.tmp 18, .tmp 21]) rfl ?_); at_builtin; refine Kd.R_append_rows k50 (w0 := w0) w0.heap.size rfl (.tmp 18) (.tmp 21) 40 50 (.agg #[(.int .i64 0), (.int .i64 0)]) 16 rfl Try.underlying40 info50 rfl (by decide) (by omega) (.slice none 0 0) ([] : List (S50)) y142 _ _ _ (fun k_ => (P0_ k_ ∨ w.heap.size ≤ k_) ∧ some k_ ≠ (.slice Ao12 l0.length co12 : Value).ownBlock) (fun _ => False) rfl rfl ?aO ?aR (fun _ _ h => h) (fun _ h => h.elim) ?aF ?aB ?aS ?aL ?_; (case aR => repeat (first | exact (by repeat (first | (with_reducible exact HR145.out) | (with_reducible refine Kd.C_alloc ?_ _) | (with_reducible refine Kd.C_drewN ?_ _) | (with_reducible refine Kd.C_drew ?_) | exact HR145.out)) | (with_reducible refine Kd.C_alloc ?_ _) | (with_reducible refine Kd.C_drewN ?_ _) | (with_reducible refine Kd.C_drew ?_))); (case aB => exact (by repeat (first | (with_reducible first | exact HB.out | apply below_alloc | apply pw_below_drewN | apply below_drew1) | exact HB.out))); (case aF => exact (fun k_ hk => ⟨(.inr (Nat.le_trans (by first | exact HK.out.1 | exact (show Kept w _ (fun k_ => P0_ k_) from by repeat (first | (with_reducible first | exact HK.out | apply Kept.alloc | apply Kept.drewN | apply Kept.drew) | exact HK.out)).1) hk)), Kd.fresh' (Kd.R_lt (by (with_reducible repeat (first | apply Kd.R_alloc | apply Kd.R_drewN | apply Kd.R_drew)); exact HO0.out)) k_ hk⟩)); (case aO => exact ((Kd.R_nil _ _ _ _ (fun k_ => (P0_ k_ ∨ w.heap.size ≤ k_) ∧ some k_ ≠ (.slice Ao12 l0.length co12 : Value).ownBlock)))); (case aS => exact (below_size (by repeat (first | (with_reducible first | exact HB.out | apply below_alloc | apply pw_below_drewN | apply below_drew1) | exact HB.out)))); (case aL => have := LMc7.out; omega); intro v147 w14 ho hb hg hat; rw [← Ny146.out] at ho; have n0_ := Aside0.mk (Kd.R_after (Kd.R_apart_nil (by (with_reducible repeat (first | apply Kd.R_alloc | apply Kd.R_drewN | apply Kd.R_drew)); exact HO0.out)) hg hat); have n1_ := Aside0.mk (hb); have n2_ := Aside0.mk (Kept.of_grown (S := (fun k_ => P0_ k_)) hg (by repeat (first | (with_reducible first | exact HK.out | apply Kept.alloc | apply Kept.drewN | apply Kept.drew) | exact HK.out)) (fun k_ e_ => by simp [Value.ownBlock] at e_)); have n3_ := Aside0.mk ((show Kd.C k50 w14 Ao12 y142.length y142 from by rw [Ny142.out]; exact Kd.C_take (m := (t140 : Int).toNat) ((Kd.R_reads' (Kd.R_after (Kd.R_apart_nil (by (with_reducible repeat (first | apply Kd.R_alloc | apply Kd.R_drewN | apply Kd.R_drew)); exact HO0.out)) hg hat)).2.2) KL13.out)); have n4_ := Aside0.mk (ho); clear HO0; clear HB; clear HK; clear HR145; have HO0 := n0_; have HB := n1_; have HK := n2_; have HR145 := n3_; have HO148 := n4_; clear n0_ n1_ n2_ n3_ n4_; clear ho hb hg hat; have q15 : ((ji8) : Int) ≤ ((l0.length : Int) : Int) := of_decide_eq_true (by first | (with_reducible assumption) | assumption); obtain ⟨i015, hi015, _, hsz15, _⟩ := info_parts info50; have hroom15 : l0.length ≤ co12 := (Kd.R_reads' HO0.out).2.1; have hC15 : Kd.C k50 _ Ao12 l0.length l0 := (Kd.R_reads' HO0.out).2.2; have q015 : (0 : Int) ≤ ((ji8) : Int) := of_decide_eq_true (by first | (with_reducible assumption) | assumption); have hcut15 := cut_from (P := Try.prog) 40 50 .i64 Try.underlying40 hi015 2 hsz15 Ao12 l0.length co12 (ji8) q015 q15; have hr15 := Kd.C_drop (m := ((ji8) : Int).toNat) (c := co12) hC15 (by omega) hroom15; obtain ⟨A15, hA15⟩ : ∃ A1, A1 = (if co12 = ((ji8) : Int).toNat then Ao12 else (Ao12 : Option Addr).map (·.add (((ji8) : Int).toNat * 2))) := ⟨_, rfl⟩; obtain ⟨c15, hc15⟩ : ∃ c1, c1 = co12 - ((ji8) : Int).toNat := ⟨_, rfl⟩; have hy15 : y149.length = l0.length - ((ji8) : Int).toNat := (by rw [Ny149.out, List.length_drop] <;> omega); rw [show (l0).drop ((ji8) : Int).toNat = y149 from Ny149.out.symm] at hr15; replace hr15 : Kd.C k50 _ A15 y149.length y149 := (by rw [hA15]; exact hr15); rw [← hy15, ← hA15, ← hc15] at hcut15; have HR152 := Aside0.mk hr15; have HC152 := Aside0.mk (show y149.length ≤ c15 from by rw [hy15, hc15]; exact Nat.sub_le_sub_right hroom15 _); clear hr15 hC15 hroom15 hi015 hsz15 hc15; have KY15 := Aside0.mk hy15; have KA15 := Aside0.mk hA15; clear hy15 hA15; have KL15 := Aside0.mk (show ((ji8) : Int).toNat ≤ l0.length from by omega); replace q15 := eq_true q15) | ((with_reducible refine gate_builtin (b := .append) (xs := #[.tmp 23, .tmp 27]) rfl ?_); at_builtin; refine Kd.R_append_rows k50 (w0 := w0) w0.heap.size rfl (.tmp 23) (.tmp 27) 40 50 (.agg #[(.int .i64 0), (.int .i64 0)]) 16 rfl Try.underlying40 info50 rfl (by decide) (by omega) v147 y146 y149 _ _ _ (fun k_ => (P0_ k_ ∨ w.heap.size ≤ k_) ∧ some k_ ≠ (.slice Ao12 l0.length co12 : Value).ownBlock) (fun _ => False) rfl rfl ?aO ?aR (fun _ _ h => h) (fun _ h => h.elim) ?aF ?aB ?aS ?aL ?_; (case aR => repeat (first | exact (by repeat (first | (with_reducible exact HR152.out) | (with_reducible refine Kd.C_alloc ?_ _) | (with_reducible refine Kd.C_drewN ?_ _) | (with_reducible refine Kd.C_drew ?_) | exact HR152.out)) | (with_reducible refine Kd.C_alloc ?_ _) | (with_reducible refine Kd.C_drewN ?_ _) | (with_reducible refine Kd.C_drew ?_))); (case aB => exact (by repeat (first | (with_reducible first | exact HB.out | apply below_alloc | apply pw_below_drewN | apply below_drew1) | exact HB.out))); (case aF => exact (fun k_ hk => ⟨(.inr (Nat.le_trans (by first | exact HK.out.1 | exact (show Kept w _ (fun k_ => P0_ k_) from by repeat (first | (with_reducible first | exact HK.out | apply Kept.alloc | apply Kept.drewN | apply Kept.drew) | exact HK.out)).1) hk)), Kd.fresh' (Kd.R_lt (by (with_reducible repeat (first | apply Kd.R_alloc | apply Kd.R_drewN | apply Kd.R_drew)); exact HO0.out)) k_ hk⟩)); (case aO => exact (by (with_reducible repeat (first | apply Kd.R_alloc | apply Kd.R_drewN | apply Kd.R_drew)); exact HO148.out)); (case aS => exact (below_size (by repeat (first | (with_reducible first | exact HB.out | apply below_alloc | apply pw_below_drewN | apply below_drew1) | exact HB.out)))); (case aL => have := LMc11.out; omega); intro v154 w16 ho hb hg hat; rw [← Ny153.out] at ho; have n0_ := Aside0.mk (Kd.R_after (ok := (fun k_ => (P0_ k_ ∨ w.heap.size ≤ k_))) (by (with_reducible repeat (first | apply Kd.R_alloc | apply Kd.R_drewN | apply Kd.R_drew)); exact HO0.out) hg hat); have n1_ := Aside0.mk (hb); have n2_ := Aside0.mk (Kept.of_grown (S := (fun k_ => P0_ k_)) hg (by repeat (first | (with_reducible first | exact HK.out | apply Kept.alloc | apply Kept.drewN | apply Kept.drew) | exact HK.out)) (fun k_ e_ => (HO148.out.1 k_ e_).1)); have n3_ := Aside0.mk ((show Kd.C k50 w16 Ao12 y142.length y142 from by rw [Ny142.out]; exact Kd.C_take (m := (t140 : Int).toNat) ((Kd.R_reads' (Kd.R_after (ok := (fun k_ => (P0_ k_ ∨ w.heap.size ≤ k_))) (by (with_reducible repeat (first | apply Kd.R_alloc | apply Kd.R_drewN | apply Kd.R_drew)); exact HO0.out) hg hat)).2.2) KL13.out)); have n4_ := Aside0.mk ((show Kd.C k50 w16 A15 y149.length y149 from by rw [Ny149.out, KA15.out]; exact Kd.C_drop (m := ((ji8) : Int).toNat) (c := co12) ((Kd.R_reads' (Kd.R_after (ok := (fun k_ => (P0_ k_ ∨ w.heap.size ≤ k_))) (by (with_reducible repeat (first | apply Kd.R_alloc | apply Kd.R_drewN | apply Kd.R_drew)); exact HO0.out) hg hat)).2.2) KL15.out ((Kd.R_reads' (Kd.R_after (ok := (fun k_ => (P0_ k_ ∨ w.heap.size ≤ k_))) (by (with_reducible repeat (first | apply Kd.R_alloc | apply Kd.R_drewN | apply Kd.R_drew)); exact HO0.out) hg hat)).2.1))); have n5_ := Aside0.mk (ho); clear HO0; clear HB; clear HK; clear HR145; clear HR152; clear HO148; have HO0 := n0_; have HB := n1_; have HK := n2_; have HR145 := n3_; have HR152 := n4_; have HO155 := n5_; clear n0_ n1_ n2_ n3_ n4_ n5_; clear ho hb hg hat))
                go_ret2
                exact ⟨_, by first | rfl | (simp [errW_none, errW_some] <;> rfl) | (simp only [← hji8]; first | rfl | (simp [errW_none, errW_some] <;> rfl)) | (simp [*, errW_none, errW_some] <;> rfl), by (with_reducible repeat (first | apply Kd.R_alloc | apply Kd.R_drewN | apply Kd.R_drew)); exact Kd.R_mono HO155.out (fun _ hk => hk.1), by repeat (first | (with_reducible first | exact HB.out | apply below_alloc | apply pw_below_drewN | apply below_drew1) | exact HB.out), by repeat (first | (with_reducible first | exact HK.out | apply Kept.alloc | apply Kept.drewN | apply Kept.drew) | exact HK.out)⟩
              · rw [if_neg c11] at H
                exact absurd H (by simp)
            · rw [if_neg c10] at H
              exact absurd H (by simp)
          · rw [if_neg c9] at H
            exact absurd H (by simp)
        · rw [if_neg c7] at H
          exact absurd H (by simp)
      · rw [if_neg c6] at H
        exact absurd H (by simp)
    · rw [if_neg c5] at H
      exact absurd H (by simp)
  · replace c4 := Bool.eq_false_iff.mpr c4
    subst c4
    have H1 : (some (l0, false)) = some (r1, r2) := by rw [if_neg (show ¬ (false = true) by decide)] at H; exact H
    clear H
    have H := H1
    clear H1
    simp only [Option.some.injEq, Prod.mk.injEq] at H
    obtain ⟨rfl, rfl⟩ := H
    obtain ⟨Ao17, co17, eo17⟩ := Kd.R_slice HO0.out
    subst eo17
    go_enter Try.func41, Try.ntmps41
    go_wp2_with (first | ((with_reducible refine gate_callee (f := 16) rfl ?_); refine goesL_ (some 12) rfl rfl Try.func16 (by kernel_rfl) rfl #[.slice Ao17 l0.length co17, .int .i64 a1] rfl (by (try simp only [List.map_toArray, List.map_cons, List.map_nil]); first | done | rfl | (simp only [List.length_drop, List.length_take]; rfl)) ?_; (with_reducible refine (scrupleref05_Find.calls k _ _ l0 a1 t140 false _ ?side1 ?side2 A3.out).mono ?_); (case side1 => repeat (first | exact (Kd.R_reads' HO0.out).2.2 | (with_reducible refine Kd.C_alloc ?_ _) | (with_reducible refine Kd.C_drewN ?_ _) | (with_reducible refine Kd.C_drew ?_))); (case side2 => exact (Kd.R_reads' HO0.out).2.1); rintro e w' ⟨rfl, ⟨nd, rfl⟩⟩; refine ⟨_, rfl, ?_⟩))
    go_ret2
    exact ⟨_, by first | rfl | (simp [errW_none, errW_some] <;> rfl) | (simp [*, errW_none, errW_some] <;> rfl), by (with_reducible repeat (first | apply Kd.R_alloc | apply Kd.R_drewN | apply Kd.R_drew)); exact HO0.out, by repeat (first | (with_reducible first | exact HB.out | apply below_alloc | apply pw_below_drewN | apply below_drew1) | exact HB.out), by repeat (first | (with_reducible first | exact HK.out | apply Kept.alloc | apply Kept.drewN | apply Kept.drew) | exact HK.out)⟩

end Go.Proofs.Ytgpmkljklkmipaa.X
