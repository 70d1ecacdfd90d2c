-- Written by a program of this session (wip/xprint.py) out of the translation's print; Lean checks it.
import Derived.Test.YtainfemokjjipaaXx0
import Derived.Test.YtainfemokjjipaaXxnum0
import Derived.Test.YtainfemokjjipaaXxnum1
import Derived.Test.YtainfemokjjipaaXxscruplelaw010
import Derived.Test.YtainfemokjjipaaXxscrupleref011
namespace Go.Proofs.Ytainfemokjjipaa.X
open Go.RowKit Go.Proofs.YtainfemokjjipaaW.PrintWords Go.Proofs.YtainfemokjjipaaW.PrintLast Go.Proofs.YtainfemokjjipaaW.PrintMore Go.Proofs.YtainfemokjjipaaW
attribute [local go_sem] max2_int min2_int max_two min_two max_three min_three max_four min_four   -- for this text's walks alone
set_option linter.unusedVariables false
set_option linter.unusedSimpArgs false

/-! ### scruplelaw01_NumReads: function 6 -/
def scruplelaw01_NumReads.f (k : Nat) (l0 : List Int) (a1 : Int) (a2 : Int) : Option (Bool) := (scruplelaw01_shown.f k).bind fun t251 => ((scruplelaw01_lent.f k l0).bind fun t252 => (if 0 ≤ (l0.length : Int) then (if (l0.length : Int) ≤ (t252.length : Int) then ((some (t252.take ((l0.length : Int) : Int).toNat : List Int)).bind fun y255 => ((num_Uint.f k y255 a1).bind fun bt259 => ((scrupleref01_Uint.f k l0 a1).bind fun bt262 => ((num_Int.f k y255 a1).bind fun bt269 => ((scrupleref01_Int.f k l0 a1).bind fun bt272 => ((num_Text.f k y255 a1 a2).bind fun bt279 => ((scrupleref01_Text.f k l0 a1 a2).bind fun bt282 => ((scruplelaw01_still.f k t252 l0).bind fun t285 => (if t251 = true then (if t285 = true then (if bt259.1 = bt262.1 then (if bt259.2.1 = bt262.2.1 then (if bt259.2.2 = bt262.2.2 then (if bt269.1 = bt272.1 then (if bt269.2.1 = bt272.2.1 then (if bt269.2.2 = bt272.2.2 then (if bt279.1.toList = bt282.1.toList then (if bt279.2.1 = bt282.2.1 then (some (bt279.2.2 == bt282.2.2)) else (some false)) else (some false)) else (some false)) else (some false)) else (some false)) else (some false)) else (some false)) else (some false)) else (some false)) else (some false)))))))))) else (none)) else (none)))
theorem scruplelaw01_NumReads.mono : ∀ a0 a1 a2 k, LeO (scruplelaw01_NumReads.f k a0 a1 a2) (scruplelaw01_NumReads.f (k + 1) a0 a1 a2) := by
  intro a0 a1 a2 k
  unfold scruplelaw01_NumReads.f
  repeat' first
      | (with_reducible exact num_Int.mono _ _ _)
      | (with_reducible exact num_Text.mono _ _ _ _)
      | (with_reducible exact num_Uint.mono _ _ _)
      | (with_reducible exact scruplelaw01_lent.mono _ _)
      | (with_reducible exact scruplelaw01_shown.mono _)
      | (with_reducible exact scruplelaw01_still.mono _ _ _)
      | (with_reducible exact scrupleref01_Int.mono _ _ _)
      | (with_reducible exact scrupleref01_Text.mono _ _ _ _)
      | (with_reducible exact scrupleref01_Uint.mono _ _ _)
      | (with_reducible exact LeO.refl _)
      | (with_reducible exact LeO.none _)
      | (with_reducible refine LeO.ite ?_ ?_)
      | (with_reducible refine LeO.bind ?_ (fun _ => ?_))
      | exact num_Int.mono _ _ _
      | exact num_Text.mono _ _ _ _
      | exact num_Uint.mono _ _ _
      | exact scruplelaw01_lent.mono _ _
      | exact scruplelaw01_shown.mono _
      | exact scruplelaw01_still.mono _ _ _
      | exact scrupleref01_Int.mono _ _ _
      | exact scrupleref01_Text.mono _ _ _ _
      | exact scrupleref01_Uint.mono _ _ _
      | exact LeO.none _
      | refine LeO.ite ?_ ?_
      | refine LeO.bind ?_ (fun _ => ?_)
set_option maxHeartbeats 8000000 in
set_option maxRecDepth 100000 in
theorem scruplelaw01_NumReads.calls (k : Nat) (A0 : Option Addr) (c0 : Nat) (l0 : List Int) (a1 : Int) (a2 : Int) (r : Bool) (w : World) (hT : r = true) (hr0 : Kd.C (Kd.int .u8) w A0 l0.length l0) (hc0 : l0.length ≤ c0) (h : scruplelaw01_NumReads.f k l0 a1 a2 = some r) :
    Calls Try.prog 6 #[.slice A0 l0.length c0, .int .i64 a1, .int .i64 a2] w fun e w' => e = .returned (.bool r) ∧ Below w.heap.size w w' := by
  have HR0 := Aside0.mk hr0
  have HC0 := Aside0.mk hc0
  clear hr0 hc0
  have HB := Aside0.mk (Below.refl w.heap.size w)
  have H : ((scruplelaw01_shown.f k).bind fun t251 => ((scruplelaw01_lent.f k l0).bind fun t252 => (if 0 ≤ (l0.length : Int) then (if (l0.length : Int) ≤ (t252.length : Int) then ((some (t252.take ((l0.length : Int) : Int).toNat : List Int)).bind fun y255 => ((num_Uint.f k y255 a1).bind fun bt259 => ((scrupleref01_Uint.f k l0 a1).bind fun bt262 => ((num_Int.f k y255 a1).bind fun bt269 => ((scrupleref01_Int.f k l0 a1).bind fun bt272 => ((num_Text.f k y255 a1 a2).bind fun bt279 => ((scrupleref01_Text.f k l0 a1 a2).bind fun bt282 => ((scruplelaw01_still.f k t252 l0).bind fun t285 => (if t251 = true then (if t285 = true then (if bt259.1 = bt262.1 then (if bt259.2.1 = bt262.2.1 then (if bt259.2.2 = bt262.2.2 then (if bt269.1 = bt272.1 then (if bt269.2.1 = bt272.2.1 then (if bt269.2.2 = bt272.2.2 then (if bt279.1.toList = bt282.1.toList then (if bt279.2.1 = bt282.2.1 then (some (bt279.2.2 == bt282.2.2)) else (some false)) else (some false)) else (some false)) else (some false)) else (some false)) else (some false)) else (some false)) else (some false)) else (some false)) else (some false)))))))))) else (none)) else (none)))) = some r := h
  clear h
  replace H := Option.bind_eq_some_iff.mp H
  obtain ⟨t251, A40, H⟩ := H
  replace H : ((scruplelaw01_lent.f k l0).bind fun t252 => (if 0 ≤ (l0.length : Int) then (if (l0.length : Int) ≤ (t252.length : Int) then ((some (t252.take ((l0.length : Int) : Int).toNat : List Int)).bind fun y255 => ((num_Uint.f k y255 a1).bind fun bt259 => ((scrupleref01_Uint.f k l0 a1).bind fun bt262 => ((num_Int.f k y255 a1).bind fun bt269 => ((scrupleref01_Int.f k l0 a1).bind fun bt272 => ((num_Text.f k y255 a1 a2).bind fun bt279 => ((scrupleref01_Text.f k l0 a1 a2).bind fun bt282 => ((scruplelaw01_still.f k t252 l0).bind fun t285 => (if t251 = true then (if t285 = true then (if bt259.1 = bt262.1 then (if bt259.2.1 = bt262.2.1 then (if bt259.2.2 = bt262.2.2 then (if bt269.1 = bt272.1 then (if bt269.2.1 = bt272.2.1 then (if bt269.2.2 = bt272.2.2 then (if bt279.1.toList = bt282.1.toList then (if bt279.2.1 = bt282.2.1 then (some (bt279.2.2 == bt282.2.2)) else (some false)) else (some false)) else (some false)) else (some false)) else (some false)) else (some false)) else (some false)) else (some false)) else (some false)) else (some false)))))))))) else (none)) else (none))) = some r := H
  have A4 := Aside0.mk A40
  clear A40
  replace H := Option.bind_eq_some_iff.mp H
  obtain ⟨t252, A50, H⟩ := H
  replace H : (if 0 ≤ (l0.length : Int) then (if (l0.length : Int) ≤ (t252.length : Int) then ((some (t252.take ((l0.length : Int) : Int).toNat : List Int)).bind fun y255 => ((num_Uint.f k y255 a1).bind fun bt259 => ((scrupleref01_Uint.f k l0 a1).bind fun bt262 => ((num_Int.f k y255 a1).bind fun bt269 => ((scrupleref01_Int.f k l0 a1).bind fun bt272 => ((num_Text.f k y255 a1 a2).bind fun bt279 => ((scrupleref01_Text.f k l0 a1 a2).bind fun bt282 => ((scruplelaw01_still.f k t252 l0).bind fun t285 => (if t251 = true then (if t285 = true then (if bt259.1 = bt262.1 then (if bt259.2.1 = bt262.2.1 then (if bt259.2.2 = bt262.2.2 then (if bt269.1 = bt272.1 then (if bt269.2.1 = bt272.2.1 then (if bt269.2.2 = bt272.2.2 then (if bt279.1.toList = bt282.1.toList then (if bt279.2.1 = bt282.2.1 then (some (bt279.2.2 == bt282.2.2)) else (some false)) else (some false)) else (some false)) else (some false)) else (some false)) else (some false)) else (some false)) else (some false)) else (some false)) else (some false)))))))))) else (none)) else (none)) = some r := H
  have A5 := Aside0.mk A50
  clear A50
  by_cases c6 : 0 ≤ (l0.length : Int)
  · rw [if_pos c6] at H
    have c6b0 := eq_true c6
    have c6b1 : decide (0 ≤ (l0.length : Int)) = true := decide_eq_true c6
    clear c6
    by_cases c7 : (l0.length : Int) ≤ (t252.length : Int)
    · rw [if_pos c7] at H
      have c7b0 := eq_true c7
      have c7b1 : decide ((l0.length : Int) ≤ (t252.length : Int)) = true := decide_eq_true c7
      clear c7
      obtain ⟨y255, hy255⟩ : ∃ y_ : List Int, y_ = (t252.take ((l0.length : Int) : Int).toNat) := ⟨_, rfl⟩
      replace H : ((num_Uint.f k y255 a1).bind fun bt259 => ((scrupleref01_Uint.f k l0 a1).bind fun bt262 => ((num_Int.f k y255 a1).bind fun bt269 => ((scrupleref01_Int.f k l0 a1).bind fun bt272 => ((num_Text.f k y255 a1 a2).bind fun bt279 => ((scrupleref01_Text.f k l0 a1 a2).bind fun bt282 => ((scruplelaw01_still.f k t252 l0).bind fun t285 => (if t251 = true then (if t285 = true then (if bt259.1 = bt262.1 then (if bt259.2.1 = bt262.2.1 then (if bt259.2.2 = bt262.2.2 then (if bt269.1 = bt272.1 then (if bt269.2.1 = bt272.2.1 then (if bt269.2.2 = bt272.2.2 then (if bt279.1.toList = bt282.1.toList then (if bt279.2.1 = bt282.2.1 then (some (bt279.2.2 == bt282.2.2)) else (some false)) else (some false)) else (some false)) else (some false)) else (some false)) else (some false)) else (some false)) else (some false)) else (some false)) else (some false))))))))) = some r := by first | (rw [hy255]; with_reducible exact H) | (have H2_ := (Option.bind_some _ _).symm.trans H; rw [hy255]; with_reducible exact H2_) | (have H2_ := (Option.bind_some _ _).symm.trans H; with_reducible exact H2_) | with_reducible exact H | (rw [hy255]; exact H) | exact H
      have Ny255 := Aside0.mk hy255
      clear hy255
      replace H := Option.bind_eq_some_iff.mp H
      obtain ⟨⟨t259, t260, t261⟩, A80, H⟩ := H
      replace H : ((scrupleref01_Uint.f k l0 a1).bind fun bt262 => ((num_Int.f k y255 a1).bind fun bt269 => ((scrupleref01_Int.f k l0 a1).bind fun bt272 => ((num_Text.f k y255 a1 a2).bind fun bt279 => ((scrupleref01_Text.f k l0 a1 a2).bind fun bt282 => ((scruplelaw01_still.f k t252 l0).bind fun t285 => (if t251 = true then (if t285 = true then (if t259 = bt262.1 then (if t260 = bt262.2.1 then (if t261 = bt262.2.2 then (if bt269.1 = bt272.1 then (if bt269.2.1 = bt272.2.1 then (if bt269.2.2 = bt272.2.2 then (if bt279.1.toList = bt282.1.toList then (if bt279.2.1 = bt282.2.1 then (some (bt279.2.2 == bt282.2.2)) else (some false)) else (some false)) else (some false)) else (some false)) else (some false)) else (some false)) else (some false)) else (some false)) else (some false)) else (some false)))))))) = some r := H
      have A8 := Aside0.mk A80
      clear A80
      replace H := Option.bind_eq_some_iff.mp H
      obtain ⟨⟨t262, t263, t264⟩, A90, H⟩ := H
      replace H : ((num_Int.f k y255 a1).bind fun bt269 => ((scrupleref01_Int.f k l0 a1).bind fun bt272 => ((num_Text.f k y255 a1 a2).bind fun bt279 => ((scrupleref01_Text.f k l0 a1 a2).bind fun bt282 => ((scruplelaw01_still.f k t252 l0).bind fun t285 => (if t251 = true then (if t285 = true then (if t259 = t262 then (if t260 = t263 then (if t261 = t264 then (if bt269.1 = bt272.1 then (if bt269.2.1 = bt272.2.1 then (if bt269.2.2 = bt272.2.2 then (if bt279.1.toList = bt282.1.toList then (if bt279.2.1 = bt282.2.1 then (some (bt279.2.2 == bt282.2.2)) else (some false)) else (some false)) else (some false)) else (some false)) else (some false)) else (some false)) else (some false)) else (some false)) else (some false)) else (some false))))))) = some r := H
      have A9 := Aside0.mk A90
      clear A90
      have c10b0 := eq_true (of_decide_eq_true (by first | (with_reducible assumption) | assumption) : 0 ≤ (l0.length : Int))
      have c11b0 := eq_true (of_decide_eq_true (by first | (with_reducible assumption) | assumption) : (l0.length : Int) ≤ (t252.length : Int))
      replace H := Option.bind_eq_some_iff.mp H
      obtain ⟨⟨t269, t270, t271⟩, A120, H⟩ := H
      replace H : ((scrupleref01_Int.f k l0 a1).bind fun bt272 => ((num_Text.f k y255 a1 a2).bind fun bt279 => ((scrupleref01_Text.f k l0 a1 a2).bind fun bt282 => ((scruplelaw01_still.f k t252 l0).bind fun t285 => (if t251 = true then (if t285 = true then (if t259 = t262 then (if t260 = t263 then (if t261 = t264 then (if t269 = bt272.1 then (if t270 = bt272.2.1 then (if t271 = bt272.2.2 then (if bt279.1.toList = bt282.1.toList then (if bt279.2.1 = bt282.2.1 then (some (bt279.2.2 == bt282.2.2)) else (some false)) else (some false)) else (some false)) else (some false)) else (some false)) else (some false)) else (some false)) else (some false)) else (some false)) else (some false)))))) = some r := H
      have A12 := Aside0.mk A120
      clear A120
      replace H := Option.bind_eq_some_iff.mp H
      obtain ⟨⟨t272, t273, t274⟩, A130, H⟩ := H
      replace H : ((num_Text.f k y255 a1 a2).bind fun bt279 => ((scrupleref01_Text.f k l0 a1 a2).bind fun bt282 => ((scruplelaw01_still.f k t252 l0).bind fun t285 => (if t251 = true then (if t285 = true then (if t259 = t262 then (if t260 = t263 then (if t261 = t264 then (if t269 = t272 then (if t270 = t273 then (if t271 = t274 then (if bt279.1.toList = bt282.1.toList then (if bt279.2.1 = bt282.2.1 then (some (bt279.2.2 == bt282.2.2)) else (some false)) else (some false)) else (some false)) else (some false)) else (some false)) else (some false)) else (some false)) else (some false)) else (some false)) else (some false))))) = some r := H
      have A13 := Aside0.mk A130
      clear A130
      have c14b0 := eq_true (of_decide_eq_true (by first | (with_reducible assumption) | assumption) : 0 ≤ (l0.length : Int))
      have c15b0 := eq_true (of_decide_eq_true (by first | (with_reducible assumption) | assumption) : (l0.length : Int) ≤ (t252.length : Int))
      replace H := Option.bind_eq_some_iff.mp H
      obtain ⟨⟨t279, t280, t281⟩, A160, H⟩ := H
      replace H : ((scrupleref01_Text.f k l0 a1 a2).bind fun bt282 => ((scruplelaw01_still.f k t252 l0).bind fun t285 => (if t251 = true then (if t285 = true then (if t259 = t262 then (if t260 = t263 then (if t261 = t264 then (if t269 = t272 then (if t270 = t273 then (if t271 = t274 then (if t279.toList = bt282.1.toList then (if t280 = bt282.2.1 then (some (t281 == bt282.2.2)) else (some false)) else (some false)) else (some false)) else (some false)) else (some false)) else (some false)) else (some false)) else (some false)) else (some false)) else (some false)))) = some r := H
      have A16 := Aside0.mk A160
      clear A160
      replace H := Option.bind_eq_some_iff.mp H
      obtain ⟨⟨t282, t283, t284⟩, A170, H⟩ := H
      replace H : ((scruplelaw01_still.f k t252 l0).bind fun t285 => (if t251 = true then (if t285 = true then (if t259 = t262 then (if t260 = t263 then (if t261 = t264 then (if t269 = t272 then (if t270 = t273 then (if t271 = t274 then (if t279.toList = t282.toList then (if t280 = t283 then (some (t281 == t284)) else (some false)) else (some false)) else (some false)) else (some false)) else (some false)) else (some false)) else (some false)) else (some false)) else (some false)) else (some false))) = some r := H
      have A17 := Aside0.mk A170
      clear A170
      replace H := Option.bind_eq_some_iff.mp H
      obtain ⟨t285, A180, H⟩ := H
      replace H : (if t251 = true then (if t285 = true then (if t259 = t262 then (if t260 = t263 then (if t261 = t264 then (if t269 = t272 then (if t270 = t273 then (if t271 = t274 then (if t279.toList = t282.toList then (if t280 = t283 then (some (t281 == t284)) else (some false)) else (some false)) else (some false)) else (some false)) else (some false)) else (some false)) else (some false)) else (some false)) else (some false)) else (some false)) = some r := H
      have A18 := Aside0.mk A180
      clear A180
      by_cases c19 : t251 = true
      · subst c19
        have H1 : (if t285 = true then (if t259 = t262 then (if t260 = t263 then (if t261 = t264 then (if t269 = t272 then (if t270 = t273 then (if t271 = t274 then (if t279.toList = t282.toList then (if t280 = t283 then (some (t281 == t284)) else (some false)) else (some false)) else (some false)) else (some false)) else (some false)) else (some false)) else (some false)) else (some false)) else (some false)) = some r := by rw [if_pos rfl] at H; exact H
        clear H
        have H := H1
        clear H1
        by_cases c20 : t285 = true
        · subst c20
          have H1 : (if t259 = t262 then (if t260 = t263 then (if t261 = t264 then (if t269 = t272 then (if t270 = t273 then (if t271 = t274 then (if t279.toList = t282.toList then (if t280 = t283 then (some (t281 == t284)) else (some false)) else (some false)) else (some false)) else (some false)) else (some false)) else (some false)) else (some false)) else (some false)) = some r := by rw [if_pos rfl] at H; exact H
          clear H
          have H := H1
          clear H1
          by_cases c21 : t259 = t262
          · rw [if_pos c21] at H
            have c21b0 : (t259 == t262) = true := beq_iff_eq.mpr c21
            have c21b1 : (t259 != t262) = false := bne_eq_false_iff_eq.mpr c21
            clear c21
            by_cases c22 : t260 = t263
            · rw [if_pos c22] at H
              have c22b0 : (t260 == t263) = true := beq_iff_eq.mpr c22
              have c22b1 : (t260 != t263) = false := bne_eq_false_iff_eq.mpr c22
              clear c22
              by_cases c23 : t261 = t264
              · rw [if_pos c23] at H
                have c23b0 : (t261 == t264) = true := beq_iff_eq.mpr c23
                have c23b1 : (t261 != t264) = false := bne_eq_false_iff_eq.mpr c23
                clear c23
                by_cases c24 : t269 = t272
                · rw [if_pos c24] at H
                  have c24b0 : (t269 == t272) = true := beq_iff_eq.mpr c24
                  have c24b1 : (t269 != t272) = false := bne_eq_false_iff_eq.mpr c24
                  clear c24
                  by_cases c25 : t270 = t273
                  · rw [if_pos c25] at H
                    have c25b0 : (t270 == t273) = true := beq_iff_eq.mpr c25
                    have c25b1 : (t270 != t273) = false := bne_eq_false_iff_eq.mpr c25
                    clear c25
                    by_cases c26 : t271 = t274
                    · rw [if_pos c26] at H
                      have c26b0 : (t271 == t274) = true := beq_iff_eq.mpr c26
                      have c26b1 : (t271 != t274) = false := bne_eq_false_iff_eq.mpr c26
                      clear c26
                      by_cases c27 : t279.toList = t282.toList
                      · rw [if_pos c27] at H
                        have c27b0 : (t279.toList == t282.toList) = true := beq_iff_eq.mpr c27
                        have c27b1 : (t279.toList != t282.toList) = false := bne_eq_false_iff_eq.mpr c27
                        clear c27
                        by_cases c28 : t280 = t283
                        · rw [if_pos c28] at H
                          have c28b0 : (t280 == t283) = true := beq_iff_eq.mpr c28
                          have c28b1 : (t280 != t283) = false := bne_eq_false_iff_eq.mpr c28
                          clear c28
                          obtain rfl := Option.some.inj H
                          have HT := Aside0.mk hT
                          clear hT
                          go_enter Try.func6, Try.ntmps6
                          go_wp2_with (first | ((with_reducible refine gate_callee (f := 11) rfl ?_); refine goesL_ (some 28) rfl rfl Try.func11 (by kernel_rfl) rfl #[] rfl (by (try simp only [List.map_toArray, List.map_cons, List.map_nil]); first | done | rfl | (simp only [List.length_drop, List.length_take]; rfl)) ?_; (with_reducible refine (scruplelaw01_shown.calls k  true _ A4.out).mono ?_); rintro e w29 ⟨rfl, hb⟩; refine ⟨_, rfl, ?_⟩; have n0_ := Aside0.mk (below_step (by repeat (first | (with_reducible first | exact HB.out | apply below_alloc | apply pw_below_drewN | apply below_drew1) | exact HB.out)) hb); clear HB; have HB := n0_; clear n0_; (try clear hb); (try clear hb2); (try clear hk); (try clear hi)) | ((with_reducible refine gate_callee (f := 13) rfl ?_); refine goesL_ (some 30) rfl rfl Try.func13 (by kernel_rfl) rfl #[.slice A0 l0.length c0] rfl (by (try simp only [List.map_toArray, List.map_cons, List.map_nil]); first | done | rfl | (simp only [List.length_drop, List.length_take]; rfl)) ?_; (with_reducible refine (scruplelaw01_lent.calls k _ _ l0 t252 _ ?side1 ?side2 A5.out).mono ?_); (case side1 => repeat (first | exact (Kd.C_below HR0.out HB.out) | (with_reducible refine Kd.C_alloc ?_ _) | (with_reducible refine Kd.C_drewN ?_ _) | (with_reducible refine Kd.C_drew ?_))); (case side2 => exact HC0.out); rintro e w30 ⟨v253, rfl, ho0, hb⟩; refine ⟨_, rfl, ?_⟩; have n0_ := Aside0.mk (Kd.R_lower ho0 (below_size (by repeat (first | (with_reducible first | exact HB.out | apply below_alloc | apply pw_below_drewN | apply below_drew1) | exact HB.out)))); have n1_ := Aside0.mk (below_step (by repeat (first | (with_reducible first | exact HB.out | apply below_alloc | apply pw_below_drewN | apply below_drew1) | exact HB.out)) hb); clear HB; have HO254 := n0_; have HB := n1_; clear n0_ n1_; (try clear hb); (try clear hb2); (try clear hk); (try clear hi); (try clear ho0); obtain ⟨Ao32, co32, eo32⟩ := Kd.R_slice HO254.out; subst eo32; have q31 : ((l0.length : Int) : Int) ≤ ((t252.length : Int) : Int) := of_decide_eq_true (by first | (with_reducible assumption) | assumption); obtain ⟨i031, hi031, _, hsz31, _⟩ := info_parts info5; have hroom31 : t252.length ≤ co32 := (Kd.R_reads' HO254.out).2.1; have hC31 : Kd.C (Kd.int .u8) _ Ao32 t252.length t252 := (Kd.R_reads' HO254.out).2.2; have hcut31 := cut_to (P := Try.prog) 29 5 .i64 Try.underlying29 hi031 Ao32 t252.length co32 (l0.length : Int) (of_decide_eq_true (by first | (with_reducible assumption) | assumption)) q31 hroom31; have hr31 := Kd.C_take (m := ((l0.length : Int) : Int).toNat) hC31 (by omega); have hy31 : y255.length = ((l0.length : Int) : Int).toNat := (by rw [Ny255.out, List.length_take]; omega); rw [← Ny255.out] at hr31; rw [← hy31] at hcut31; have HR258 := Aside0.mk hr31; have HC258 := Aside0.mk (show y255.length ≤ co32 from by omega); clear hr31 hC31 hroom31 hi031 hsz31; have KY31 := Aside0.mk hy31; clear hy31; have KL31 := Aside0.mk (show ((l0.length : Int) : Int).toNat ≤ t252.length from by omega); replace q31 := eq_true q31) | ((with_reducible refine gate_callee (f := 20) rfl ?_); refine goesL_ (some 37) rfl rfl Try.func20 (by kernel_rfl) rfl #[.slice Ao32 y255.length co32, .int .i64 a1] rfl (by (try simp only [List.map_toArray, List.map_cons, List.map_nil]); first | done | rfl | (simp only [List.length_drop, List.length_take]; rfl)) ?_; (with_reducible refine (num_Uint.calls k _ _ y255 a1 t259 t260 t261 _ ?side1 ?side2 A8.out).mono ?_); (case side1 => repeat (first | exact (by repeat (first | (with_reducible exact HR258.out) | (with_reducible refine Kd.C_alloc ?_ _) | (with_reducible refine Kd.C_drewN ?_ _) | (with_reducible refine Kd.C_drew ?_) | exact HR258.out)) | (with_reducible refine Kd.C_alloc ?_ _) | (with_reducible refine Kd.C_drewN ?_ _) | (with_reducible refine Kd.C_drew ?_))); (case side2 => exact HC258.out); rintro e w' ⟨rfl, ⟨nd, rfl⟩⟩; refine ⟨_, rfl, ?_⟩) | ((with_reducible refine gate_callee (f := 21) rfl ?_); refine goesL_ (some 44) rfl rfl Try.func21 (by kernel_rfl) rfl #[.slice A0 l0.length c0, .int .i64 a1] rfl (by (try simp only [List.map_toArray, List.map_cons, List.map_nil]); first | done | rfl | (simp only [List.length_drop, List.length_take]; rfl)) ?_; (with_reducible refine (scrupleref01_Uint.calls k _ _ l0 a1 t262 t263 t264 _ ?side1 ?side2 A9.out).mono ?_); (case side1 => repeat (first | exact (Kd.C_below HR0.out (by repeat (first | (with_reducible first | exact HB.out | apply below_alloc | apply pw_below_drewN | apply below_drew1) | exact HB.out))) | (with_reducible refine Kd.C_alloc ?_ _) | (with_reducible refine Kd.C_drewN ?_ _) | (with_reducible refine Kd.C_drew ?_))); (case side2 => exact HC0.out); rintro e w' ⟨rfl, ⟨nd, rfl⟩⟩; refine ⟨_, rfl, ?_⟩; have q33 : ((l0.length : Int) : Int) ≤ ((t252.length : Int) : Int) := of_decide_eq_true (by first | (with_reducible assumption) | assumption); obtain ⟨i033, hi033, _, hsz33, _⟩ := info_parts info5; have hroom33 : t252.length ≤ co32 := (Kd.R_reads' HO254.out).2.1; have hC33 : Kd.C (Kd.int .u8) _ Ao32 t252.length t252 := (Kd.R_reads' HO254.out).2.2; have hcut33 := cut_to (P := Try.prog) 29 5 .i64 Try.underlying29 hi033 Ao32 t252.length co32 (l0.length : Int) (of_decide_eq_true (by first | (with_reducible assumption) | assumption)) q33 hroom33; have hr33 := Kd.C_take (m := ((l0.length : Int) : Int).toNat) hC33 (by omega); have hy33 : y255.length = ((l0.length : Int) : Int).toNat := (by rw [Ny255.out, List.length_take]; omega); rw [← Ny255.out] at hr33; rw [← hy33] at hcut33; have HR268 := Aside0.mk hr33; have HC268 := Aside0.mk (show y255.length ≤ co32 from by omega); clear hr33 hC33 hroom33 hi033 hsz33; have KY33 := Aside0.mk hy33; clear hy33; have KL33 := Aside0.mk (show ((l0.length : Int) : Int).toNat ≤ t252.length from by omega); replace q33 := eq_true q33) | ((with_reducible refine gate_callee (f := 22) rfl ?_); refine goesL_ (some 54) rfl rfl Try.func22 (by kernel_rfl) rfl #[.slice Ao32 y255.length co32, .int .i64 a1] rfl (by (try simp only [List.map_toArray, List.map_cons, List.map_nil]); first | done | rfl | (simp only [List.length_drop, List.length_take]; rfl)) ?_; (with_reducible refine (num_Int.calls k _ _ y255 a1 t269 t270 t271 _ ?side1 ?side2 A12.out).mono ?_); (case side1 => repeat (first | exact (by repeat (first | (with_reducible exact HR268.out) | (with_reducible refine Kd.C_alloc ?_ _) | (with_reducible refine Kd.C_drewN ?_ _) | (with_reducible refine Kd.C_drew ?_) | exact HR268.out)) | (with_reducible refine Kd.C_alloc ?_ _) | (with_reducible refine Kd.C_drewN ?_ _) | (with_reducible refine Kd.C_drew ?_))); (case side2 => exact HC268.out); rintro e w' ⟨rfl, ⟨nd, rfl⟩⟩; refine ⟨_, rfl, ?_⟩) | ((with_reducible refine gate_callee (f := 23) rfl ?_); refine goesL_ (some 61) rfl rfl Try.func23 (by kernel_rfl) rfl #[.slice A0 l0.length c0, .int .i64 a1] rfl (by (try simp only [List.map_toArray, List.map_cons, List.map_nil]); first | done | rfl | (simp only [List.length_drop, List.length_take]; rfl)) ?_; (with_reducible refine (scrupleref01_Int.calls k _ _ l0 a1 t272 t273 t274 _ ?side1 ?side2 A13.out).mono ?_); (case side1 => repeat (first | exact (Kd.C_below HR0.out (by repeat (first | (with_reducible first | exact HB.out | apply below_alloc | apply pw_below_drewN | apply below_drew1) | exact HB.out))) | (with_reducible refine Kd.C_alloc ?_ _) | (with_reducible refine Kd.C_drewN ?_ _) | (with_reducible refine Kd.C_drew ?_))); (case side2 => exact HC0.out); rintro e w' ⟨rfl, ⟨nd, rfl⟩⟩; refine ⟨_, rfl, ?_⟩; have q34 : ((l0.length : Int) : Int) ≤ ((t252.length : Int) : Int) := of_decide_eq_true (by first | (with_reducible assumption) | assumption); obtain ⟨i034, hi034, _, hsz34, _⟩ := info_parts info5; have hroom34 : t252.length ≤ co32 := (Kd.R_reads' HO254.out).2.1; have hC34 : Kd.C (Kd.int .u8) _ Ao32 t252.length t252 := (Kd.R_reads' HO254.out).2.2; have hcut34 := cut_to (P := Try.prog) 29 5 .i64 Try.underlying29 hi034 Ao32 t252.length co32 (l0.length : Int) (of_decide_eq_true (by first | (with_reducible assumption) | assumption)) q34 hroom34; have hr34 := Kd.C_take (m := ((l0.length : Int) : Int).toNat) hC34 (by omega); have hy34 : y255.length = ((l0.length : Int) : Int).toNat := (by rw [Ny255.out, List.length_take]; omega); rw [← Ny255.out] at hr34; rw [← hy34] at hcut34; have HR278 := Aside0.mk hr34; have HC278 := Aside0.mk (show y255.length ≤ co32 from by omega); clear hr34 hC34 hroom34 hi034 hsz34; have KY34 := Aside0.mk hy34; clear hy34; have KL34 := Aside0.mk (show ((l0.length : Int) : Int).toNat ≤ t252.length from by omega); replace q34 := eq_true q34) | ((with_reducible refine gate_callee (f := 24) rfl ?_); refine goesL_ (some 72) rfl rfl Try.func24 (by kernel_rfl) rfl #[.slice Ao32 y255.length co32, .int .i64 a1, .int .i64 a2] rfl (by (try simp only [List.map_toArray, List.map_cons, List.map_nil]); first | done | rfl | (simp only [List.length_drop, List.length_take]; rfl)) ?_; (with_reducible refine (num_Text.calls k _ _ y255 a1 a2 t279 t280 t281 _ ?side1 ?side2 A16.out).mono ?_); (case side1 => repeat (first | exact (by repeat (first | (with_reducible exact HR278.out) | (with_reducible refine Kd.C_alloc ?_ _) | (with_reducible refine Kd.C_drewN ?_ _) | (with_reducible refine Kd.C_drew ?_) | exact HR278.out)) | (with_reducible refine Kd.C_alloc ?_ _) | (with_reducible refine Kd.C_drewN ?_ _) | (with_reducible refine Kd.C_drew ?_))); (case side2 => exact HC278.out); rintro e w' ⟨rfl, ⟨nd, rfl⟩⟩; refine ⟨_, rfl, ?_⟩) | ((with_reducible refine gate_callee (f := 25) rfl ?_); refine goesL_ (some 80) rfl rfl Try.func25 (by kernel_rfl) rfl #[.slice A0 l0.length c0, .int .i64 a1, .int .i64 a2] rfl (by (try simp only [List.map_toArray, List.map_cons, List.map_nil]); first | done | rfl | (simp only [List.length_drop, List.length_take]; rfl)) ?_; (with_reducible refine (scrupleref01_Text.calls k _ _ l0 a1 a2 t282 t283 t284 _ ?side1 ?side2 A17.out).mono ?_); (case side1 => repeat (first | exact (Kd.C_below HR0.out (by repeat (first | (with_reducible first | exact HB.out | apply below_alloc | apply pw_below_drewN | apply below_drew1) | exact HB.out))) | (with_reducible refine Kd.C_alloc ?_ _) | (with_reducible refine Kd.C_drewN ?_ _) | (with_reducible refine Kd.C_drew ?_))); (case side2 => exact HC0.out); rintro e w' ⟨rfl, ⟨nd, rfl⟩⟩; refine ⟨_, rfl, ?_⟩) | ((with_reducible refine gate_callee (f := 16) rfl ?_); refine goesL_ (some 86) rfl rfl Try.func16 (by kernel_rfl) rfl #[.slice Ao32 t252.length co32, .slice A0 l0.length c0] rfl (by (try simp only [List.map_toArray, List.map_cons, List.map_nil]); first | done | rfl | (simp only [List.length_drop, List.length_take]; rfl)) ?_; (with_reducible refine (scruplelaw01_still.calls k _ _ t252 _ _ l0 true _ ?side1 ?side2 ?side3 ?side4 A18.out).mono ?_); (case side1 => repeat (first | exact (Kd.R_reads' HO254.out).2.2 | (with_reducible refine Kd.C_alloc ?_ _) | (with_reducible refine Kd.C_drewN ?_ _) | (with_reducible refine Kd.C_drew ?_))); (case side2 => exact (Kd.R_reads' HO254.out).2.1); (case side3 => repeat (first | exact (Kd.C_below HR0.out (by repeat (first | (with_reducible first | exact HB.out | apply below_alloc | apply pw_below_drewN | apply below_drew1) | exact HB.out))) | (with_reducible refine Kd.C_alloc ?_ _) | (with_reducible refine Kd.C_drewN ?_ _) | (with_reducible refine Kd.C_drew ?_))); (case side4 => exact HC0.out); rintro e w' ⟨rfl, ⟨nd, rfl⟩⟩; refine ⟨_, rfl, ?_⟩))
                          go_ret
                          exact ⟨by first | rfl | (simp [errW_none, errW_some] <;> rfl) | (simp [*, errW_none, errW_some] <;> rfl), by repeat (first | (with_reducible first | exact HB.out | apply below_alloc | apply pw_below_drewN | apply below_drew1) | exact HB.out)⟩
                        · rw [if_neg c28] at H
                          have c28b0 : (t280 == t283) = false := beq_eq_false_iff_ne.mpr c28
                          have c28b1 : (t280 != t283) = true := bne_iff_ne.mpr c28
                          rw [hT] at H
                          exact absurd H (by simp)
                      · rw [if_neg c27] at H
                        have c27b0 : (t279.toList == t282.toList) = false := beq_eq_false_iff_ne.mpr c27
                        have c27b1 : (t279.toList != t282.toList) = true := bne_iff_ne.mpr c27
                        rw [hT] at H
                        exact absurd H (by simp)
                    · rw [if_neg c26] at H
                      have c26b0 : (t271 == t274) = false := beq_eq_false_iff_ne.mpr c26
                      have c26b1 : (t271 != t274) = true := bne_iff_ne.mpr c26
                      rw [hT] at H
                      exact absurd H (by simp)
                  · rw [if_neg c25] at H
                    have c25b0 : (t270 == t273) = false := beq_eq_false_iff_ne.mpr c25
                    have c25b1 : (t270 != t273) = true := bne_iff_ne.mpr c25
                    rw [hT] at H
                    exact absurd H (by simp)
                · rw [if_neg c24] at H
                  have c24b0 : (t269 == t272) = false := beq_eq_false_iff_ne.mpr c24
                  have c24b1 : (t269 != t272) = true := bne_iff_ne.mpr c24
                  rw [hT] at H
                  exact absurd H (by simp)
              · rw [if_neg c23] at H
                have c23b0 : (t261 == t264) = false := beq_eq_false_iff_ne.mpr c23
                have c23b1 : (t261 != t264) = true := bne_iff_ne.mpr c23
                rw [hT] at H
                exact absurd H (by simp)
            · rw [if_neg c22] at H
              have c22b0 : (t260 == t263) = false := beq_eq_false_iff_ne.mpr c22
              have c22b1 : (t260 != t263) = true := bne_iff_ne.mpr c22
              rw [hT] at H
              exact absurd H (by simp)
          · rw [if_neg c21] at H
            have c21b0 : (t259 == t262) = false := beq_eq_false_iff_ne.mpr c21
            have c21b1 : (t259 != t262) = true := bne_iff_ne.mpr c21
            rw [hT] at H
            exact absurd H (by simp)
        · replace c20 := Bool.eq_false_iff.mpr c20
          subst c20
          have H1 : (some false) = some r := by rw [if_neg (show ¬ (false = true) by decide)] at H; exact H
          clear H
          have H := H1
          clear H1
          rw [hT] at H
          exact absurd H (by simp)
      · replace c19 := Bool.eq_false_iff.mpr c19
        subst c19
        have H1 : (some false) = some r := by rw [if_neg (show ¬ (false = true) by decide)] at H; exact H
        clear H
        have H := H1
        clear H1
        rw [hT] at H
        exact absurd H (by simp)
    · rw [if_neg c7] at H
      exact absurd H (by simp)
  · rw [if_neg c6] at H
    exact absurd H (by simp)

/-- THE ONE PURE STATEMENT of scruplelaw01_NumReads: yours. -/
def scruplelaw01_NumReads.Pure : Prop := ∀ (l0 : List Int) (a1 : Int) (a2 : Int), l0.length ≤ maxLen → l0.length * 1 ≤ 140737488351232 → (∀ x ∈ l0, (Lit.int .u8 x).wf = true) → (Lit.int .i64 a1).wf = true → (Lit.int .i64 a2).wf = true → ∃ k, scruplelaw01_NumReads.f k l0 a1 a2 = some true
theorem scruplelaw01_NumReads.walk (P : scruplelaw01_NumReads.Pure) (a0 : Option Addr) (len0 cap0 : Nat) (z0 : List Int) (a1 : Int) (a2 : Int) (w : World) (w0 : (a0 = none ∧ len0 = 0 ∧ cap0 = 0 ∧ z0 = []) ∨ ∃ x, a0 = some x ∧ len0 ≤ cap0 ∧ cap0 ≤ maxLen ∧ z0.length = cap0 ∧ (∀ i, i < z0.length → w.cell? (x.add i) = some (.int .u8 (z0.getD i 0))) ∧ ∀ n ∈ z0, (Lit.int .u8 n).wf = true) (y0 : len0 * 1 ≤ 140737488351232) (w1 : (Lit.int .i64 a1).wf = true) (w2 : (Lit.int .i64 a2).wf = true) :
    Calls Try.prog 6 #[.slice a0 len0 cap0, .int .i64 a1, .int .i64 a2] w fun e w' => e = .returned (.bool true) ∧ Below w.heap.size w w' := by
  obtain ⟨l0, rfl, hr0, hm0, hw0, hc0⟩ := ReadsInt.ofRowC w0
  obtain ⟨k, h⟩ := P l0 a1 a2 hm0 y0 hw0 w1 w2
  refine (scruplelaw01_NumReads.calls k _ _ l0 a1 a2 true w rfl (Kd.C_of_reads (d := (0 : Int)) (h1 := fun _ => rfl) hr0) hc0 h).mono ?_
  rintro e w' ⟨rfl, hd⟩
  exact ⟨rfl, hd⟩

def scruplelaw01_NumReads.PureUp : Prop := ∀ (l0 : List Int) (a1 : Int) (a2 : Int), l0.length ≤ maxLen → l0.length * 1 ≤ 140737488351232 → (∀ x ∈ l0, (Lit.int .u8 x).wf = true) → (Lit.int .i64 a1).wf = true → (Lit.int .i64 a2).wf = true → l0.length ≤ 1048576 → ∃ k, scruplelaw01_NumReads.f k l0 a1 a2 = some true
theorem scruplelaw01_NumReads.walkUp (P : scruplelaw01_NumReads.PureUp) (a0 : Option Addr) (len0 cap0 : Nat) (z0 : List Int) (a1 : Int) (a2 : Int) (w : World) (w0 : (a0 = none ∧ len0 = 0 ∧ cap0 = 0 ∧ z0 = []) ∨ ∃ x, a0 = some x ∧ len0 ≤ cap0 ∧ cap0 ≤ maxLen ∧ z0.length = cap0 ∧ (∀ i, i < z0.length → w.cell? (x.add i) = some (.int .u8 (z0.getD i 0))) ∧ ∀ n ∈ z0, (Lit.int .u8 n).wf = true) (y0 : len0 * 1 ≤ 140737488351232) (w1 : (Lit.int .i64 a1).wf = true) (w2 : (Lit.int .i64 a2).wf = true) (hB : len0 ≤ 1048576) :
    Calls Try.prog 6 #[.slice a0 len0 cap0, .int .i64 a1, .int .i64 a2] w fun e w' => e = .returned (.bool true) ∧ Below w.heap.size w w' := by
  obtain ⟨l0, rfl, hr0, hm0, hw0, hc0⟩ := ReadsInt.ofRowC w0
  obtain ⟨k, h⟩ := P l0 a1 a2 hm0 y0 hw0 w1 w2 hB
  refine (scruplelaw01_NumReads.calls k _ _ l0 a1 a2 true w rfl (Kd.C_of_reads (d := (0 : Int)) (h1 := fun _ => rfl) hr0) hc0 h).mono ?_
  rintro e w' ⟨rfl, hd⟩
  exact ⟨rfl, hd⟩

end Go.Proofs.Ytainfemokjjipaa.X
