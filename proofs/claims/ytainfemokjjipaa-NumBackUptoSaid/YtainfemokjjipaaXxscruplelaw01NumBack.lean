-- Written by a program of this session (wip/xprint.py) out of the translation's print; Lean checks it.
import Derived.Test.YtainfemokjjipaaXx0
import Derived.Test.YtainfemokjjipaaXxnum0
import Derived.Test.YtainfemokjjipaaXxnum1
import Derived.Test.YtainfemokjjipaaXxscruplelaw010
namespace Go.Proofs.Ytainfemokjjipaa.X
open Go.RowKit Go.Proofs.YtainfemokjjipaaW.PrintWords Go.Proofs.YtainfemokjjipaaW.PrintLast Go.Proofs.YtainfemokjjipaaW.PrintMore Go.Proofs.YtainfemokjjipaaW
attribute [local go_sem] max2_int min2_int max_two min_two max_three min_three max_four min_four   -- for this text's walks alone
set_option linter.unusedVariables false
set_option linter.unusedSimpArgs false

/-! ### scruplelaw01_NumBack: function 8 -/
def scruplelaw01_NumBack.f (k : Nat) (l0 : List Int) (a1 : Int) (a2 : ByteArray) (l3 : List Int) : Option (Bool) := (scruplelaw01_shown.f k).bind fun t301 => ((num_PutUint.f k l0 a1).bind fun t302 => ((num_PutInt.f k l0 (wrap64 (a1))).bind fun t305 => ((num_PutText.f k l0 a2).bind fun t308 => (if t302.length + l3.length < 140737488355328 then ((num_Uint.f k (t302 ++ l3) (l0.length : Int)).bind fun bt314 => (if t305.length + l3.length < 140737488355328 then ((num_Int.f k (t305 ++ l3) (l0.length : Int)).bind fun bt320 => (if t308.length + l3.length < 140737488355328 then ((num_Text.f k (t308 ++ l3) (l0.length : Int) (a2.size : Int)).bind fun bt326 => (if t301 = true then (if bt314.2.2 = 0 then (if bt320.2.2 = 0 then (if bt326.2.2 = 0 then (if bt314.1 = a1 then (if bt320.1 = (wrap64 (a1)) then (if bt326.1.toList = a2.toList then (if bt314.2.1 = (t302.length : Int) then (if bt320.2.1 = (t305.length : Int) then (some (bt326.2.1 == (t308.length : Int))) else (some false)) else (some false)) else (some false)) else (some false)) else (some false)) else (some false)) else (some false)) else (some false)) else (some false))) else (none))) else (none))) else (none)))))
theorem scruplelaw01_NumBack.mono : ∀ a0 a1 a2 a3 k, LeO (scruplelaw01_NumBack.f k a0 a1 a2 a3) (scruplelaw01_NumBack.f (k + 1) a0 a1 a2 a3) := by
  intro a0 a1 a2 a3 k
  unfold scruplelaw01_NumBack.f
  repeat' first
      | (with_reducible exact num_Int.mono _ _ _)
      | (with_reducible exact num_PutInt.mono _ _ _)
      | (with_reducible exact num_PutText.mono _ _ _)
      | (with_reducible exact num_PutUint.mono _ _ _)
      | (with_reducible exact num_Text.mono _ _ _ _)
      | (with_reducible exact num_Uint.mono _ _ _)
      | (with_reducible exact scruplelaw01_shown.mono _)
      | (with_reducible exact LeO.refl _)
      | (with_reducible exact LeO.none _)
      | (with_reducible refine LeO.ite ?_ ?_)
      | (with_reducible refine LeO.bind ?_ (fun _ => ?_))
      | exact num_Int.mono _ _ _
      | exact num_PutInt.mono _ _ _
      | exact num_PutText.mono _ _ _
      | exact num_PutUint.mono _ _ _
      | exact num_Text.mono _ _ _ _
      | exact num_Uint.mono _ _ _
      | exact scruplelaw01_shown.mono _
      | exact LeO.none _
      | refine LeO.ite ?_ ?_
      | refine LeO.bind ?_ (fun _ => ?_)
set_option maxHeartbeats 8000000 in
set_option maxRecDepth 100000 in
theorem scruplelaw01_NumBack.calls (k : Nat) (A0 : Option Addr) (c0 : Nat) (l0 : List Int) (a1 : Int) (a2 : ByteArray) (A3 : Option Addr) (c3 : Nat) (l3 : List Int) (r : Bool) (w : World) (hT : r = true) (hr0 : Kd.C (Kd.int .u8) w A0 l0.length l0) (hc0 : l0.length ≤ c0) (hr3 : Kd.C (Kd.int .u8) w A3 l3.length l3) (hc3 : l3.length ≤ c3) (h : scruplelaw01_NumBack.f k l0 a1 a2 l3 = some r) :
    Calls Try.prog 8 #[.slice A0 l0.length c0, .int .u64 a1, .string a2, .slice A3 l3.length c3] w fun e w' => e = .returned (.bool r) ∧ Below w.heap.size w w' := by
  have HR0 := Aside0.mk hr0
  have HC0 := Aside0.mk hc0
  clear hr0 hc0
  have HR3 := Aside0.mk hr3
  have HC3 := Aside0.mk hc3
  clear hr3 hc3
  have HB := Aside0.mk (Below.refl w.heap.size w)
  have H : ((scruplelaw01_shown.f k).bind fun t301 => ((num_PutUint.f k l0 a1).bind fun t302 => ((num_PutInt.f k l0 (wrap64 (a1))).bind fun t305 => ((num_PutText.f k l0 a2).bind fun t308 => (if t302.length + l3.length < 140737488355328 then ((num_Uint.f k (t302 ++ l3) (l0.length : Int)).bind fun bt314 => (if t305.length + l3.length < 140737488355328 then ((num_Int.f k (t305 ++ l3) (l0.length : Int)).bind fun bt320 => (if t308.length + l3.length < 140737488355328 then ((num_Text.f k (t308 ++ l3) (l0.length : Int) (a2.size : Int)).bind fun bt326 => (if t301 = true then (if bt314.2.2 = 0 then (if bt320.2.2 = 0 then (if bt326.2.2 = 0 then (if bt314.1 = a1 then (if bt320.1 = (wrap64 (a1)) then (if bt326.1.toList = a2.toList then (if bt314.2.1 = (t302.length : Int) then (if bt320.2.1 = (t305.length : Int) then (some (bt326.2.1 == (t308.length : Int))) else (some false)) else (some false)) else (some false)) else (some false)) else (some false)) else (some false)) else (some false)) else (some false)) else (some false))) else (none))) else (none))) else (none)))))) = some r := h
  clear h
  replace H := Option.bind_eq_some_iff.mp H
  obtain ⟨t301, A50, H⟩ := H
  replace H : ((num_PutUint.f k l0 a1).bind fun t302 => ((num_PutInt.f k l0 (wrap64 (a1))).bind fun t305 => ((num_PutText.f k l0 a2).bind fun t308 => (if t302.length + l3.length < 140737488355328 then ((num_Uint.f k (t302 ++ l3) (l0.length : Int)).bind fun bt314 => (if t305.length + l3.length < 140737488355328 then ((num_Int.f k (t305 ++ l3) (l0.length : Int)).bind fun bt320 => (if t308.length + l3.length < 140737488355328 then ((num_Text.f k (t308 ++ l3) (l0.length : Int) (a2.size : Int)).bind fun bt326 => (if t301 = true then (if bt314.2.2 = 0 then (if bt320.2.2 = 0 then (if bt326.2.2 = 0 then (if bt314.1 = a1 then (if bt320.1 = (wrap64 (a1)) then (if bt326.1.toList = a2.toList then (if bt314.2.1 = (t302.length : Int) then (if bt320.2.1 = (t305.length : Int) then (some (bt326.2.1 == (t308.length : Int))) else (some false)) else (some false)) else (some false)) else (some false)) else (some false)) else (some false)) else (some false)) else (some false)) else (some false))) else (none))) else (none))) else (none))))) = some r := H
  have A5 := Aside0.mk A50
  clear A50
  replace H := Option.bind_eq_some_iff.mp H
  obtain ⟨t302, A60, H⟩ := H
  replace H : ((num_PutInt.f k l0 (wrap64 (a1))).bind fun t305 => ((num_PutText.f k l0 a2).bind fun t308 => (if t302.length + l3.length < 140737488355328 then ((num_Uint.f k (t302 ++ l3) (l0.length : Int)).bind fun bt314 => (if t305.length + l3.length < 140737488355328 then ((num_Int.f k (t305 ++ l3) (l0.length : Int)).bind fun bt320 => (if t308.length + l3.length < 140737488355328 then ((num_Text.f k (t308 ++ l3) (l0.length : Int) (a2.size : Int)).bind fun bt326 => (if t301 = true then (if bt314.2.2 = 0 then (if bt320.2.2 = 0 then (if bt326.2.2 = 0 then (if bt314.1 = a1 then (if bt320.1 = (wrap64 (a1)) then (if bt326.1.toList = a2.toList then (if bt314.2.1 = (t302.length : Int) then (if bt320.2.1 = (t305.length : Int) then (some (bt326.2.1 == (t308.length : Int))) else (some false)) else (some false)) else (some false)) else (some false)) else (some false)) else (some false)) else (some false)) else (some false)) else (some false))) else (none))) else (none))) else (none)))) = some r := H
  have A6 := Aside0.mk A60
  clear A60
  replace H := Option.bind_eq_some_iff.mp H
  obtain ⟨t305, A70, H⟩ := H
  replace H : ((num_PutText.f k l0 a2).bind fun t308 => (if t302.length + l3.length < 140737488355328 then ((num_Uint.f k (t302 ++ l3) (l0.length : Int)).bind fun bt314 => (if t305.length + l3.length < 140737488355328 then ((num_Int.f k (t305 ++ l3) (l0.length : Int)).bind fun bt320 => (if t308.length + l3.length < 140737488355328 then ((num_Text.f k (t308 ++ l3) (l0.length : Int) (a2.size : Int)).bind fun bt326 => (if t301 = true then (if bt314.2.2 = 0 then (if bt320.2.2 = 0 then (if bt326.2.2 = 0 then (if bt314.1 = a1 then (if bt320.1 = (wrap64 (a1)) then (if bt326.1.toList = a2.toList then (if bt314.2.1 = (t302.length : Int) then (if bt320.2.1 = (t305.length : Int) then (some (bt326.2.1 == (t308.length : Int))) else (some false)) else (some false)) else (some false)) else (some false)) else (some false)) else (some false)) else (some false)) else (some false)) else (some false))) else (none))) else (none))) else (none))) = some r := H
  have A7 := Aside0.mk A70
  clear A70
  replace H := Option.bind_eq_some_iff.mp H
  obtain ⟨t308, A80, H⟩ := H
  replace H : (if t302.length + l3.length < 140737488355328 then ((num_Uint.f k (t302 ++ l3) (l0.length : Int)).bind fun bt314 => (if t305.length + l3.length < 140737488355328 then ((num_Int.f k (t305 ++ l3) (l0.length : Int)).bind fun bt320 => (if t308.length + l3.length < 140737488355328 then ((num_Text.f k (t308 ++ l3) (l0.length : Int) (a2.size : Int)).bind fun bt326 => (if t301 = true then (if bt314.2.2 = 0 then (if bt320.2.2 = 0 then (if bt326.2.2 = 0 then (if bt314.1 = a1 then (if bt320.1 = (wrap64 (a1)) then (if bt326.1.toList = a2.toList then (if bt314.2.1 = (t302.length : Int) then (if bt320.2.1 = (t305.length : Int) then (some (bt326.2.1 == (t308.length : Int))) else (some false)) else (some false)) else (some false)) else (some false)) else (some false)) else (some false)) else (some false)) else (some false)) else (some false))) else (none))) else (none))) else (none)) = some r := H
  have A8 := Aside0.mk A80
  clear A80
  by_cases c9 : t302.length + l3.length < 140737488355328
  · rw [if_pos c9] at H
    have LMc9 := Aside0.mk c9
    clear c9
    obtain ⟨y311, hy311⟩ : ∃ y_ : List Int, y_ = (t302 ++ l3) := ⟨_, rfl⟩
    replace H : ((num_Uint.f k y311 (l0.length : Int)).bind fun bt314 => (if t305.length + l3.length < 140737488355328 then ((num_Int.f k (t305 ++ l3) (l0.length : Int)).bind fun bt320 => (if t308.length + l3.length < 140737488355328 then ((num_Text.f k (t308 ++ l3) (l0.length : Int) (a2.size : Int)).bind fun bt326 => (if t301 = true then (if bt314.2.2 = 0 then (if bt320.2.2 = 0 then (if bt326.2.2 = 0 then (if bt314.1 = a1 then (if bt320.1 = (wrap64 (a1)) then (if bt326.1.toList = a2.toList then (if bt314.2.1 = (t302.length : Int) then (if bt320.2.1 = (t305.length : Int) then (some (bt326.2.1 == (t308.length : Int))) else (some false)) else (some false)) else (some false)) else (some false)) else (some false)) else (some false)) else (some false)) else (some false)) else (some false))) else (none))) else (none))) = some r := by first | (rw [hy311]; with_reducible exact H) | (have H2_ := (Option.bind_some _ _).symm.trans H; rw [hy311]; with_reducible exact H2_) | (have H2_ := (Option.bind_some _ _).symm.trans H; with_reducible exact H2_) | with_reducible exact H | (rw [hy311]; exact H) | exact H
    have Ny311 := Aside0.mk hy311
    clear hy311
    replace H := Option.bind_eq_some_iff.mp H
    obtain ⟨⟨t314, t315, t316⟩, A100, H⟩ := H
    replace H : (if t305.length + l3.length < 140737488355328 then ((num_Int.f k (t305 ++ l3) (l0.length : Int)).bind fun bt320 => (if t308.length + l3.length < 140737488355328 then ((num_Text.f k (t308 ++ l3) (l0.length : Int) (a2.size : Int)).bind fun bt326 => (if t301 = true then (if t316 = 0 then (if bt320.2.2 = 0 then (if bt326.2.2 = 0 then (if t314 = a1 then (if bt320.1 = (wrap64 (a1)) then (if bt326.1.toList = a2.toList then (if t315 = (t302.length : Int) then (if bt320.2.1 = (t305.length : Int) then (some (bt326.2.1 == (t308.length : Int))) else (some false)) else (some false)) else (some false)) else (some false)) else (some false)) else (some false)) else (some false)) else (some false)) else (some false))) else (none))) else (none)) = some r := H
    have A10 := Aside0.mk A100
    clear A100
    by_cases c11 : t305.length + l3.length < 140737488355328
    · rw [if_pos c11] at H
      have LMc11 := Aside0.mk c11
      clear c11
      obtain ⟨y317, hy317⟩ : ∃ y_ : List Int, y_ = (t305 ++ l3) := ⟨_, rfl⟩
      replace H : ((num_Int.f k y317 (l0.length : Int)).bind fun bt320 => (if t308.length + l3.length < 140737488355328 then ((num_Text.f k (t308 ++ l3) (l0.length : Int) (a2.size : Int)).bind fun bt326 => (if t301 = true then (if t316 = 0 then (if bt320.2.2 = 0 then (if bt326.2.2 = 0 then (if t314 = a1 then (if bt320.1 = (wrap64 (a1)) then (if bt326.1.toList = a2.toList then (if t315 = (t302.length : Int) then (if bt320.2.1 = (t305.length : Int) then (some (bt326.2.1 == (t308.length : Int))) else (some false)) else (some false)) else (some false)) else (some false)) else (some false)) else (some false)) else (some false)) else (some false)) else (some false))) else (none))) = some r := by first | (rw [hy317]; with_reducible exact H) | (have H2_ := (Option.bind_some _ _).symm.trans H; rw [hy317]; with_reducible exact H2_) | (have H2_ := (Option.bind_some _ _).symm.trans H; with_reducible exact H2_) | with_reducible exact H | (rw [hy317]; exact H) | exact H
      have Ny317 := Aside0.mk hy317
      clear hy317
      replace H := Option.bind_eq_some_iff.mp H
      obtain ⟨⟨t320, t321, t322⟩, A120, H⟩ := H
      replace H : (if t308.length + l3.length < 140737488355328 then ((num_Text.f k (t308 ++ l3) (l0.length : Int) (a2.size : Int)).bind fun bt326 => (if t301 = true then (if t316 = 0 then (if t322 = 0 then (if bt326.2.2 = 0 then (if t314 = a1 then (if t320 = (wrap64 (a1)) then (if bt326.1.toList = a2.toList then (if t315 = (t302.length : Int) then (if t321 = (t305.length : Int) then (some (bt326.2.1 == (t308.length : Int))) else (some false)) else (some false)) else (some false)) else (some false)) else (some false)) else (some false)) else (some false)) else (some false)) else (some false))) else (none)) = some r := H
      have A12 := Aside0.mk A120
      clear A120
      by_cases c13 : t308.length + l3.length < 140737488355328
      · rw [if_pos c13] at H
        have LMc13 := Aside0.mk c13
        clear c13
        obtain ⟨y323, hy323⟩ : ∃ y_ : List Int, y_ = (t308 ++ l3) := ⟨_, rfl⟩
        replace H : ((num_Text.f k y323 (l0.length : Int) (a2.size : Int)).bind fun bt326 => (if t301 = true then (if t316 = 0 then (if t322 = 0 then (if bt326.2.2 = 0 then (if t314 = a1 then (if t320 = (wrap64 (a1)) then (if bt326.1.toList = a2.toList then (if t315 = (t302.length : Int) then (if t321 = (t305.length : Int) then (some (bt326.2.1 == (t308.length : Int))) else (some false)) else (some false)) else (some false)) else (some false)) else (some false)) else (some false)) else (some false)) else (some false)) else (some false))) = some r := by first | (rw [hy323]; with_reducible exact H) | (have H2_ := (Option.bind_some _ _).symm.trans H; rw [hy323]; with_reducible exact H2_) | (have H2_ := (Option.bind_some _ _).symm.trans H; with_reducible exact H2_) | with_reducible exact H | (rw [hy323]; exact H) | exact H
        have Ny323 := Aside0.mk hy323
        clear hy323
        replace H := Option.bind_eq_some_iff.mp H
        obtain ⟨⟨t326, t327, t328⟩, A140, H⟩ := H
        replace H : (if t301 = true then (if t316 = 0 then (if t322 = 0 then (if t328 = 0 then (if t314 = a1 then (if t320 = (wrap64 (a1)) then (if t326.toList = a2.toList then (if t315 = (t302.length : Int) then (if t321 = (t305.length : Int) then (some (t327 == (t308.length : Int))) else (some false)) else (some false)) else (some false)) else (some false)) else (some false)) else (some false)) else (some false)) else (some false)) else (some false)) = some r := H
        have A14 := Aside0.mk A140
        clear A140
        by_cases c15 : t301 = true
        · subst c15
          have H1 : (if t316 = 0 then (if t322 = 0 then (if t328 = 0 then (if t314 = a1 then (if t320 = (wrap64 (a1)) then (if t326.toList = a2.toList then (if t315 = (t302.length : Int) then (if t321 = (t305.length : Int) then (some (t327 == (t308.length : Int))) else (some false)) else (some false)) else (some false)) else (some false)) else (some false)) else (some false)) else (some false)) else (some false)) = some r := by rw [if_pos rfl] at H; exact H
          clear H
          have H := H1
          clear H1
          by_cases c16 : t316 = 0
          · rw [if_pos c16] at H
            have c16b0 : (t316 == 0) = true := beq_iff_eq.mpr c16
            have c16b1 : (t316 != 0) = false := bne_eq_false_iff_eq.mpr c16
            clear c16
            by_cases c17 : t322 = 0
            · rw [if_pos c17] at H
              have c17b0 : (t322 == 0) = true := beq_iff_eq.mpr c17
              have c17b1 : (t322 != 0) = false := bne_eq_false_iff_eq.mpr c17
              clear c17
              by_cases c18 : t328 = 0
              · rw [if_pos c18] at H
                have c18b0 : (t328 == 0) = true := beq_iff_eq.mpr c18
                have c18b1 : (t328 != 0) = false := bne_eq_false_iff_eq.mpr c18
                clear c18
                by_cases c19 : t314 = a1
                · rw [if_pos c19] at H
                  have c19b0 : (t314 == a1) = true := beq_iff_eq.mpr c19
                  have c19b1 : (t314 != a1) = false := bne_eq_false_iff_eq.mpr c19
                  clear c19
                  by_cases c20 : t320 = (wrap64 (a1))
                  · rw [if_pos c20] at H
                    have c20b0 : (t320 == (wrap64 (a1))) = true := beq_iff_eq.mpr c20
                    have c20b1 : (t320 != (wrap64 (a1))) = false := bne_eq_false_iff_eq.mpr c20
                    clear c20
                    by_cases c21 : t326.toList = a2.toList
                    · rw [if_pos c21] at H
                      have c21b0 : (t326.toList == a2.toList) = true := beq_iff_eq.mpr c21
                      have c21b1 : (t326.toList != a2.toList) = false := bne_eq_false_iff_eq.mpr c21
                      clear c21
                      by_cases c22 : t315 = (t302.length : Int)
                      · rw [if_pos c22] at H
                        have c22b0 : (t315 == (t302.length : Int)) = true := beq_iff_eq.mpr c22
                        have c22b1 : (t315 != (t302.length : Int)) = false := bne_eq_false_iff_eq.mpr c22
                        clear c22
                        by_cases c23 : t321 = (t305.length : Int)
                        · rw [if_pos c23] at H
                          have c23b0 : (t321 == (t305.length : Int)) = true := beq_iff_eq.mpr c23
                          have c23b1 : (t321 != (t305.length : Int)) = false := bne_eq_false_iff_eq.mpr c23
                          clear c23
                          obtain rfl := Option.some.inj H
                          have HT := Aside0.mk hT
                          clear hT
                          go_enter Try.func8, Try.ntmps8
                          go_wp2_with (first | ((with_reducible refine gate_callee (f := 11) rfl ?_); refine goesL_ (some 22) rfl rfl Try.func11 (by kernel_rfl) rfl #[] rfl (by (try simp only [List.map_toArray, List.map_cons, List.map_nil]); first | done | rfl | (simp only [List.length_drop, List.length_take]; rfl)) ?_; (with_reducible refine (scruplelaw01_shown.calls k  true _ A5.out).mono ?_); rintro e w24 ⟨rfl, hb⟩; refine ⟨_, rfl, ?_⟩; have n0_ := Aside0.mk (below_step (by repeat (first | (with_reducible first | exact HB.out | apply below_alloc | apply pw_below_drewN | apply below_drew1) | exact HB.out)) hb); clear HB; have HB := n0_; clear n0_; (try clear hb); (try clear hb2); (try clear hk); (try clear hi)) | ((with_reducible refine gate_callee (f := 12) rfl ?_); refine goesL_ (some 25) rfl rfl Try.func12 (by kernel_rfl) rfl #[.slice A0 l0.length c0, .int .u64 a1] rfl (by (try simp only [List.map_toArray, List.map_cons, List.map_nil]); first | done | rfl | (simp only [List.length_drop, List.length_take]; rfl)) ?_; (with_reducible refine (num_PutUint.calls k _ _ l0 a1 t302 _ ?side1 ?side2 A6.out).mono ?_); (case side1 => repeat (first | exact (Kd.C_below HR0.out HB.out) | (with_reducible refine Kd.C_alloc ?_ _) | (with_reducible refine Kd.C_drewN ?_ _) | (with_reducible refine Kd.C_drew ?_))); (case side2 => exact HC0.out); rintro e w25 ⟨v303, rfl, ho0, hb⟩; refine ⟨_, rfl, ?_⟩; have n0_ := Aside0.mk (Kd.R_lower ho0 (below_size (by repeat (first | (with_reducible first | exact HB.out | apply below_alloc | apply pw_below_drewN | apply below_drew1) | exact HB.out)))); have n1_ := Aside0.mk (below_step (by repeat (first | (with_reducible first | exact HB.out | apply below_alloc | apply pw_below_drewN | apply below_drew1) | exact HB.out)) hb); clear HB; have HO304 := n0_; have HB := n1_; clear n0_ n1_; (try clear hb); (try clear hb2); (try clear hk); (try clear hi); (try clear ho0)) | ((with_reducible refine gate_callee (f := 14) rfl ?_); refine goesL_ (some 29) rfl rfl Try.func14 (by kernel_rfl) rfl #[.slice A0 l0.length c0, .int .i64 (wrap64 (a1))] rfl (by (try simp only [List.map_toArray, List.map_cons, List.map_nil]); first | done | rfl | (simp only [List.length_drop, List.length_take]; rfl)) ?_; (with_reducible refine (num_PutInt.calls k _ _ l0 (wrap64 (a1)) t305 _ ?side1 ?side2 A7.out).mono ?_); (case side1 => repeat (first | exact (Kd.C_below HR0.out HB.out) | (with_reducible refine Kd.C_alloc ?_ _) | (with_reducible refine Kd.C_drewN ?_ _) | (with_reducible refine Kd.C_drew ?_))); (case side2 => exact HC0.out); rintro e w26 ⟨v306, rfl, ho0, hb⟩; refine ⟨_, rfl, ?_⟩; have n0_ := Aside0.mk (Kd.R_elder' (by (with_reducible repeat (first | apply Kd.R_alloc | apply Kd.R_drewN | apply Kd.R_drew)); exact HO304.out) (Kd.R_base ho0) hb); have n1_ := Aside0.mk (Kd.R_lower (Kd.R_new' ho0 (Kd.R_lt (by (with_reducible repeat (first | apply Kd.R_alloc | apply Kd.R_drewN | apply Kd.R_drew)); exact HO304.out))) (below_size (by repeat (first | (with_reducible first | exact HB.out | apply below_alloc | apply pw_below_drewN | apply below_drew1) | exact HB.out)))); have n2_ := Aside0.mk (below_step (by repeat (first | (with_reducible first | exact HB.out | apply below_alloc | apply pw_below_drewN | apply below_drew1) | exact HB.out)) hb); clear HO304; clear HB; have HO304 := n0_; have HO307 := n1_; have HB := n2_; clear n0_ n1_ n2_; (try clear hb); (try clear hb2); (try clear hk); (try clear hi); (try clear ho0)) | ((with_reducible refine gate_callee (f := 15) rfl ?_); refine goesL_ (some 32) rfl rfl Try.func15 (by kernel_rfl) rfl #[.slice A0 l0.length c0, .string a2] rfl (by (try simp only [List.map_toArray, List.map_cons, List.map_nil]); first | done | rfl | (simp only [List.length_drop, List.length_take]; rfl)) ?_; (with_reducible refine (num_PutText.calls k _ _ l0 a2 t308 _ ?side1 ?side2 A8.out).mono ?_); (case side1 => repeat (first | exact (Kd.C_below HR0.out HB.out) | (with_reducible refine Kd.C_alloc ?_ _) | (with_reducible refine Kd.C_drewN ?_ _) | (with_reducible refine Kd.C_drew ?_))); (case side2 => exact HC0.out); rintro e w27 ⟨v309, rfl, ho0, hb⟩; refine ⟨_, rfl, ?_⟩; have n0_ := Aside0.mk (Kd.R_elder' (by (with_reducible repeat (first | apply Kd.R_alloc | apply Kd.R_drewN | apply Kd.R_drew)); exact HO304.out) (Kd.R_base ho0) hb); have n1_ := Aside0.mk (Kd.R_elder' (by (with_reducible repeat (first | apply Kd.R_alloc | apply Kd.R_drewN | apply Kd.R_drew)); exact HO307.out) (Kd.R_base ho0) hb); have n2_ := Aside0.mk (Kd.R_lower (Kd.R_new' (Kd.R_new' ho0 (Kd.R_lt (by (with_reducible repeat (first | apply Kd.R_alloc | apply Kd.R_drewN | apply Kd.R_drew)); exact HO304.out))) (Kd.R_lt (by (with_reducible repeat (first | apply Kd.R_alloc | apply Kd.R_drewN | apply Kd.R_drew)); exact HO307.out))) (below_size (by repeat (first | (with_reducible first | exact HB.out | apply below_alloc | apply pw_below_drewN | apply below_drew1) | exact HB.out)))); have n3_ := Aside0.mk (below_step (by repeat (first | (with_reducible first | exact HB.out | apply below_alloc | apply pw_below_drewN | apply below_drew1) | exact HB.out)) hb); clear HO304; clear HO307; clear HB; have HO304 := n0_; have HO307 := n1_; have HO310 := n2_; have HB := n3_; clear n0_ n1_ n2_ n3_; (try clear hb); (try clear hb2); (try clear hk); (try clear hi); (try clear ho0); obtain ⟨Ao28, co28, eo28⟩ := Kd.R_slice HO304.out; subst eo28) | ((with_reducible refine gate_builtin (b := .append) (xs := #[.tmp 34, .tmp 35]) rfl ?_); (try (refine gate_guard (by rfl) ?_; dsimp only)); at_builtin; refine Kd.R_append_rows (Kd.int .u8) (w0 := w) w.heap.size rfl (.tmp 34) (.tmp 35) 29 5 (.int .u8 0) 1 rfl Try.underlying29 info5 rfl (by decide) (by omega) (.slice Ao28 t302.length co28) t302 l3 _ _ _ (fun k_ => some k_ ≠ (v306 : Value).ownBlock ∧ some k_ ≠ (v309 : Value).ownBlock) (fun _ => False) rfl rfl ?aO ?aR (fun _ _ h => h) (fun _ h => h.elim) ?aF ?aB ?aS ?aL ?_; (case aR => repeat (first | exact (Kd.C_below HR3.out HB.out) | (with_reducible refine Kd.C_alloc ?_ _) | (with_reducible refine Kd.C_drewN ?_ _) | (with_reducible refine Kd.C_drew ?_))); (case aB => exact (by repeat (first | (with_reducible first | exact HB.out | apply below_alloc | apply pw_below_drewN | apply below_drew1) | exact HB.out))); (case aF => exact (fun k_ hk => ⟨Kd.fresh' (Kd.R_lt (by (with_reducible repeat (first | apply Kd.R_alloc | apply Kd.R_drewN | apply Kd.R_drew)); exact HO307.out)) k_ hk, Kd.fresh' (Kd.R_lt (by (with_reducible repeat (first | apply Kd.R_alloc | apply Kd.R_drewN | apply Kd.R_drew)); exact HO310.out)) k_ hk⟩)); (case aO => exact (by (with_reducible repeat (first | apply Kd.R_alloc | apply Kd.R_drewN | apply Kd.R_drew)); exact Kd.R_mono HO304.out (fun _ hk => ⟨hk.1.2, hk.2⟩))); (case aS => exact (below_size (by repeat (first | (with_reducible first | exact HB.out | apply below_alloc | apply pw_below_drewN | apply below_drew1) | exact HB.out)))); (case aL => have := LMc9.out; omega); intro v312 w29 ho hb hg hat; rw [← Ny311.out] at ho; have n0_ := Aside0.mk (Kd.R_after (ok := (fun k_ => some k_ ≠ (v309 : Value).ownBlock)) (by (with_reducible repeat (first | apply Kd.R_alloc | apply Kd.R_drewN | apply Kd.R_drew)); exact Kd.R_mono HO307.out (fun _ hk => ⟨hk.2, hk.1.2⟩)) hg hat); have n1_ := Aside0.mk (Kd.R_after (ok := (fun k_ => some k_ ≠ (v306 : Value).ownBlock)) (by (with_reducible repeat (first | apply Kd.R_alloc | apply Kd.R_drewN | apply Kd.R_drew)); exact Kd.R_mono HO310.out (fun _ hk => ⟨hk.2, hk.1.2⟩)) hg hat); have n2_ := Aside0.mk (hb); have n3_ := Aside0.mk (ho); clear HO307; clear HO310; clear HB; clear HO304; have HO307 := n0_; have HO310 := n1_; have HB := n2_; have HO313 := n3_; clear n0_ n1_ n2_ n3_; clear ho hb hg hat; obtain ⟨Ao30, co30, eo30⟩ := Kd.R_slice HO313.out; subst eo30) | ((with_reducible refine gate_callee (f := 20) rfl ?_); refine goesL_ (some 39) rfl rfl Try.func20 (by kernel_rfl) rfl #[.slice Ao30 y311.length co30, .int .i64 (l0.length : Int)] rfl (by (try simp only [List.map_toArray, List.map_cons, List.map_nil]); first | done | rfl | (simp only [List.length_drop, List.length_take]; rfl)) ?_; (with_reducible refine (num_Uint.calls k _ _ y311 (l0.length : Int) t314 t315 t316 _ ?side1 ?side2 A10.out).mono ?_); (case side1 => repeat (first | exact (Kd.R_reads' HO313.out).2.2 | (with_reducible refine Kd.C_alloc ?_ _) | (with_reducible refine Kd.C_drewN ?_ _) | (with_reducible refine Kd.C_drew ?_))); (case side2 => exact (Kd.R_reads' HO313.out).2.1); rintro e w' ⟨rfl, ⟨nd, rfl⟩⟩; refine ⟨_, rfl, ?_⟩; obtain ⟨Ao31, co31, eo31⟩ := Kd.R_slice HO307.out; subst eo31) | ((with_reducible refine gate_builtin (b := .append) (xs := #[.tmp 44, .tmp 45]) rfl ?_); (try (refine gate_guard (by rfl) ?_; dsimp only)); at_builtin; refine Kd.R_append_rows (Kd.int .u8) (w0 := w) w.heap.size rfl (.tmp 44) (.tmp 45) 29 5 (.int .u8 0) 1 rfl Try.underlying29 info5 rfl (by decide) (by omega) (.slice Ao31 t305.length co31) t305 l3 _ _ _ (fun k_ => some k_ ≠ (v309 : Value).ownBlock ∧ some k_ ≠ (.slice Ao30 y311.length co30 : Value).ownBlock) (fun _ => False) rfl rfl ?aO ?aR (fun _ _ h => h) (fun _ h => h.elim) ?aF ?aB ?aS ?aL ?_; (case aR => repeat (first | exact (Kd.C_below HR3.out (by repeat (first | (with_reducible first | exact HB.out | apply below_alloc | apply pw_below_drewN | apply below_drew1) | exact HB.out))) | (with_reducible refine Kd.C_alloc ?_ _) | (with_reducible refine Kd.C_drewN ?_ _) | (with_reducible refine Kd.C_drew ?_))); (case aB => exact (by repeat (first | (with_reducible first | exact HB.out | apply below_alloc | apply pw_below_drewN | apply below_drew1) | exact HB.out))); (case aF => exact (fun k_ hk => ⟨Kd.fresh' (Kd.R_lt (by (with_reducible repeat (first | apply Kd.R_alloc | apply Kd.R_drewN | apply Kd.R_drew)); exact HO310.out)) k_ hk, Kd.fresh' (Kd.R_lt (by (with_reducible repeat (first | apply Kd.R_alloc | apply Kd.R_drewN | apply Kd.R_drew)); exact HO313.out)) k_ hk⟩)); (case aO => exact (by (with_reducible repeat (first | apply Kd.R_alloc | apply Kd.R_drewN | apply Kd.R_drew)); exact HO307.out)); (case aS => exact (below_size (by repeat (first | (with_reducible first | exact HB.out | apply below_alloc | apply pw_below_drewN | apply below_drew1) | exact HB.out)))); (case aL => have := LMc11.out; omega); intro v318 w32 ho hb hg hat; rw [← Ny317.out] at ho; have n0_ := Aside0.mk (Kd.R_after (ok := (fun k_ => some k_ ≠ (.slice Ao30 y311.length co30 : Value).ownBlock)) (by (with_reducible repeat (first | apply Kd.R_alloc | apply Kd.R_drewN | apply Kd.R_drew)); exact Kd.R_mono HO310.out (fun _ hk => ⟨hk.2, hk.1⟩)) hg hat); have n1_ := Aside0.mk (Kd.R_after (ok := (fun k_ => some k_ ≠ (v309 : Value).ownBlock)) (by (with_reducible repeat (first | apply Kd.R_alloc | apply Kd.R_drewN | apply Kd.R_drew)); exact Kd.R_mono HO313.out (fun _ hk => ⟨hk.2, hk.1⟩)) hg hat); have n2_ := Aside0.mk (hb); have n3_ := Aside0.mk (ho); clear HO310; clear HO313; clear HB; clear HO307; have HO310 := n0_; have HO313 := n1_; have HB := n2_; have HO319 := n3_; clear n0_ n1_ n2_ n3_; clear ho hb hg hat; obtain ⟨Ao33, co33, eo33⟩ := Kd.R_slice HO319.out; subst eo33) | ((with_reducible refine gate_callee (f := 22) rfl ?_); refine goesL_ (some 49) rfl rfl Try.func22 (by kernel_rfl) rfl #[.slice Ao33 y317.length co33, .int .i64 (l0.length : Int)] rfl (by (try simp only [List.map_toArray, List.map_cons, List.map_nil]); first | done | rfl | (simp only [List.length_drop, List.length_take]; rfl)) ?_; (with_reducible refine (num_Int.calls k _ _ y317 (l0.length : Int) t320 t321 t322 _ ?side1 ?side2 A12.out).mono ?_); (case side1 => repeat (first | exact (Kd.R_reads' HO319.out).2.2 | (with_reducible refine Kd.C_alloc ?_ _) | (with_reducible refine Kd.C_drewN ?_ _) | (with_reducible refine Kd.C_drew ?_))); (case side2 => exact (Kd.R_reads' HO319.out).2.1); rintro e w' ⟨rfl, ⟨nd, rfl⟩⟩; refine ⟨_, rfl, ?_⟩; obtain ⟨Ao34, co34, eo34⟩ := Kd.R_slice HO310.out; subst eo34) | ((with_reducible refine gate_builtin (b := .append) (xs := #[.tmp 54, .tmp 55]) rfl ?_); (try (refine gate_guard (by rfl) ?_; dsimp only)); at_builtin; refine Kd.R_append_rows (Kd.int .u8) (w0 := w) w.heap.size rfl (.tmp 54) (.tmp 55) 29 5 (.int .u8 0) 1 rfl Try.underlying29 info5 rfl (by decide) (by omega) (.slice Ao34 t308.length co34) t308 l3 _ _ _ (fun k_ => some k_ ≠ (.slice Ao30 y311.length co30 : Value).ownBlock ∧ some k_ ≠ (.slice Ao33 y317.length co33 : Value).ownBlock) (fun _ => False) rfl rfl ?aO ?aR (fun _ _ h => h) (fun _ h => h.elim) ?aF ?aB ?aS ?aL ?_; (case aR => repeat (first | exact (Kd.C_below HR3.out (by repeat (first | (with_reducible first | exact HB.out | apply below_alloc | apply pw_below_drewN | apply below_drew1) | exact HB.out))) | (with_reducible refine Kd.C_alloc ?_ _) | (with_reducible refine Kd.C_drewN ?_ _) | (with_reducible refine Kd.C_drew ?_))); (case aB => exact (by repeat (first | (with_reducible first | exact HB.out | apply below_alloc | apply pw_below_drewN | apply below_drew1) | exact HB.out))); (case aF => exact (fun k_ hk => ⟨Kd.fresh' (Kd.R_lt (by (with_reducible repeat (first | apply Kd.R_alloc | apply Kd.R_drewN | apply Kd.R_drew)); exact HO313.out)) k_ hk, Kd.fresh' (Kd.R_lt (by (with_reducible repeat (first | apply Kd.R_alloc | apply Kd.R_drewN | apply Kd.R_drew)); exact HO319.out)) k_ hk⟩)); (case aO => exact (by (with_reducible repeat (first | apply Kd.R_alloc | apply Kd.R_drewN | apply Kd.R_drew)); exact HO310.out)); (case aS => exact (below_size (by repeat (first | (with_reducible first | exact HB.out | apply below_alloc | apply pw_below_drewN | apply below_drew1) | exact HB.out)))); (case aL => have := LMc13.out; omega); intro v324 w35 ho hb hg hat; rw [← Ny323.out] at ho; have n0_ := Aside0.mk (Kd.R_after (ok := (fun k_ => some k_ ≠ (.slice Ao33 y317.length co33 : Value).ownBlock)) (by (with_reducible repeat (first | apply Kd.R_alloc | apply Kd.R_drewN | apply Kd.R_drew)); exact Kd.R_mono HO313.out (fun _ hk => ⟨hk.2, hk.1⟩)) hg hat); have n1_ := Aside0.mk (Kd.R_after (ok := (fun k_ => some k_ ≠ (.slice Ao30 y311.length co30 : Value).ownBlock)) (by (with_reducible repeat (first | apply Kd.R_alloc | apply Kd.R_drewN | apply Kd.R_drew)); exact Kd.R_mono HO319.out (fun _ hk => ⟨hk.2, hk.1⟩)) hg hat); have n2_ := Aside0.mk (hb); have n3_ := Aside0.mk (ho); clear HO313; clear HO319; clear HB; clear HO310; have HO313 := n0_; have HO319 := n1_; have HB := n2_; have HO325 := n3_; clear n0_ n1_ n2_ n3_; clear ho hb hg hat; obtain ⟨Ao36, co36, eo36⟩ := Kd.R_slice HO325.out; subst eo36) | ((with_reducible refine gate_callee (f := 24) rfl ?_); refine goesL_ (some 61) rfl rfl Try.func24 (by kernel_rfl) rfl #[.slice Ao36 y323.length co36, .int .i64 (l0.length : Int), .int .i64 (a2.size : Int)] rfl (by (try simp only [List.map_toArray, List.map_cons, List.map_nil]); first | done | rfl | (simp only [List.length_drop, List.length_take]; rfl)) ?_; (with_reducible refine (num_Text.calls k _ _ y323 (l0.length : Int) (a2.size : Int) t326 t327 t328 _ ?side1 ?side2 A14.out).mono ?_); (case side1 => repeat (first | exact (Kd.R_reads' HO325.out).2.2 | (with_reducible refine Kd.C_alloc ?_ _) | (with_reducible refine Kd.C_drewN ?_ _) | (with_reducible refine Kd.C_drew ?_))); (case side2 => exact (Kd.R_reads' HO325.out).2.1); rintro e w' ⟨rfl, ⟨nd, rfl⟩⟩; refine ⟨_, rfl, ?_⟩))
                          go_ret
                          exact ⟨by first | rfl | (simp [errW_none, errW_some] <;> rfl) | (simp [*, errW_none, errW_some] <;> rfl), by repeat (first | (with_reducible first | exact HB.out | apply below_alloc | apply pw_below_drewN | apply below_drew1) | exact HB.out)⟩
                        · rw [if_neg c23] at H
                          have c23b0 : (t321 == (t305.length : Int)) = false := beq_eq_false_iff_ne.mpr c23
                          have c23b1 : (t321 != (t305.length : Int)) = true := bne_iff_ne.mpr c23
                          rw [hT] at H
                          exact absurd H (by simp)
                      · rw [if_neg c22] at H
                        have c22b0 : (t315 == (t302.length : Int)) = false := beq_eq_false_iff_ne.mpr c22
                        have c22b1 : (t315 != (t302.length : Int)) = true := bne_iff_ne.mpr c22
                        rw [hT] at H
                        exact absurd H (by simp)
                    · rw [if_neg c21] at H
                      have c21b0 : (t326.toList == a2.toList) = false := beq_eq_false_iff_ne.mpr c21
                      have c21b1 : (t326.toList != a2.toList) = true := bne_iff_ne.mpr c21
                      rw [hT] at H
                      exact absurd H (by simp)
                  · rw [if_neg c20] at H
                    have c20b0 : (t320 == (wrap64 (a1))) = false := beq_eq_false_iff_ne.mpr c20
                    have c20b1 : (t320 != (wrap64 (a1))) = true := bne_iff_ne.mpr c20
                    rw [hT] at H
                    exact absurd H (by simp)
                · rw [if_neg c19] at H
                  have c19b0 : (t314 == a1) = false := beq_eq_false_iff_ne.mpr c19
                  have c19b1 : (t314 != a1) = true := bne_iff_ne.mpr c19
                  rw [hT] at H
                  exact absurd H (by simp)
              · rw [if_neg c18] at H
                have c18b0 : (t328 == 0) = false := beq_eq_false_iff_ne.mpr c18
                have c18b1 : (t328 != 0) = true := bne_iff_ne.mpr c18
                rw [hT] at H
                exact absurd H (by simp)
            · rw [if_neg c17] at H
              have c17b0 : (t322 == 0) = false := beq_eq_false_iff_ne.mpr c17
              have c17b1 : (t322 != 0) = true := bne_iff_ne.mpr c17
              rw [hT] at H
              exact absurd H (by simp)
          · rw [if_neg c16] at H
            have c16b0 : (t316 == 0) = false := beq_eq_false_iff_ne.mpr c16
            have c16b1 : (t316 != 0) = true := bne_iff_ne.mpr c16
            rw [hT] at H
            exact absurd H (by simp)
        · replace c15 := Bool.eq_false_iff.mpr c15
          subst c15
          have H1 : (some false) = some r := by rw [if_neg (show ¬ (false = true) by decide)] at H; exact H
          clear H
          have H := H1
          clear H1
          rw [hT] at H
          exact absurd H (by simp)
      · rw [if_neg c13] at H
        exact absurd H (by simp)
    · rw [if_neg c11] at H
      exact absurd H (by simp)
  · rw [if_neg c9] at H
    exact absurd H (by simp)

/-- THE ONE PURE STATEMENT of scruplelaw01_NumBack: yours. -/
def scruplelaw01_NumBack.Pure : Prop := ∀ (l0 : List Int) (a1 : Int) (a2 : ByteArray) (l3 : List Int), l0.length ≤ maxLen → l0.length * 1 ≤ 140737488351232 → (∀ x ∈ l0, (Lit.int .u8 x).wf = true) → (Lit.int .u64 a1).wf = true → a2.size ≤ 140737488351232 → l3.length ≤ maxLen → l3.length * 1 ≤ 140737488351232 → (∀ x ∈ l3, (Lit.int .u8 x).wf = true) → ∃ k, scruplelaw01_NumBack.f k l0 a1 a2 l3 = some true
theorem scruplelaw01_NumBack.walk (P : scruplelaw01_NumBack.Pure) (a0 : Option Addr) (len0 cap0 : Nat) (z0 : List Int) (a1 : Int) (a2 : ByteArray) (a3 : Option Addr) (len3 cap3 : Nat) (z3 : List Int) (w : World) (w0 : (a0 = none ∧ len0 = 0 ∧ cap0 = 0 ∧ z0 = []) ∨ ∃ x, a0 = some x ∧ len0 ≤ cap0 ∧ cap0 ≤ maxLen ∧ z0.length = cap0 ∧ (∀ i, i < z0.length → w.cell? (x.add i) = some (.int .u8 (z0.getD i 0))) ∧ ∀ n ∈ z0, (Lit.int .u8 n).wf = true) (y0 : len0 * 1 ≤ 140737488351232) (w1 : (Lit.int .u64 a1).wf = true) (w2 : a2.size ≤ 140737488351232) (w3 : (a3 = none ∧ len3 = 0 ∧ cap3 = 0 ∧ z3 = []) ∨ ∃ x, a3 = some x ∧ len3 ≤ cap3 ∧ cap3 ≤ maxLen ∧ z3.length = cap3 ∧ (∀ i, i < z3.length → w.cell? (x.add i) = some (.int .u8 (z3.getD i 0))) ∧ ∀ n ∈ z3, (Lit.int .u8 n).wf = true) (y3 : len3 * 1 ≤ 140737488351232) :
    Calls Try.prog 8 #[.slice a0 len0 cap0, .int .u64 a1, .string a2, .slice a3 len3 cap3] w fun e w' => e = .returned (.bool true) ∧ Below w.heap.size w w' := by
  obtain ⟨l0, rfl, hr0, hm0, hw0, hc0⟩ := ReadsInt.ofRowC w0
  obtain ⟨l3, rfl, hr3, hm3, hw3, hc3⟩ := ReadsInt.ofRowC w3
  obtain ⟨k, h⟩ := P l0 a1 a2 l3 hm0 y0 hw0 w1 w2 hm3 y3 hw3
  refine (scruplelaw01_NumBack.calls k _ _ l0 a1 a2 _ _ l3 true w rfl (Kd.C_of_reads (d := (0 : Int)) (h1 := fun _ => rfl) hr0) hc0 (Kd.C_of_reads (d := (0 : Int)) (h1 := fun _ => rfl) hr3) hc3 h).mono ?_
  rintro e w' ⟨rfl, hd⟩
  exact ⟨rfl, hd⟩

def scruplelaw01_NumBack.PureUp : Prop := ∀ (l0 : List Int) (a1 : Int) (a2 : ByteArray) (l3 : List Int), l0.length ≤ maxLen → l0.length * 1 ≤ 140737488351232 → (∀ x ∈ l0, (Lit.int .u8 x).wf = true) → (Lit.int .u64 a1).wf = true → a2.size ≤ 140737488351232 → l3.length ≤ maxLen → l3.length * 1 ≤ 140737488351232 → (∀ x ∈ l3, (Lit.int .u8 x).wf = true) → l0.length + a2.size + l3.length ≤ 1048576 → ∃ k, scruplelaw01_NumBack.f k l0 a1 a2 l3 = some true
theorem scruplelaw01_NumBack.walkUp (P : scruplelaw01_NumBack.PureUp) (a0 : Option Addr) (len0 cap0 : Nat) (z0 : List Int) (a1 : Int) (a2 : ByteArray) (a3 : Option Addr) (len3 cap3 : Nat) (z3 : List Int) (w : World) (w0 : (a0 = none ∧ len0 = 0 ∧ cap0 = 0 ∧ z0 = []) ∨ ∃ x, a0 = some x ∧ len0 ≤ cap0 ∧ cap0 ≤ maxLen ∧ z0.length = cap0 ∧ (∀ i, i < z0.length → w.cell? (x.add i) = some (.int .u8 (z0.getD i 0))) ∧ ∀ n ∈ z0, (Lit.int .u8 n).wf = true) (y0 : len0 * 1 ≤ 140737488351232) (w1 : (Lit.int .u64 a1).wf = true) (w2 : a2.size ≤ 140737488351232) (w3 : (a3 = none ∧ len3 = 0 ∧ cap3 = 0 ∧ z3 = []) ∨ ∃ x, a3 = some x ∧ len3 ≤ cap3 ∧ cap3 ≤ maxLen ∧ z3.length = cap3 ∧ (∀ i, i < z3.length → w.cell? (x.add i) = some (.int .u8 (z3.getD i 0))) ∧ ∀ n ∈ z3, (Lit.int .u8 n).wf = true) (y3 : len3 * 1 ≤ 140737488351232) (hB : len0 + a2.size + len3 ≤ 1048576) :
    Calls Try.prog 8 #[.slice a0 len0 cap0, .int .u64 a1, .string a2, .slice a3 len3 cap3] w fun e w' => e = .returned (.bool true) ∧ Below w.heap.size w w' := by
  obtain ⟨l0, rfl, hr0, hm0, hw0, hc0⟩ := ReadsInt.ofRowC w0
  obtain ⟨l3, rfl, hr3, hm3, hw3, hc3⟩ := ReadsInt.ofRowC w3
  obtain ⟨k, h⟩ := P l0 a1 a2 l3 hm0 y0 hw0 w1 w2 hm3 y3 hw3 hB
  refine (scruplelaw01_NumBack.calls k _ _ l0 a1 a2 _ _ l3 true w rfl (Kd.C_of_reads (d := (0 : Int)) (h1 := fun _ => rfl) hr0) hc0 (Kd.C_of_reads (d := (0 : Int)) (h1 := fun _ => rfl) hr3) hc3 h).mono ?_
  rintro e w' ⟨rfl, hd⟩
  exact ⟨rfl, hd⟩

end Go.Proofs.Ytainfemokjjipaa.X
