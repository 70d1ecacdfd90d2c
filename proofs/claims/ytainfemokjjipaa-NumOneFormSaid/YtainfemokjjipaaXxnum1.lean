-- Written by a program of this session (wip/xprint.py) out of the translation's print; Lean checks it.
import Derived.Test.YtainfemokjjipaaXx0
import Derived.Test.YtainfemokjjipaaXxnum0
namespace Go.Proofs.Ytainfemokjjipaa.X
open Go.RowKit Go.Proofs.YtainfemokjjipaaW.PrintWords Go.Proofs.YtainfemokjjipaaW.PrintLast Go.Proofs.YtainfemokjjipaaW.PrintMore Go.Proofs.YtainfemokjjipaaW
attribute [local go_sem] max2_int min2_int max_two min_two max_three min_three max_four min_four   -- for this text's walks alone
set_option linter.unusedVariables false
set_option linter.unusedSimpArgs false

/-! ### num_PutInt: function 14 -/
def num_PutInt.f (k : Nat) (l0 : List Int) (a1 : Int) : Option (List Int) := (num_PutUint.f k l0 (IntKind.u64.wrap (Go.bits .xor .i64 (wrap64 (a1 * 2)) (a1 / 9223372036854775808)))).bind fun t153 => (some t153)
theorem num_PutInt.mono : ∀ a0 a1 k, LeO (num_PutInt.f k a0 a1) (num_PutInt.f (k + 1) a0 a1) := by
  intro a0 a1 k
  unfold num_PutInt.f
  repeat' first
      | (with_reducible exact num_PutUint.mono _ _ _)
      | (with_reducible exact LeO.refl _)
      | (with_reducible exact LeO.none _)
      | (with_reducible refine LeO.ite ?_ ?_)
      | (with_reducible refine LeO.bind ?_ (fun _ => ?_))
      | exact num_PutUint.mono _ _ _
      | exact LeO.none _
      | refine LeO.ite ?_ ?_
      | refine LeO.bind ?_ (fun _ => ?_)
set_option maxHeartbeats 8000000 in
set_option maxRecDepth 100000 in
theorem num_PutInt.calls (k : Nat) (A0 : Option Addr) (c0 : Nat) (l0 : List Int) (a1 : Int) (r : List Int) (w : World) (hr0 : Kd.C (Kd.int .u8) w A0 l0.length l0) (hc0 : l0.length ≤ c0) (h : num_PutInt.f k l0 a1 = some r) :
    Calls Try.prog 14 #[.slice A0 l0.length c0, .int .i64 a1] w fun e w' => ∃ v0_ : Value, e = .returned (v0_) ∧ Kd.R (Kd.int .u8) 5 w' w.heap.size (fun _ => True) v0_ r ∧ Below w.heap.size w w' := by
  have HR0 := Aside0.mk hr0
  have HC0 := Aside0.mk hc0
  clear hr0 hc0
  have HB := Aside0.mk (Below.refl w.heap.size w)
  have H : ((num_PutUint.f k l0 (IntKind.u64.wrap (Go.bits .xor .i64 (wrap64 (a1 * 2)) (a1 / 9223372036854775808)))).bind fun t153 => (some t153)) = some r := h
  clear h
  replace H := Option.bind_eq_some_iff.mp H
  obtain ⟨t153, A30, H⟩ := H
  replace H : (some t153) = some r := H
  have A3 := Aside0.mk A30
  clear A30
  obtain rfl := Option.some.inj H
  simp only [Option.some.injEq, Prod.mk.injEq] at H
  obtain ⟨rfl⟩ := H
  go_enter Try.func14, Try.ntmps14
  go_wp2_with (first | ((with_reducible refine gate_callee (f := 12) rfl ?_); refine goesL_ (some 12) rfl rfl Try.func12 (by kernel_rfl) rfl #[.slice A0 l0.length c0, .int .u64 (IntKind.u64.wrap (Go.bits .xor .i64 (wrap64 (a1 * 2)) (a1 / 9223372036854775808)))] rfl (by (try simp only [List.map_toArray, List.map_cons, List.map_nil]); first | done | rfl | (simp only [List.length_drop, List.length_take]; rfl)) ?_; (with_reducible refine (num_PutUint.calls k _ _ l0 (IntKind.u64.wrap (Go.bits .xor .i64 (wrap64 (a1 * 2)) (a1 / 9223372036854775808))) t153 _ ?side1 ?side2 A3.out).mono ?_); (case side1 => repeat (first | exact HR0.out | (with_reducible refine Kd.C_alloc ?_ _) | (with_reducible refine Kd.C_drewN ?_ _) | (with_reducible refine Kd.C_drew ?_))); (case side2 => exact HC0.out); rintro e w4 ⟨v154, rfl, ho0, hb⟩; refine ⟨_, rfl, ?_⟩; have n0_ := Aside0.mk (Kd.R_lower ho0 (below_size (by repeat (first | (with_reducible first | exact HB.out | apply below_alloc | apply pw_below_drewN | apply below_drew1) | exact HB.out)))); have n1_ := Aside0.mk (below_step (by repeat (first | (with_reducible first | exact HB.out | apply below_alloc | apply pw_below_drewN | apply below_drew1) | exact HB.out)) hb); clear HB; have HO155 := n0_; have HB := n1_; clear n0_ n1_; (try clear hb); (try clear hb2); (try clear hk); (try clear hi); (try clear ho0)))
  go_ret
  exact ⟨_, by first | rfl | (simp [errW_none, errW_some] <;> rfl) | (simp [*, errW_none, errW_some] <;> rfl), by (with_reducible repeat (first | apply Kd.R_alloc | apply Kd.R_drewN | apply Kd.R_drew)); exact HO155.out, by repeat (first | (with_reducible first | exact HB.out | apply below_alloc | apply pw_below_drewN | apply below_drew1) | exact HB.out)⟩

/-! ### num_PutText: function 15 -/
def num_PutText.f (k : Nat) (l0 : List Int) (a1 : ByteArray) : Option (List Int) := (num_PutUint.f k l0 (IntKind.u64.wrap ((a1.size : Int)))).bind fun t156 => (if t156.length + a1.size < 140737488355328 then (some (t156 ++ bytesOf a1)) else (none))
theorem num_PutText.mono : ∀ a0 a1 k, LeO (num_PutText.f k a0 a1) (num_PutText.f (k + 1) a0 a1) := by
  intro a0 a1 k
  unfold num_PutText.f
  repeat' first
      | (with_reducible exact num_PutUint.mono _ _ _)
      | (with_reducible exact LeO.refl _)
      | (with_reducible exact LeO.none _)
      | (with_reducible refine LeO.ite ?_ ?_)
      | (with_reducible refine LeO.bind ?_ (fun _ => ?_))
      | exact num_PutUint.mono _ _ _
      | exact LeO.none _
      | refine LeO.ite ?_ ?_
      | refine LeO.bind ?_ (fun _ => ?_)
set_option maxHeartbeats 8000000 in
set_option maxRecDepth 100000 in
theorem num_PutText.calls (k : Nat) (A0 : Option Addr) (c0 : Nat) (l0 : List Int) (a1 : ByteArray) (r : List Int) (w : World) (hr0 : Kd.C (Kd.int .u8) w A0 l0.length l0) (hc0 : l0.length ≤ c0) (h : num_PutText.f k l0 a1 = some r) :
    Calls Try.prog 15 #[.slice A0 l0.length c0, .string a1] w fun e w' => ∃ v0_ : Value, e = .returned (v0_) ∧ Kd.R (Kd.int .u8) 5 w' w.heap.size (fun _ => True) v0_ r ∧ Below w.heap.size w w' := by
  have HR0 := Aside0.mk hr0
  have HC0 := Aside0.mk hc0
  clear hr0 hc0
  have HB := Aside0.mk (Below.refl w.heap.size w)
  have H : ((num_PutUint.f k l0 (IntKind.u64.wrap ((a1.size : Int)))).bind fun t156 => (if t156.length + a1.size < 140737488355328 then (some (t156 ++ bytesOf a1)) else (none))) = some r := h
  clear h
  replace H := Option.bind_eq_some_iff.mp H
  obtain ⟨t156, A30, H⟩ := H
  replace H : (if t156.length + a1.size < 140737488355328 then (some (t156 ++ bytesOf a1)) else (none)) = some r := H
  have A3 := Aside0.mk A30
  clear A30
  by_cases c4 : t156.length + a1.size < 140737488355328
  · rw [if_pos c4] at H
    have LMc4 := Aside0.mk c4
    clear c4
    obtain ⟨y159, hy159⟩ : ∃ y_ : List Int, y_ = (t156 ++ bytesOf a1) := ⟨_, rfl⟩
    replace H : (some y159) = some r := by first | (rw [hy159]; with_reducible exact H) | (have H2_ := (Option.bind_some _ _).symm.trans H; rw [hy159]; with_reducible exact H2_) | (have H2_ := (Option.bind_some _ _).symm.trans H; with_reducible exact H2_) | with_reducible exact H | (rw [hy159]; exact H) | exact H
    have Ny159 := Aside0.mk hy159
    clear hy159
    obtain rfl := Option.some.inj H
    simp only [Option.some.injEq, Prod.mk.injEq] at H
    obtain ⟨rfl⟩ := H
    go_enter Try.func15, Try.ntmps15
    go_wp2_with (first | ((with_reducible refine gate_callee (f := 12) rfl ?_); refine goesL_ (some 9) rfl rfl Try.func12 (by kernel_rfl) rfl #[.slice A0 l0.length c0, .int .u64 (IntKind.u64.wrap ((a1.size : Int)))] rfl (by (try simp only [List.map_toArray, List.map_cons, List.map_nil]); first | done | rfl | (simp only [List.length_drop, List.length_take]; rfl)) ?_; (with_reducible refine (num_PutUint.calls k _ _ l0 (IntKind.u64.wrap ((a1.size : Int))) t156 _ ?side1 ?side2 A3.out).mono ?_); (case side1 => repeat (first | exact HR0.out | (with_reducible refine Kd.C_alloc ?_ _) | (with_reducible refine Kd.C_drewN ?_ _) | (with_reducible refine Kd.C_drew ?_))); (case side2 => exact HC0.out); rintro e w5 ⟨v157, rfl, ho0, hb⟩; refine ⟨_, rfl, ?_⟩; have n0_ := Aside0.mk (Kd.R_lower ho0 (below_size (by repeat (first | (with_reducible first | exact HB.out | apply below_alloc | apply pw_below_drewN | apply below_drew1) | exact HB.out)))); have n1_ := Aside0.mk (below_step (by repeat (first | (with_reducible first | exact HB.out | apply below_alloc | apply pw_below_drewN | apply below_drew1) | exact HB.out)) hb); clear HB; have HO158 := n0_; have HB := n1_; clear n0_ n1_; (try clear hb); (try clear hb2); (try clear hk); (try clear hi); (try clear ho0)) | (at_builtin; refine print_append_str (w0 := w) w.heap.size rfl (.tmp 9) _ 29 9 5 rfl Try.underlying29 Try.underlying9 info5 v157 t156 a1 rfl rfl ?aO ?aB ?aS ?aL ?_; (case aB => exact (by repeat (first | (with_reducible first | exact HB.out | apply below_alloc | apply pw_below_drewN | apply below_drew1) | exact HB.out))); (case aO => exact (Kd.own_of_R (by (with_reducible repeat (first | apply Kd.R_alloc | apply Kd.R_drewN | apply Kd.R_drew)); exact HO158.out))); (case aS => exact (below_size (by repeat (first | (with_reducible first | exact HB.out | apply below_alloc | apply pw_below_drewN | apply below_drew1) | exact HB.out)))); (case aL => have := LMc4.out; omega); intro v160 w6 ho0 hb hg; have ho := Kd.R_of_own (h1 := fun _ => rfl) (ok := fun _ => True) ho0 (fun _ _ => trivial); clear ho0; have hat := True.intro; rw [← Ny159.out] at ho; change Kd.R (Kd.int .u8) 5 w6 w.heap.size (fun _ => True) v160 y159 at ho; have n0_ := Aside0.mk (hb); have n1_ := Aside0.mk (ho); clear HB; clear HO158; have HB := n0_; have HO161 := n1_; clear n0_ n1_; clear ho hb hg hat))
    go_ret
    exact ⟨_, by first | rfl | (simp [errW_none, errW_some] <;> rfl) | (simp [*, errW_none, errW_some] <;> rfl), by (with_reducible repeat (first | apply Kd.R_alloc | apply Kd.R_drewN | apply Kd.R_drew)); exact HO161.out, by repeat (first | (with_reducible first | exact HB.out | apply below_alloc | apply pw_below_drewN | apply below_drew1) | exact HB.out)⟩
  · rw [if_neg c4] at H
    exact absurd H (by simp)

/-! ### num_Int: function 22 -/
def num_Int.f (k : Nat) (l0 : List Int) (a1 : Int) : Option (Int × Int × Int) := (num_Uint.f k l0 a1).bind fun bt237 => (some (Go.bits .xor .i64 (wrap64 (bt237.1 / 2)) (wrap64 (-(wrap64 (Go.bits .and .u64 bt237.1 1)))), bt237.2.1, bt237.2.2))
theorem num_Int.mono : ∀ a0 a1 k, LeO (num_Int.f k a0 a1) (num_Int.f (k + 1) a0 a1) := by
  intro a0 a1 k
  unfold num_Int.f
  repeat' first
      | (with_reducible exact num_Uint.mono _ _ _)
      | (with_reducible exact LeO.refl _)
      | (with_reducible exact LeO.none _)
      | (with_reducible refine LeO.ite ?_ ?_)
      | (with_reducible refine LeO.bind ?_ (fun _ => ?_))
      | exact num_Uint.mono _ _ _
      | exact LeO.none _
      | refine LeO.ite ?_ ?_
      | refine LeO.bind ?_ (fun _ => ?_)
set_option maxHeartbeats 8000000 in
set_option maxRecDepth 100000 in
theorem num_Int.calls (k : Nat) (A0 : Option Addr) (c0 : Nat) (l0 : List Int) (a1 : Int) (r1 : Int) (r2 : Int) (r3 : Int) (w : World) (hr0 : Kd.C (Kd.int .u8) w A0 l0.length l0) (hc0 : l0.length ≤ c0) (h : num_Int.f k l0 a1 = some (r1, r2, r3)) :
    Calls Try.prog 22 #[.slice A0 l0.length c0, .int .i64 a1] w fun e w' => e = .returned (.tuple #[.int .i64 r1, .int .i64 r2, .int .i64 r3]) ∧ Drawn0 w w' := by
  have HR0 := Aside0.mk hr0
  have HC0 := Aside0.mk hc0
  clear hr0 hc0
  have H : ((num_Uint.f k l0 a1).bind fun bt237 => (some (Go.bits .xor .i64 (wrap64 (bt237.1 / 2)) (wrap64 (-(wrap64 (Go.bits .and .u64 bt237.1 1)))), bt237.2.1, bt237.2.2))) = some (r1, r2, r3) := h
  clear h
  replace H := Option.bind_eq_some_iff.mp H
  obtain ⟨⟨t237, t238, t239⟩, A30, H⟩ := H
  replace H : (some (Go.bits .xor .i64 (wrap64 (t237 / 2)) (wrap64 (-(wrap64 (Go.bits .and .u64 t237 1)))), t238, t239)) = some (r1, r2, r3) := H
  have A3 := Aside0.mk A30
  clear A30
  simp only [Option.some.injEq, Prod.mk.injEq] at H
  obtain ⟨rfl, rfl, rfl⟩ := H
  go_enter Try.func22, Try.ntmps22
  go_wp2_with (first | ((with_reducible refine gate_callee (f := 20) rfl ?_); refine goesL_ (some 13) rfl rfl Try.func20 (by kernel_rfl) rfl #[.slice A0 l0.length c0, .int .i64 a1] rfl (by (try simp only [List.map_toArray, List.map_cons, List.map_nil]); first | done | rfl | (simp only [List.length_drop, List.length_take]; rfl)) ?_; (with_reducible refine (num_Uint.calls k _ _ l0 a1 t237 t238 t239 _ ?side1 ?side2 A3.out).mono ?_); (case side1 => repeat (first | exact HR0.out | (with_reducible refine Kd.C_alloc ?_ _) | (with_reducible refine Kd.C_drewN ?_ _) | (with_reducible refine Kd.C_drew ?_))); (case side2 => exact HC0.out); rintro e w' ⟨rfl, ⟨nd, rfl⟩⟩; refine ⟨_, rfl, ?_⟩))
  go_ret3
  exact ⟨by first | rfl | (simp; done) | (simp [*]; done), by repeat (first | exact Drawn0.refl _ | apply Drawn0.step)⟩

/-! ### num_Text: function 24 -/
def num_Text.j0 : Nat → List Int → Int → Int → Bool → Option (ByteArray × Int × Int)
  | 0, _, _, _, _ => none
  | k + 1, x0, x9, x10, x24 => if x24 = true then (some ((⟨#[]⟩ : ByteArray), 0, 13)) else (if x9 > (IntKind.u64.wrap (wrap64 ((x0.length : Int) - x10))) then (some ((⟨#[]⟩ : ByteArray), 0, 11)) else (if 0 ≤ x10 then (if x10 ≤ (wrap64 (x10 + (wrap64 (x9)))) then (if (wrap64 (x10 + (wrap64 (x9)))) ≤ (x0.length : Int) then (some (strOfNums ((x0.take ((wrap64 (x10 + (wrap64 (x9)))) : Int).toNat).drop (x10 : Int).toNat), wrap64 (x10 + (wrap64 (x9))), 0)) else (none)) else (none)) else (none)))
def num_Text.f (k : Nat) (l0 : List Int) (a1 : Int) (a2 : Int) : Option (ByteArray × Int × Int) := (num_Uint.f k l0 a1).bind fun bt243 => (if bt243.2.2 = 0 then (if a2 < 0 then (num_Text.j0 k l0 bt243.1 bt243.2.1 true) else (num_Text.j0 k l0 bt243.1 bt243.2.1 (decide (bt243.1 > (IntKind.u64.wrap (a2)))))) else (some ((⟨#[]⟩ : ByteArray), 0, bt243.2.2)))
theorem num_Text.mono_l : ∀ k, (∀ y0 y1 y2 y3, LeO (num_Text.j0 k y0 y1 y2 y3) (num_Text.j0 (k + 1) y0 y1 y2 y3))
  | 0 => fun _ _ _ _ r h => by simp [num_Text.j0] at h
  | k + 1 => by
    have ih0 := num_Text.mono_l k
    · intro y0 y1 y2 y3
      unfold num_Text.j0
      repeat' first
      | (with_reducible exact ih0 _ _ _ _)
      | (with_reducible exact num_Uint.mono _ _ _)
      | (with_reducible exact LeO.refl _)
      | (with_reducible exact LeO.none _)
      | (with_reducible refine LeO.ite ?_ ?_)
      | (with_reducible refine LeO.bind ?_ (fun _ => ?_))
      | exact ih0 _ _ _ _
      | exact num_Uint.mono _ _ _
      | exact LeO.none _
      | refine LeO.ite ?_ ?_
      | refine LeO.bind ?_ (fun _ => ?_)
theorem num_Text.mono : ∀ a0 a1 a2 k, LeO (num_Text.f k a0 a1 a2) (num_Text.f (k + 1) a0 a1 a2) := by
  intro a0 a1 a2 k
  have ih0 := num_Text.mono_l k
  unfold num_Text.f
  repeat' first
      | (with_reducible exact ih0 _ _ _ _)
      | (with_reducible exact num_Uint.mono _ _ _)
      | (with_reducible exact LeO.refl _)
      | (with_reducible exact LeO.none _)
      | (with_reducible refine LeO.ite ?_ ?_)
      | (with_reducible refine LeO.bind ?_ (fun _ => ?_))
      | exact ih0 _ _ _ _
      | exact num_Uint.mono _ _ _
      | exact LeO.none _
      | refine LeO.ite ?_ ?_
      | refine LeO.bind ?_ (fun _ => ?_)
set_option maxHeartbeats 8000000 in
set_option maxRecDepth 100000 in
theorem num_Text.calls (k : Nat) (A0 : Option Addr) (c0 : Nat) (l0 : List Int) (a1 : Int) (a2 : Int) (r1 : ByteArray) (r2 : Int) (r3 : Int) (w : World) (hr0 : Kd.C (Kd.int .u8) w A0 l0.length l0) (hc0 : l0.length ≤ c0) (h : num_Text.f k l0 a1 a2 = some (r1, r2, r3)) :
    Calls Try.prog 24 #[.slice A0 l0.length c0, .int .i64 a1, .int .i64 a2] w fun e w' => e = .returned (.tuple #[.string r1, .int .i64 r2, .int .i64 r3]) ∧ Drawn0 w w' := by
  have HR0 := Aside0.mk hr0
  have HC0 := Aside0.mk hc0
  clear hr0 hc0
  have H : ((num_Uint.f k l0 a1).bind fun bt243 => (if bt243.2.2 = 0 then (if a2 < 0 then (num_Text.j0 k l0 bt243.1 bt243.2.1 true) else (num_Text.j0 k l0 bt243.1 bt243.2.1 (decide (bt243.1 > (IntKind.u64.wrap (a2)))))) else (some ((⟨#[]⟩ : ByteArray), 0, bt243.2.2)))) = some (r1, r2, r3) := h
  clear h
  replace H := Option.bind_eq_some_iff.mp H
  obtain ⟨⟨t243, t244, t245⟩, A40, H⟩ := H
  replace H : (if t245 = 0 then (if a2 < 0 then (num_Text.j0 k l0 t243 t244 true) else (num_Text.j0 k l0 t243 t244 (decide (t243 > (IntKind.u64.wrap (a2)))))) else (some ((⟨#[]⟩ : ByteArray), 0, t245))) = some (r1, r2, r3) := H
  have A4 := Aside0.mk A40
  clear A40
  by_cases c5 : t245 = 0
  · rw [if_pos c5] at H
    have c5b0 : (t245 == 0) = true := beq_iff_eq.mpr c5
    have c5b1 : (t245 != 0) = false := bne_eq_false_iff_eq.mpr c5
    clear c5
    have HC6 := Aside0.mk H
    clear H
    go_enter Try.func24, Try.ntmps24
    go_upto_region 4 with (first | ((with_reducible refine gate_callee (f := 20) rfl ?_); refine goesL_ (some 16) rfl rfl Try.func20 (by kernel_rfl) rfl #[.slice A0 l0.length c0, .int .i64 a1] rfl (by (try simp only [List.map_toArray, List.map_cons, List.map_nil]); first | done | rfl | (simp only [List.length_drop, List.length_take]; rfl)) ?_; (with_reducible refine (num_Uint.calls k _ _ l0 a1 t243 t244 t245 _ ?side1 ?side2 A4.out).mono ?_); (case side1 => repeat (first | exact HR0.out | (with_reducible refine Kd.C_alloc ?_ _) | (with_reducible refine Kd.C_drewN ?_ _) | (with_reducible refine Kd.C_drew ?_))); (case side2 => exact HC0.out); rintro e w' ⟨rfl, ⟨nd, rfl⟩⟩; refine ⟨_, rfl, ?_⟩))
    (try simp only [Act.put, List.setIfInBounds_toArray, List.set_cons_zero, List.set_cons_succ])
    go_cut [24] (fun v24 wc => ∃ (kq : Nat) (x24_5 : Bool), v24 = .bool x24_5 ∧ Aside0 (num_Text.j0 kq l0 t243 t244 x24_5 = some (r1, r2, r3)) ∧ Aside0 (kq ≤ k) ∧ Drawn0 w wc)
    case first =>
      have H := HC6.out
      clear HC6
      by_cases c7 : a2 < 0
      · rw [if_pos c7] at H
        have c7b0 : decide (a2 < 0) = true := decide_eq_true c7
        clear c7
        (first | rw [c7b0] | (simp only [i64_w, i32_w]; rw [c7b0]) | skip)
        have H' := Aside0.mk H
        clear H
        go_wp2
        go_meet
        case rel => exact ⟨_, (true), (by first | rfl | (simp; done) | (simp [*]; done)), H', ⟨by first | omega | exact Nat.le_refl _⟩, by repeat (first | exact Drawn0.refl _ | apply Drawn0.step)⟩
      · rw [if_neg c7] at H
        have c7b0 : decide (a2 < 0) = false := decide_eq_false c7
        clear c7
        (first | rw [c7b0] | (simp only [i64_w, i32_w]; rw [c7b0]) | skip)
        have H' := Aside0.mk H
        clear H
        go_wp2
        go_meet
        case rel => exact ⟨_, (decide (t243 > (IntKind.u64.wrap (a2)))), (by first | rfl | (simp; done) | (simp [*]; done)), H', ⟨by first | omega | exact Nat.le_refl _⟩, by repeat (first | exact Drawn0.refl _ | apply Drawn0.step)⟩
    case rest =>
      clear HC6
      try clear c2
      try clear p2
      try clear c5
      try clear c5b0
      try clear c5b1
      try clear c7
      try clear c7b0
      obtain ⟨kq, x24_5, rfl, HA, HJ5, ⟨mc5, rfl⟩⟩ := hcut
      cases kq with
      | zero => exact absurd HA.out (by simp [num_Text.j0])
      | succ kj5 =>
        have H := HA.out
        clear HA
        simp only [num_Text.j0] at H
        by_cases c8 : x24_5 = true
        · subst c8
          have H1 : (some ((⟨#[]⟩ : ByteArray), 0, 13)) = some (r1, r2, r3) := by rw [if_pos rfl] at H; exact H
          clear H
          have H := H1
          clear H1
          simp only [Option.some.injEq, Prod.mk.injEq] at H
          obtain ⟨rfl, rfl, rfl⟩ := H
          go_wp2
          go_ret3
          exact ⟨by first | rfl | (simp; done) | (simp [*]; done), by repeat (first | exact Drawn0.refl _ | apply Drawn0.step)⟩
        · replace c8 := Bool.eq_false_iff.mpr c8
          subst c8
          have H1 : (if t243 > (IntKind.u64.wrap (wrap64 ((l0.length : Int) - t244))) then (some ((⟨#[]⟩ : ByteArray), 0, 11)) else (if 0 ≤ t244 then (if t244 ≤ (wrap64 (t244 + (wrap64 (t243)))) then (if (wrap64 (t244 + (wrap64 (t243)))) ≤ (l0.length : Int) then (some (strOfNums ((l0.take ((wrap64 (t244 + (wrap64 (t243)))) : Int).toNat).drop (t244 : Int).toNat), wrap64 (t244 + (wrap64 (t243))), 0)) else (none)) else (none)) else (none))) = some (r1, r2, r3) := by rw [if_neg (show ¬ (false = true) by decide)] at H; exact H
          clear H
          have H := H1
          clear H1
          by_cases c9 : t243 > (IntKind.u64.wrap (wrap64 ((l0.length : Int) - t244)))
          · rw [if_pos c9] at H
            have c9b0 : decide ((IntKind.u64.wrap (wrap64 ((l0.length : Int) - t244))) < t243) = true := decide_eq_true c9
            clear c9
            simp only [Option.some.injEq, Prod.mk.injEq] at H
            obtain ⟨rfl, rfl, rfl⟩ := H
            go_wp2
            go_ret3
            exact ⟨by first | rfl | (simp; done) | (simp [*]; done), by repeat (first | exact Drawn0.refl _ | apply Drawn0.step)⟩
          · rw [if_neg c9] at H
            have c9b0 : decide ((IntKind.u64.wrap (wrap64 ((l0.length : Int) - t244))) < t243) = false := decide_eq_false c9
            clear c9
            by_cases c10 : 0 ≤ t244
            · rw [if_pos c10] at H
              have c10b0 := eq_true c10
              have c10b1 : decide (0 ≤ t244) = true := decide_eq_true c10
              clear c10
              by_cases c11 : t244 ≤ (wrap64 (t244 + (wrap64 (t243))))
              · rw [if_pos c11] at H
                have c11b0 := eq_true c11
                have c11b1 : decide (t244 ≤ (wrap64 (t244 + (wrap64 (t243))))) = true := decide_eq_true c11
                by_cases c12 : (wrap64 (t244 + (wrap64 (t243)))) ≤ (l0.length : Int)
                · rw [if_pos c12] at H
                  have c12b0 := eq_true c12
                  have c12b1 : decide ((wrap64 (t244 + (wrap64 (t243)))) ≤ (l0.length : Int)) = true := decide_eq_true c12
                  simp only [Option.some.injEq, Prod.mk.injEq] at H
                  obtain ⟨rfl, rfl, rfl⟩ := H
                  obtain ⟨i013, hi013, _, hsz13, _⟩ := info_parts info5
                  obtain ⟨A13, hcut13, hA13, hC13⟩ := print_mid_of (P := Try.prog) (Value.int .u8) 0 29 5 .i64 .i64 Try.underlying29 hi013 hsz13 A0 c0 l0 t244 (wrap64 (t244 + (wrap64 (t243)))) (of_decide_eq_true (by first | (with_reducible assumption) | assumption)) (by first | omega | exact of_decide_eq_true (by first | (with_reducible assumption) | assumption)) (of_decide_eq_true (by first | (with_reducible assumption) | assumption)) HC0.out
                  have HR246 := Aside0.mk (Kd.C_of_reads (h1 := fun _ => rfl) (hA13 _ (Kd.reads_of_C HR0.out)))
                  have HC246 := Aside0.mk hC13
                  clear hA13 hC13 hi013 hsz13
                  have hcv14 := Kd.C_string (P := Try.prog) (A := A13) (c := (c0 - t244.toNat)) Try.underlying29 Try.underlying5 Try.underlying9 HR246.out
                  have hcw14 := fun (n_ : Nat) => Kd.C_string (P := Try.prog) (A := A13) (c := (c0 - t244.toNat)) Try.underlying29 Try.underlying5 Try.underlying9 (Kd.C_drewN HR246.out n_)
                  (try simp only [show ((l0.take ((wrap64 (t244 + (wrap64 (t243)))) : Int).toNat).drop (t244 : Int).toNat).length = ((wrap64 (t244 + (wrap64 (t243)))).toNat - t244.toNat) from (by rw [List.length_drop, List.length_take]; have h_ : ((wrap64 (t244 + (wrap64 (t243)))) : Int) ≤ (l0.length : Int) := of_decide_eq_true (by first | (with_reducible assumption) | assumption); omega)] at hcv14)
                  (try simp only [show ((l0.take ((wrap64 (t244 + (wrap64 (t243)))) : Int).toNat).drop (t244 : Int).toNat).length = ((wrap64 (t244 + (wrap64 (t243)))).toNat - t244.toNat) from (by rw [List.length_drop, List.length_take]; have h_ : ((wrap64 (t244 + (wrap64 (t243)))) : Int) ≤ (l0.length : Int) := of_decide_eq_true (by first | (with_reducible assumption) | assumption); omega)] at hcw14)
                  go_wp2
                  go_ret3
                  exact ⟨by first | rfl | (simp; done) | (simp [*]; done), by repeat (first | exact Drawn0.refl _ | apply Drawn0.step)⟩
                · rw [if_neg c12] at H
                  exact absurd H (by simp)
              · rw [if_neg c11] at H
                exact absurd H (by simp)
            · rw [if_neg c10] at H
              exact absurd H (by simp)
  · rw [if_neg c5] at H
    have c5b0 : (t245 == 0) = false := beq_eq_false_iff_ne.mpr c5
    have c5b1 : (t245 != 0) = true := bne_iff_ne.mpr c5
    simp only [Option.some.injEq, Prod.mk.injEq] at H
    obtain ⟨rfl, rfl, rfl⟩ := H
    go_enter Try.func24, Try.ntmps24
    go_wp2_with (first | ((with_reducible refine gate_callee (f := 20) rfl ?_); refine goesL_ (some 16) rfl rfl Try.func20 (by kernel_rfl) rfl #[.slice A0 l0.length c0, .int .i64 a1] rfl (by (try simp only [List.map_toArray, List.map_cons, List.map_nil]); first | done | rfl | (simp only [List.length_drop, List.length_take]; rfl)) ?_; (with_reducible refine (num_Uint.calls k _ _ l0 a1 t243 t244 t245 _ ?side1 ?side2 A4.out).mono ?_); (case side1 => repeat (first | exact HR0.out | (with_reducible refine Kd.C_alloc ?_ _) | (with_reducible refine Kd.C_drewN ?_ _) | (with_reducible refine Kd.C_drew ?_))); (case side2 => exact HC0.out); rintro e w' ⟨rfl, ⟨nd, rfl⟩⟩; refine ⟨_, rfl, ?_⟩))
    go_ret3
    exact ⟨by first | rfl | (simp; done) | (simp [*]; done), by repeat (first | exact Drawn0.refl _ | apply Drawn0.step)⟩

end Go.Proofs.Ytainfemokjjipaa.X
