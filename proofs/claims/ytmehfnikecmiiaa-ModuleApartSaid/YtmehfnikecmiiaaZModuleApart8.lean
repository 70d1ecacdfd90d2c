/- Texts of the claim of ModuleApart, one behind the other; what nothing names is left out. -/
import Derived.Test.YtmehfnikecmiiaaZModuleApart3
import Derived.Test.YtmehfnikecmiiaaZModuleApart5
set_option linter.unusedVariables false
set_option linter.unusedSimpArgs false
-- Written by a program of this session (wip/xprint.py) out of the translation's print; Lean checks it.
namespace Go.Proofs.Ytmehfnikecmiiaa.X
open Go.RowKit Go.Proofs.YtmehfnikecmiiaaW.PrintWords Go.Proofs.YtmehfnikecmiiaaW.PrintLast Go.Proofs.YtmehfnikecmiiaaW.PrintMore Go.Proofs.YtmehfnikecmiiaaW
attribute [local go_sem] max2_int min2_int max_two min_two max_three min_three max_four min_four   -- for this text's walks alone
/-! ### num_PutInt: function 82 -/
def num_PutInt.f (k : Nat) (l0 : List Int) (a1 : Int) : Option (List Int) := (num_PutUint.f k l0 (IntKind.u64.wrap (Go.bits .xor .i64 (wrap64 (a1 * 2)) (a1 / 9223372036854775808)))).bind fun t131 => (some t131)
theorem num_PutInt.mono : ∀ a0 a1 k, LeO (num_PutInt.f k a0 a1) (num_PutInt.f (k + 1) a0 a1) := by
  intro a0 a1 k
  unfold num_PutInt.f
  repeat' first
      | (with_reducible exact num_PutUint.mono _ _ _)
      | (with_reducible exact LeO.refl _)
      | (with_reducible exact LeO.none _)
      | (with_reducible refine LeO.ite ?_ ?_)
      | (with_reducible refine LeO.bind ?_ (fun _ => ?_))
      | exact num_PutUint.mono _ _ _
      | exact LeO.none _
      | refine LeO.ite ?_ ?_
      | refine LeO.bind ?_ (fun _ => ?_)
set_option maxHeartbeats 8000000 in
set_option maxRecDepth 100000 in
theorem num_PutInt.calls (k : Nat) (A0 : Option Addr) (c0 : Nat) (l0 : List Int) (a1 : Int) (r : List Int) (w : World) (hr0 : Kd.C (Kd.int .u8) w A0 l0.length l0) (hc0 : l0.length ≤ c0) (h : num_PutInt.f k l0 a1 = some r) :
    Calls Try.prog 82 #[.slice A0 l0.length c0, .int .i64 a1] w fun e w' => ∃ v0_ : Value, e = .returned (v0_) ∧ Kd.R (Kd.int .u8) 5 w' w.heap.size (fun _ => True) v0_ r ∧ Below w.heap.size w w' := by
  have HR0 := Aside0.mk hr0
  have HC0 := Aside0.mk hc0
  clear hr0 hc0
  have HB := Aside0.mk (Below.refl w.heap.size w)
  have H : ((num_PutUint.f k l0 (IntKind.u64.wrap (Go.bits .xor .i64 (wrap64 (a1 * 2)) (a1 / 9223372036854775808)))).bind fun t131 => (some t131)) = some r := h
  clear h
  replace H := Option.bind_eq_some_iff.mp H
  obtain ⟨t131, A30, H⟩ := H
  replace H : (some t131) = some r := H
  have A3 := Aside0.mk A30
  clear A30
  obtain rfl := Option.some.inj H
  simp only [Option.some.injEq, Prod.mk.injEq] at H
  obtain ⟨rfl⟩ := H
  go_enter Try.func82, Try.ntmps82
  go_wp2_with (first | ((with_reducible refine gate_callee (f := 49) rfl ?_); refine goesL_ (some 12) rfl rfl Try.func49 (by kernel_rfl) rfl #[.slice A0 l0.length c0, .int .u64 (IntKind.u64.wrap (Go.bits .xor .i64 (wrap64 (a1 * 2)) (a1 / 9223372036854775808)))] rfl (by (try simp only [List.map_toArray, List.map_cons, List.map_nil]); first | done | rfl | (simp only [List.length_drop, List.length_take]; rfl)) ?_; (with_reducible refine (num_PutUint.calls k _ _ l0 (IntKind.u64.wrap (Go.bits .xor .i64 (wrap64 (a1 * 2)) (a1 / 9223372036854775808))) t131 _ ?side1 ?side2 A3.out).mono ?_); (case side1 => repeat (first | exact HR0.out | (with_reducible refine Kd.C_alloc ?_ _) | (with_reducible refine Kd.C_drewN ?_ _) | (with_reducible refine Kd.C_drew ?_))); (case side2 => exact HC0.out); rintro e w4 ⟨v132, rfl, ho0, hb⟩; refine ⟨_, rfl, ?_⟩; have n0_ := Aside0.mk (Kd.R_lower ho0 (below_size (by repeat (first | (with_reducible first | exact HB.out | apply below_alloc | apply pw_below_drewN | apply below_drew1) | exact HB.out)))); have n1_ := Aside0.mk (below_step (by repeat (first | (with_reducible first | exact HB.out | apply below_alloc | apply pw_below_drewN | apply below_drew1) | exact HB.out)) hb); clear HB; have HO133 := n0_; have HB := n1_; clear n0_ n1_; (try clear hb); (try clear hb2); (try clear hk); (try clear hi); (try clear ho0)))
  go_ret
  exact ⟨_, by first | rfl | (simp [errW_none, errW_some] <;> rfl) | (simp [*, errW_none, errW_some] <;> rfl), by (with_reducible repeat (first | apply Kd.R_alloc | apply Kd.R_drewN | apply Kd.R_drew)); exact HO133.out, by repeat (first | (with_reducible first | exact HB.out | apply below_alloc | apply pw_below_drewN | apply below_drew1) | exact HB.out)⟩
end Go.Proofs.Ytmehfnikecmiiaa.X
