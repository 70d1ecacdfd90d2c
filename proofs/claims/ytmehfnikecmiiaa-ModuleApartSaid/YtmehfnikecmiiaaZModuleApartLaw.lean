/- The statement ModuleApartSaid, out of the walk of the law. No condition. -/
import Derived.Test.YtmehfnikecmiiaaRows
import Derived.Test.YtmehfnikecmiiaaZModuleApart26
import Derived.Test.YtmehfnikecmiiaaZModuleApart25
import Derived.WalkKit
import Derived.ProofKit
import Derived.OpenShut
import Derived.ShutString
import Derived.ChangeOld
import Derived.Below
import Derived.SizedLaws
import Derived.Test.YtmehfnikecmiiaaZModuleApart22
import Derived.Test.YtmehfnikecmiiaaZModuleApart24
set_option linter.unusedVariables false
set_option linter.unusedSimpArgs false
namespace Go.Proofs.Ytmehfnikecmiiaa.moduleApart
open Go.ChangeShapes Go.WideShapes Go.ChangeAt Go.RowKit
open Go.ChangeMaps (open_string shut_string)
open Go.Proofs.YtmehfnikecmiiaaW Go.Proofs.YtmehfnikecmiiaaW.PrintWords
theorem own : ownKnob Try.prog.godebug = none := by kernel_rfl
theorem laidOut : laidOutB Try.prog = true := by kernel_rfl
set_option maxRecDepth 100000 in
theorem lifted (os : Os) (started : os.Started) (H : Type) (enc : TypeId × Value → H) :
    ReturnsInHanded {} Try.checked os 4 .any (Rows.moduleApartSpec.pre6 enc Try.prog Try.f4 Rows.moduleApartRow.domain false) (Rows.moduleApartSpec.post enc Try.prog Try.f4 false true false false) := by
  refine returnsInHanded_of_change_sized (C := Try.checked) own started (by kernel_rfl) Try.func4
    (ChangeSpec.witness6 (enc := enc) (C := Try.checked) false ⟨#[], #[.agg #[.slice none 0 0, .slice none 0 0, .slice none 0 0], .agg #[.slice none 0 0, .slice none 0 0, .slice none 0 0]], []⟩ 8 (by kernel_rfl) (by kernel_rfl) (by kernel_rfl) (by kernel_rfl)) ?_
  intro W base args ds gs before hval0 hW hcnd hsz0 _
  have hsz : (DataW.weightsEach Try.prog (Try.f4.params.toList ++ Rows.moduleApartSpec.plain.varTypes Try.prog) (ds ++ gs)).all (· ≤ reachBytes) = true := hsz0
  have hval : ∀ (j : Nat) t v, Try.f4.params[j]? = some t → args[j]? = some v → Value.okWide Try.prog W .any base t v := hval0
  have hW' := hW
  obtain ⟨p, q, hA0, hV, rfl, hfz, hnd⟩ := hW
  have hA : DataW.TrodAll enc Try.prog W 0 (fun _ => true) true Try.f4.params.toList args.toList ds p := hA0
  rw [Try.params4] at hA hval hsz
  obtain ⟨v0, vs0, d0, ds0, p0, q0, hargs, rfl, rfl, h0, r0⟩ := trodAll_cons hA
  obtain ⟨v1, vs1, d1, ds1, p1, q1, rfl, rfl, rfl, h1, r1⟩ := trodAll_cons r0
  obtain ⟨rfl, rfl, rfl⟩ := trodAll_nil r1
  obtain rfl : args = #[v0, v1] := by cases args; simp_all
  obtain ⟨rfl, rfl⟩ := trodVars_none hV
  obtain ⟨cs0, rfl, _⟩ := okWide_struct Try.underlying27 (hval 0 27 v0 rfl rfl)
  have k0 := h0
  have lt0 : ∀ x ∈ p0, x.block < W.heap.size := by obtain ⟨m, hm⟩ := k0; exact DataW.trod_lt m _ _ _ hm
  obtain ⟨m00, m01, m02, A00, A01, A02, c00, c01, c02, ecs0, ⟨l00, n00, C00, V0⟩, ⟨l01, n01, C01⟩, ⟨l02, n02, C02⟩, Z0⟩ := (show ∃ (m0 : List X.S48) (m1 : List X.S52) (m2 : List X.S56) (A0 A1 A2 : Option Addr) (c0 c1 c2 : Nat), cs0.toList = [.slice A0 m0.length c0, .slice A1 m1.length c1, .slice A2 m2.length c2] ∧ (m0.length ≤ c0 ∧ m0.length ≤ 9223372036854775807 ∧ X.k48.C W A0 m0.length m0 ∧ ∀ x ∈ m0, X.Val x) ∧ (m1.length ≤ c1 ∧ m1.length ≤ 9223372036854775807 ∧ X.k52.C W A1 m1.length m1) ∧ (m2.length ≤ c2 ∧ m2.length ≤ 9223372036854775807 ∧ X.k56.C W A2 m2.length m2) ∧ (X.Fits Try.prog 27 d0 → (∀ x ∈ m0, X.Siz x) ∧ (∀ x ∈ m2, x.f0.size ≤ 140737488351232) ∧ m0.length * 80 ≤ 140737488351232 ∧ m1.length * 40 ≤ 140737488351232 ∧ m2.length * 24 ≤ 140737488351232) by
    obtain ⟨fuel, hf⟩ := h0
    exact X.mod_size fuel _ _ (by simpa [Value.cells] using hf))
  obtain ⟨S0, T0, z00, z01, z02⟩ := Z0 (fun n hn => by
    have z := List.all_eq_true.1 hsz _ (DataW.weights_mem_each (j := 0) (t := 27) rfl rfl n hn)
    have e : reachBytes = 140737488351232 := by decide
    rw [e] at z
    simpa using z)
  obtain rfl : cs0 = #[.slice A00 m00.length c00, .slice A01 m01.length c01, .slice A02 m02.length c02] := by cases cs0; simpa using ecs0
  obtain ⟨cs1, rfl, _⟩ := okWide_struct Try.underlying27 (hval 1 27 v1 rfl rfl)
  have k1 := h1
  have lt1 : ∀ x ∈ p1, x.block < W.heap.size := by obtain ⟨m, hm⟩ := k1; exact DataW.trod_lt m _ _ _ hm
  obtain ⟨m10, m11, m12, A10, A11, A12, c10, c11, c12, ecs1, ⟨l10, n10, C10, V1⟩, ⟨l11, n11, C11⟩, ⟨l12, n12, C12⟩, Z1⟩ := (show ∃ (m0 : List X.S48) (m1 : List X.S52) (m2 : List X.S56) (A0 A1 A2 : Option Addr) (c0 c1 c2 : Nat), cs1.toList = [.slice A0 m0.length c0, .slice A1 m1.length c1, .slice A2 m2.length c2] ∧ (m0.length ≤ c0 ∧ m0.length ≤ 9223372036854775807 ∧ X.k48.C W A0 m0.length m0 ∧ ∀ x ∈ m0, X.Val x) ∧ (m1.length ≤ c1 ∧ m1.length ≤ 9223372036854775807 ∧ X.k52.C W A1 m1.length m1) ∧ (m2.length ≤ c2 ∧ m2.length ≤ 9223372036854775807 ∧ X.k56.C W A2 m2.length m2) ∧ (X.Fits Try.prog 27 d1 → (∀ x ∈ m0, X.Siz x) ∧ (∀ x ∈ m2, x.f0.size ≤ 140737488351232) ∧ m0.length * 80 ≤ 140737488351232 ∧ m1.length * 40 ≤ 140737488351232 ∧ m2.length * 24 ≤ 140737488351232) by
    obtain ⟨fuel, hf⟩ := h1
    exact X.mod_size fuel _ _ (by simpa [Value.cells] using hf))
  obtain ⟨S1, T1, z10, z11, z12⟩ := Z1 (fun n hn => by
    have z := List.all_eq_true.1 hsz _ (DataW.weights_mem_each (j := 1) (t := 27) rfl rfl n hn)
    have e : reachBytes = 140737488351232 := by decide
    rw [e] at z
    simpa using z)
  obtain rfl : cs1 = #[.slice A10 m10.length c10, .slice A11 m11.length c11, .slice A12 m12.length c12] := by cases cs1; simpa using ecs1
  clear hA0 hval0 hsz0 hsz
  refine (X.mb.apart4 W C00 l00 C01 l01 C02 l02 V0 S0 T0 (by omega) (by omega) (by omega) C10 l10 C11 l11 C12 l12 V1 T1).mono fun e W' ⟨he, bel⟩ => ?_
  subst he
  exact ⟨_, rfl, _, _, _, [], _, [], hW', trodAll_mk1 (shut_bool Try.underlying4 _), (trodAll_cons_mk (Below.trod laidOut (by kernel_rfl) (of_decide_eq_true (by kernel_rfl)) k0 bel lt0) (trodAll_cons_mk (Below.trod laidOut (by kernel_rfl) (of_decide_eq_true (by kernel_rfl)) k1 bel lt1) trodAll_mk0)), rfl, bel.frame _, fun h => by cases h⟩
theorem over : Rows.moduleApartRow.holds Try.pinned (OpenSpec.ofChange Rows.moduleApartSpec) :=
  OpenClaim.holds_of_wide 4 Try.f4 rfl rfl rfl rfl rfl rfl rfl ⟨rfl, rfl, rfl, rfl, rfl⟩ rfl rfl rfl rfl rfl (by kernel_rfl) Try.func4 (by kernel_rfl)
    (of_decide_eq_true (by kernel_rfl)) (by unfold Func.isWrapper; first | (rw [if_pos (by decide +kernel)]; kernel_rfl) | (rw [if_neg (by decide +kernel)]; exact ⟨rfl, rfl⟩))
    (fun os started H enc _ => lifted os started H enc)
theorem proved : Rows.ModuleApartSaid := over
#print axioms proved
end Go.Proofs.Ytmehfnikecmiiaa.moduleApart
namespace Go.Proofs.Ytmehfnikecmiiaa
/-- The row, under a short name, for the claim. -/
theorem moduleApart_holds : Rows.ModuleApartSaid := moduleApart.proved
end Go.Proofs.Ytmehfnikecmiiaa
