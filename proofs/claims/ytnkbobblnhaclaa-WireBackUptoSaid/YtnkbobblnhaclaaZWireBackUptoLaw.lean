/- The statement WireBackUptoSaid, out of the walk of the law. No condition. -/
import Derived.Test.YtnkbobblnhaclaaRows
import Derived.WalkKit
import Derived.ProofKit
import Derived.OpenShut
import Derived.ShutString
import Derived.ChangeOld
import Derived.Below
import Derived.SizedLaws
import Derived.Deep.CondSized
import Derived.Test.YtnkbobblnhaclaaZWireBackUpto32
import Derived.Test.YtnkbobblnhaclaaZWireBackUpto30
import Derived.Test.YtnkbobblnhaclaaZWireBackUpto27
import Derived.Test.YtnkbobblnhaclaaZWireBackUpto29
set_option linter.unusedVariables false
set_option linter.unusedSimpArgs false
namespace Go.Proofs.Ytnkbobblnhaclaa.wireBackUp
open Go.ChangeShapes Go.WideShapes Go.ChangeAt Go.RowKit
open Go.ChangeMaps (open_string shut_string)
open Go.Proofs.YtnkbobblnhaclaaW Go.Proofs.YtnkbobblnhaclaaW.PrintWords
theorem own : ownKnob Try.prog.godebug = none := by kernel_rfl
theorem laidOut : laidOutB Try.prog = true := by kernel_rfl
set_option maxRecDepth 100000 in
theorem lifted (os : Os) (started : os.Started) (H : Type) (enc : TypeId × Value → H) (F : Stop.Interp) :
    ReturnsInHanded {} Try.checked os 9 .any ((Rows.OpenSpec.upto Rows.wireBackSpec).pre6 enc Try.prog Try.f9 Rows.wireBackUptoRow.domain false) (((Rows.OpenSpec.upto Rows.wireBackSpec).at F).post enc Try.prog Try.f9 false true false false) := by
  refine returnsInHanded_of_cond_sized (C := Try.checked) (s := (Rows.OpenSpec.upto Rows.wireBackSpec)) (k := Rows.uptoSmall) rfl own started (by kernel_rfl) Try.func9
    (OpenSpec.witness (enc := enc) (C := Try.checked) (s := (Rows.OpenSpec.upto Rows.wireBackSpec)) (k := Rows.uptoSmall) rfl false ⟨#[], #[.slice none 0 0, .agg #[.int .i64 0, .int .i64 0, .string ByteArray.empty, .slice none 0 0, .slice none 0 0], .slice none 0 0], []⟩ 8 (by kernel_rfl) (by kernel_rfl) (by kernel_rfl) (x := ([.nil, .agg [.lit (.int .i64 0), .lit (.int .i64 0), .lit (.string []), .nil, .nil], .nil], [], [])) (by kernel_rfl) rfl (by kernel_rfl)) ?_
  intro W base args ds gs before hval0 hW hcnd hk0 hsz0 _
  have hsz : (DataW.weightsEach Try.prog (Try.f9.params.toList ++ Rows.wireBackSpec.plain.varTypes Try.prog) (ds ++ gs)).all (· ≤ reachBytes) = true := hsz0
  have hval : ∀ (j : Nat) t v, Try.f9.params[j]? = some t → args[j]? = some v → Value.okWide Try.prog W .any base t v := hval0
  have hW' := hW
  obtain ⟨p, q, hA0, hV, rfl, hfz, hnd⟩ := hW
  have hA : DataW.TrodAll enc Try.prog W 0 (fun _ => true) true Try.f9.params.toList args.toList ds p := hA0
  rw [Try.params9] at hA hval hsz
  obtain ⟨v0, vs0, d0, ds0, p0, q0, hargs, rfl, rfl, h0, r0⟩ := trodAll_cons hA
  obtain ⟨v1, vs1, d1, ds1, p1, q1, rfl, rfl, rfl, h1, r1⟩ := trodAll_cons r0
  obtain ⟨v2, vs2, d2, ds2, p2, q2, rfl, rfl, rfl, h2, r2⟩ := trodAll_cons r1
  obtain ⟨rfl, rfl, rfl⟩ := trodAll_nil r2
  obtain rfl : args = #[v0, v1, v2] := by cases args; simp_all
  obtain ⟨rfl, rfl⟩ := trodVars_none hV
  obtain ⟨A0, n0, c0, rfl⟩ := okWide_slice Try.underlying26 (hval 0 26 v0 rfl rfl)
  have k0 := h0
  have lt0 : ∀ x ∈ p0, x.block < W.heap.size := by obtain ⟨m, hm⟩ := k0; exact DataW.trod_lt m _ _ _ hm
  obtain ⟨xs0, en0, l0, m0, C0, g0, u0⟩ := XRow.row_open (Kd.int .u8) (fun n => (Lit.int .u8 n).wf = true) Try.underlying26 (by kernel_rfl) (X.el_int Try.underlying5) h0
  have z0 : xs0.length * 1 ≤ 140737488351232 := by rw [en0]; exact XRow.row_sized hsz (j := 0) (t := 26) rfl rfl Try.underlying26 (by kernel_rfl) k0
  subst en0
  obtain ⟨cs1, rfl, _⟩ := okWide_struct Try.underlying25 (hval 1 25 v1 rfl rfl)
  have k1 := h1
  have lt1 : ∀ x ∈ p1, x.block < W.heap.size := by obtain ⟨m, hm⟩ := k1; exact DataW.trod_lt m _ _ _ hm
  obtain ⟨x1, K1, V1, Z1⟩ : ∃ x, X.k25.K W x cs1.toList ∧ X.Val x ∧ (X.Fits Try.prog 25 d1 → X.Siz x) := by
    obtain ⟨fuel, hf⟩ := h1
    exact X.val_size fuel _ _ (by simpa [Value.cells] using hf)
  have S1 : X.Siz x1 := Z1 (fun n hn => by
    have z := List.all_eq_true.1 hsz _ (DataW.weights_mem_each (j := 1) (t := 25) rfl rfl n hn)
    have e : reachBytes = 140737488351232 := by decide
    rw [e] at z
    simpa using z)
  obtain ⟨A13, c13, A14, c14, ecs1, l13, C13, l14, C14⟩ := X.k25_open K1
  obtain rfl : cs1 = #[.int .i64 x1.f0, .int .i64 x1.f1, .string x1.f2, .slice A13 x1.f3.length c13, .slice A14 x1.f4.length c14] := by cases cs1; simpa using ecs1
  obtain ⟨A2, n2, c2, rfl⟩ := okWide_slice Try.underlying26 (hval 2 26 v2 rfl rfl)
  have k2 := h2
  have lt2 : ∀ x ∈ p2, x.block < W.heap.size := by obtain ⟨m, hm⟩ := k2; exact DataW.trod_lt m _ _ _ hm
  obtain ⟨xs2, en2, l2, m2, C2, g2, u2⟩ := XRow.row_open (Kd.int .u8) (fun n => (Lit.int .u8 n).wf = true) Try.underlying26 (by kernel_rfl) (X.el_int Try.underlying5) h2
  have z2 : xs2.length * 1 ≤ 140737488351232 := by rw [en2]; exact XRow.row_sized hsz (j := 2) (t := 26) rfl rfl Try.underlying26 (by kernel_rfl) k2
  subst en2
  have B : xs0.length + 0 + xs2.length ≤ 1048576 := by
    have z := XUp.bound hk0
    simp only [List.append_nil, Rows.uptoBulkAll] at z
    omega
  have b0 : xs0.length ≤ 1048576 := by omega
  have b1 : 0 ≤ 1048576 := by omega
  have b2 : xs2.length ≤ 1048576 := by omega
  clear hA0 hval0 hsz0 hsz hk0
  refine (X.wt.back1 W C0 l0 (Pl.Bytes.of g0) (by omega) V1 S1 C13 l13 C14 l14 C2 l2 (Pl.Bytes.of g2) (by omega)).mono fun e W' ⟨he, bel⟩ => ?_
  subst he
  exact ⟨_, rfl, _, _, _, [], _, [], hW', trodAll_mk1 (shut_bool Try.underlying4 _), (trodAll_cons_mk (Below.trod laidOut (by kernel_rfl) (of_decide_eq_true (by kernel_rfl)) k0 bel lt0) (trodAll_cons_mk (Below.trod laidOut (by kernel_rfl) (of_decide_eq_true (by kernel_rfl)) k1 bel lt1) (trodAll_cons_mk (Below.trod laidOut (by kernel_rfl) (of_decide_eq_true (by kernel_rfl)) k2 bel lt2) trodAll_mk0))), rfl, bel.frame _, fun h => by cases h⟩
theorem over : Rows.wireBackUptoRow.holds Try.pinned (Rows.OpenSpec.upto Rows.wireBackSpec) :=
  OpenClaim.holds_of_cond 9 Try.f9 rfl rfl rfl rfl rfl rfl rfl ⟨rfl, rfl, rfl, rfl, rfl⟩ rfl rfl rfl rfl rfl (by kernel_rfl) Try.func9 (by kernel_rfl)
    (of_decide_eq_true (by kernel_rfl)) (by unfold Func.isWrapper; first | (rw [if_pos (by decide +kernel)]; kernel_rfl) | (rw [if_neg (by decide +kernel)]; exact ⟨rfl, rfl⟩))
    (fun os started H enc _ F => lifted os started H enc F)
theorem proved : Rows.WireBackUptoSaid := over
#print axioms proved
end Go.Proofs.Ytnkbobblnhaclaa.wireBackUp
namespace Go.Proofs.Ytnkbobblnhaclaa
/-- The row, under a short name, for the claim. -/
theorem wireBackUpto_holds : Rows.WireBackUptoSaid := wireBackUp.proved
end Go.Proofs.Ytnkbobblnhaclaa
