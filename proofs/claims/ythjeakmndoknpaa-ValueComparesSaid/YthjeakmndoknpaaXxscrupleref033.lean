-- Written by a program of this session (wip/xprint.py) out of the translation's print; Lean checks it.
import Derived.Test.YthjeakmndoknpaaXx0
import Derived.Test.YthjeakmndoknpaaXxscrupleref032
namespace Go.Proofs.Ythjeakmndoknpaa.X
open Go.RowKit Go.Proofs.YthjeakmndoknpaaW.PrintWords Go.Proofs.YthjeakmndoknpaaW.PrintLast Go.Proofs.YthjeakmndoknpaaW.PrintMore Go.Proofs.YthjeakmndoknpaaW
attribute [local go_sem] max2_int min2_int max_two min_two max_three min_three max_four min_four   -- for this text's walks alone
set_option linter.unusedVariables false
set_option linter.unusedSimpArgs false

/-! ### scrupleref03_order: function 33 -/
mutual
def scrupleref03_order.j1 : Nat → Int → Int → ByteArray → List (S25) → List ByteArray → Int → Int → ByteArray → List (S25) → List ByteArray → Option (Int)
  | 0, _, _, _, _, _, _, _, _, _, _ => none
  | k + 1, x177000, x177001, x177002, x177003, x177004, x178000, x178001, x178002, x178003, x178004 => (scrupleref03_texts.f x177002 x178002).bind fun t178 => (scrupleref03_order.l0 k t178 0 x177000 x177001 x177002 x177003 x177004 x178000 x178001 x178002 x178003 x178004)
def scrupleref03_order.l0 : Nat → Int → Int → Int → Int → ByteArray → List (S25) → List ByteArray → Int → Int → ByteArray → List (S25) → List ByteArray → Option (Int)
  | 0, _, _, _, _, _, _, _, _, _, _, _, _ => none
  | k + 1, x5, x6, x177000, x177001, x177002, x177003, x177004, x178000, x178001, x178002, x178003, x178004 => if x6 < (x177003.length : Int) then (if x6 < (x178003.length : Int) then (scrupleref03_order.j3 k x5 x6 (x5 == 0) x177000 x177001 x177002 x177003 x177004 x178000 x178001 x178002 x178003 x178004) else (scrupleref03_order.j3 k x5 x6 false x177000 x177001 x177002 x177003 x177004 x178000 x178001 x178002 x178003 x178004)) else (scrupleref03_order.j3 k x5 x6 false x177000 x177001 x177002 x177003 x177004 x178000 x178001 x178002 x178003 x178004)
def scrupleref03_order.j3 : Nat → Int → Int → Bool → Int → Int → ByteArray → List (S25) → List ByteArray → Int → Int → ByteArray → List (S25) → List ByteArray → Option (Int)
  | 0, _, _, _, _, _, _, _, _, _, _, _, _, _ => none
  | k + 1, x5, x6, x67, x177000, x177001, x177002, x177003, x177004, x178000, x178001, x178002, x178003, x178004 => if x67 = true then (if x177000 = 5 then (if 0 ≤ x6 then (if x6 < (x177004.length : Int) then (if x6 < (x178004.length : Int) then ((scrupleref03_texts.f (rdOf ByteArray.empty x177004 x6) (rdOf ByteArray.empty x178004 x6)).bind fun t181 => (if t181 = 0 then (if x6 < (x177003.length : Int) then (if x6 < (x178003.length : Int) then ((scrupleref03_order.f k ((rd_T25 x177003 x6).f0) ((rd_T25 x177003 x6).f1) ((rd_T25 x177003 x6).f2) ((rd_T25 x177003 x6).f3) ((rd_T25 x177003 x6).f4) ((rd_T25 x178003 x6).f0) ((rd_T25 x178003 x6).f1) ((rd_T25 x178003 x6).f2) ((rd_T25 x178003 x6).f3) ((rd_T25 x178003 x6).f4)).bind fun t184 => (scrupleref03_order.l0 k t184 (wrap64 (x6 + 1)) x177000 x177001 x177002 x177003 x177004 x178000 x178001 x178002 x178003 x178004)) else (none)) else (none)) else (scrupleref03_order.l0 k t181 (wrap64 (x6 + 1)) x177000 x177001 x177002 x177003 x177004 x178000 x178001 x178002 x178003 x178004))) else (none)) else (none)) else (none)) else (if x5 = 0 then (if 0 ≤ x6 then (if x6 < (x177003.length : Int) then (if x6 < (x178003.length : Int) then ((scrupleref03_order.f k ((rd_T25 x177003 x6).f0) ((rd_T25 x177003 x6).f1) ((rd_T25 x177003 x6).f2) ((rd_T25 x177003 x6).f3) ((rd_T25 x177003 x6).f4) ((rd_T25 x178003 x6).f0) ((rd_T25 x178003 x6).f1) ((rd_T25 x178003 x6).f2) ((rd_T25 x178003 x6).f3) ((rd_T25 x178003 x6).f4)).bind fun t187 => (scrupleref03_order.l0 k t187 (wrap64 (x6 + 1)) x177000 x177001 x177002 x177003 x177004 x178000 x178001 x178002 x178003 x178004)) else (none)) else (none)) else (none)) else (scrupleref03_order.l0 k x5 (wrap64 (x6 + 1)) x177000 x177001 x177002 x177003 x177004 x178000 x178001 x178002 x178003 x178004))) else (if x5 = 0 then (scrupleref03_order.j4 k x5 (decide ((x177003.length : Int) < (x178003.length : Int))) x177000 x177001 x177002 x177003 x177004 x178000 x178001 x178002 x178003 x178004) else (scrupleref03_order.j4 k x5 false x177000 x177001 x177002 x177003 x177004 x178000 x178001 x178002 x178003 x178004))
def scrupleref03_order.j4 : Nat → Int → Bool → Int → Int → ByteArray → List (S25) → List ByteArray → Int → Int → ByteArray → List (S25) → List ByteArray → Option (Int)
  | 0, _, _, _, _, _, _, _, _, _, _, _, _ => none
  | k + 1, x5, x107, x177000, x177001, x177002, x177003, x177004, x178000, x178001, x178002, x178003, x178004 => if x107 = true then (some (-1)) else (if x5 = 0 then (if (x177003.length : Int) > (x178003.length : Int) then (some 1) else (some x5)) else (some x5))
def scrupleref03_order.j0 : Nat → Bool → Int → Int → ByteArray → List (S25) → List ByteArray → Int → Int → ByteArray → List (S25) → List ByteArray → Option (Int)
  | 0, _, _, _, _, _, _, _, _, _, _, _ => none
  | k + 1, x7, x177000, x177001, x177002, x177003, x177004, x178000, x178001, x178002, x178003, x178004 => if x7 = true then (some (-1)) else (if x177000 > x178000 then (some 1) else (if x177000 = x178000 then (if x177001 > x178001 then (some 1) else (scrupleref03_order.j1 k x177000 x177001 x177002 x177003 x177004 x178000 x178001 x178002 x178003 x178004)) else (scrupleref03_order.j1 k x177000 x177001 x177002 x177003 x177004 x178000 x178001 x178002 x178003 x178004)))
def scrupleref03_order.f : Nat → Int → Int → ByteArray → List (S25) → List ByteArray → Int → Int → ByteArray → List (S25) → List ByteArray → Option (Int)
  | 0, _, _, _, _, _, _, _, _, _, _ => none
  | k + 1, a0_0, a0_1, a0_2, l0_3, l0_4, a1_0, a1_1, a1_2, l1_3, l1_4 => if a0_0 < a1_0 then (scrupleref03_order.j0 k true a0_0 a0_1 a0_2 l0_3 l0_4 a1_0 a1_1 a1_2 l1_3 l1_4) else (if a0_0 = a1_0 then (scrupleref03_order.j0 k (decide (a0_1 < a1_1)) a0_0 a0_1 a0_2 l0_3 l0_4 a1_0 a1_1 a1_2 l1_3 l1_4) else (scrupleref03_order.j0 k false a0_0 a0_1 a0_2 l0_3 l0_4 a1_0 a1_1 a1_2 l1_3 l1_4))
end
theorem scrupleref03_order.mono_l : ∀ k, (∀ y0 y1 y2 y3 y4 y5 y6 y7 y8 y9, LeO (scrupleref03_order.f k y0 y1 y2 y3 y4 y5 y6 y7 y8 y9) (scrupleref03_order.f (k + 1) y0 y1 y2 y3 y4 y5 y6 y7 y8 y9)) ∧ (∀ y0 y1 y2 y3 y4 y5 y6 y7 y8 y9, LeO (scrupleref03_order.j1 k y0 y1 y2 y3 y4 y5 y6 y7 y8 y9) (scrupleref03_order.j1 (k + 1) y0 y1 y2 y3 y4 y5 y6 y7 y8 y9)) ∧ (∀ y0 y1 y2 y3 y4 y5 y6 y7 y8 y9 y10 y11, LeO (scrupleref03_order.l0 k y0 y1 y2 y3 y4 y5 y6 y7 y8 y9 y10 y11) (scrupleref03_order.l0 (k + 1) y0 y1 y2 y3 y4 y5 y6 y7 y8 y9 y10 y11)) ∧ (∀ y0 y1 y2 y3 y4 y5 y6 y7 y8 y9 y10 y11 y12, LeO (scrupleref03_order.j3 k y0 y1 y2 y3 y4 y5 y6 y7 y8 y9 y10 y11 y12) (scrupleref03_order.j3 (k + 1) y0 y1 y2 y3 y4 y5 y6 y7 y8 y9 y10 y11 y12)) ∧ (∀ y0 y1 y2 y3 y4 y5 y6 y7 y8 y9 y10 y11, LeO (scrupleref03_order.j4 k y0 y1 y2 y3 y4 y5 y6 y7 y8 y9 y10 y11) (scrupleref03_order.j4 (k + 1) y0 y1 y2 y3 y4 y5 y6 y7 y8 y9 y10 y11)) ∧ (∀ y0 y1 y2 y3 y4 y5 y6 y7 y8 y9 y10, LeO (scrupleref03_order.j0 k y0 y1 y2 y3 y4 y5 y6 y7 y8 y9 y10) (scrupleref03_order.j0 (k + 1) y0 y1 y2 y3 y4 y5 y6 y7 y8 y9 y10))
  | 0 => ⟨fun _ _ _ _ _ _ _ _ _ _ r h => by simp [scrupleref03_order.f] at h, fun _ _ _ _ _ _ _ _ _ _ r h => by simp [scrupleref03_order.j1] at h, fun _ _ _ _ _ _ _ _ _ _ _ _ r h => by simp [scrupleref03_order.l0] at h, fun _ _ _ _ _ _ _ _ _ _ _ _ _ r h => by simp [scrupleref03_order.j3] at h, fun _ _ _ _ _ _ _ _ _ _ _ _ r h => by simp [scrupleref03_order.j4] at h, fun _ _ _ _ _ _ _ _ _ _ _ r h => by simp [scrupleref03_order.j0] at h⟩
  | k + 1 => by
    obtain ⟨ih0, ih1, ih2, ih3, ih4, ih5⟩ := scrupleref03_order.mono_l k
    refine ⟨?_, ?_, ?_, ?_, ?_, ?_⟩
    · intro y0 y1 y2 y3 y4 y5 y6 y7 y8 y9
      unfold scrupleref03_order.f
      repeat' first
      | (with_reducible exact ih0 _ _ _ _ _ _ _ _ _ _)
      | (with_reducible exact ih1 _ _ _ _ _ _ _ _ _ _)
      | (with_reducible exact ih2 _ _ _ _ _ _ _ _ _ _ _ _)
      | (with_reducible exact ih3 _ _ _ _ _ _ _ _ _ _ _ _ _)
      | (with_reducible exact ih4 _ _ _ _ _ _ _ _ _ _ _ _)
      | (with_reducible exact ih5 _ _ _ _ _ _ _ _ _ _ _)
      | (with_reducible exact LeO.refl _)
      | (with_reducible exact LeO.none _)
      | (with_reducible refine LeO.ite ?_ ?_)
      | (with_reducible refine LeO.bind ?_ (fun _ => ?_))
      | exact ih0 _ _ _ _ _ _ _ _ _ _
      | exact ih1 _ _ _ _ _ _ _ _ _ _
      | exact ih2 _ _ _ _ _ _ _ _ _ _ _ _
      | exact ih3 _ _ _ _ _ _ _ _ _ _ _ _ _
      | exact ih4 _ _ _ _ _ _ _ _ _ _ _ _
      | exact ih5 _ _ _ _ _ _ _ _ _ _ _
      | exact LeO.none _
      | refine LeO.ite ?_ ?_
      | refine LeO.bind ?_ (fun _ => ?_)
    · intro y0 y1 y2 y3 y4 y5 y6 y7 y8 y9
      unfold scrupleref03_order.j1
      repeat' first
      | (with_reducible exact ih0 _ _ _ _ _ _ _ _ _ _)
      | (with_reducible exact ih1 _ _ _ _ _ _ _ _ _ _)
      | (with_reducible exact ih2 _ _ _ _ _ _ _ _ _ _ _ _)
      | (with_reducible exact ih3 _ _ _ _ _ _ _ _ _ _ _ _ _)
      | (with_reducible exact ih4 _ _ _ _ _ _ _ _ _ _ _ _)
      | (with_reducible exact ih5 _ _ _ _ _ _ _ _ _ _ _)
      | (with_reducible exact LeO.refl _)
      | (with_reducible exact LeO.none _)
      | (with_reducible refine LeO.ite ?_ ?_)
      | (with_reducible refine LeO.bind ?_ (fun _ => ?_))
      | exact ih0 _ _ _ _ _ _ _ _ _ _
      | exact ih1 _ _ _ _ _ _ _ _ _ _
      | exact ih2 _ _ _ _ _ _ _ _ _ _ _ _
      | exact ih3 _ _ _ _ _ _ _ _ _ _ _ _ _
      | exact ih4 _ _ _ _ _ _ _ _ _ _ _ _
      | exact ih5 _ _ _ _ _ _ _ _ _ _ _
      | exact LeO.none _
      | refine LeO.ite ?_ ?_
      | refine LeO.bind ?_ (fun _ => ?_)
    · intro y0 y1 y2 y3 y4 y5 y6 y7 y8 y9 y10 y11
      unfold scrupleref03_order.l0
      repeat' first
      | (with_reducible exact ih0 _ _ _ _ _ _ _ _ _ _)
      | (with_reducible exact ih1 _ _ _ _ _ _ _ _ _ _)
      | (with_reducible exact ih2 _ _ _ _ _ _ _ _ _ _ _ _)
      | (with_reducible exact ih3 _ _ _ _ _ _ _ _ _ _ _ _ _)
      | (with_reducible exact ih4 _ _ _ _ _ _ _ _ _ _ _ _)
      | (with_reducible exact ih5 _ _ _ _ _ _ _ _ _ _ _)
      | (with_reducible exact LeO.refl _)
      | (with_reducible exact LeO.none _)
      | (with_reducible refine LeO.ite ?_ ?_)
      | (with_reducible refine LeO.bind ?_ (fun _ => ?_))
      | exact ih0 _ _ _ _ _ _ _ _ _ _
      | exact ih1 _ _ _ _ _ _ _ _ _ _
      | exact ih2 _ _ _ _ _ _ _ _ _ _ _ _
      | exact ih3 _ _ _ _ _ _ _ _ _ _ _ _ _
      | exact ih4 _ _ _ _ _ _ _ _ _ _ _ _
      | exact ih5 _ _ _ _ _ _ _ _ _ _ _
      | exact LeO.none _
      | refine LeO.ite ?_ ?_
      | refine LeO.bind ?_ (fun _ => ?_)
    · intro y0 y1 y2 y3 y4 y5 y6 y7 y8 y9 y10 y11 y12
      unfold scrupleref03_order.j3
      repeat' first
      | (with_reducible exact ih0 _ _ _ _ _ _ _ _ _ _)
      | (with_reducible exact ih1 _ _ _ _ _ _ _ _ _ _)
      | (with_reducible exact ih2 _ _ _ _ _ _ _ _ _ _ _ _)
      | (with_reducible exact ih3 _ _ _ _ _ _ _ _ _ _ _ _ _)
      | (with_reducible exact ih4 _ _ _ _ _ _ _ _ _ _ _ _)
      | (with_reducible exact ih5 _ _ _ _ _ _ _ _ _ _ _)
      | (with_reducible exact LeO.refl _)
      | (with_reducible exact LeO.none _)
      | (with_reducible refine LeO.ite ?_ ?_)
      | (with_reducible refine LeO.bind ?_ (fun _ => ?_))
      | exact ih0 _ _ _ _ _ _ _ _ _ _
      | exact ih1 _ _ _ _ _ _ _ _ _ _
      | exact ih2 _ _ _ _ _ _ _ _ _ _ _ _
      | exact ih3 _ _ _ _ _ _ _ _ _ _ _ _ _
      | exact ih4 _ _ _ _ _ _ _ _ _ _ _ _
      | exact ih5 _ _ _ _ _ _ _ _ _ _ _
      | exact LeO.none _
      | refine LeO.ite ?_ ?_
      | refine LeO.bind ?_ (fun _ => ?_)
    · intro y0 y1 y2 y3 y4 y5 y6 y7 y8 y9 y10 y11
      unfold scrupleref03_order.j4
      repeat' first
      | (with_reducible exact ih0 _ _ _ _ _ _ _ _ _ _)
      | (with_reducible exact ih1 _ _ _ _ _ _ _ _ _ _)
      | (with_reducible exact ih2 _ _ _ _ _ _ _ _ _ _ _ _)
      | (with_reducible exact ih3 _ _ _ _ _ _ _ _ _ _ _ _ _)
      | (with_reducible exact ih4 _ _ _ _ _ _ _ _ _ _ _ _)
      | (with_reducible exact ih5 _ _ _ _ _ _ _ _ _ _ _)
      | (with_reducible exact LeO.refl _)
      | (with_reducible exact LeO.none _)
      | (with_reducible refine LeO.ite ?_ ?_)
      | (with_reducible refine LeO.bind ?_ (fun _ => ?_))
      | exact ih0 _ _ _ _ _ _ _ _ _ _
      | exact ih1 _ _ _ _ _ _ _ _ _ _
      | exact ih2 _ _ _ _ _ _ _ _ _ _ _ _
      | exact ih3 _ _ _ _ _ _ _ _ _ _ _ _ _
      | exact ih4 _ _ _ _ _ _ _ _ _ _ _ _
      | exact ih5 _ _ _ _ _ _ _ _ _ _ _
      | exact LeO.none _
      | refine LeO.ite ?_ ?_
      | refine LeO.bind ?_ (fun _ => ?_)
    · intro y0 y1 y2 y3 y4 y5 y6 y7 y8 y9 y10
      unfold scrupleref03_order.j0
      repeat' first
      | (with_reducible exact ih0 _ _ _ _ _ _ _ _ _ _)
      | (with_reducible exact ih1 _ _ _ _ _ _ _ _ _ _)
      | (with_reducible exact ih2 _ _ _ _ _ _ _ _ _ _ _ _)
      | (with_reducible exact ih3 _ _ _ _ _ _ _ _ _ _ _ _ _)
      | (with_reducible exact ih4 _ _ _ _ _ _ _ _ _ _ _ _)
      | (with_reducible exact ih5 _ _ _ _ _ _ _ _ _ _ _)
      | (with_reducible exact LeO.refl _)
      | (with_reducible exact LeO.none _)
      | (with_reducible refine LeO.ite ?_ ?_)
      | (with_reducible refine LeO.bind ?_ (fun _ => ?_))
      | exact ih0 _ _ _ _ _ _ _ _ _ _
      | exact ih1 _ _ _ _ _ _ _ _ _ _
      | exact ih2 _ _ _ _ _ _ _ _ _ _ _ _
      | exact ih3 _ _ _ _ _ _ _ _ _ _ _ _ _
      | exact ih4 _ _ _ _ _ _ _ _ _ _ _ _
      | exact ih5 _ _ _ _ _ _ _ _ _ _ _
      | exact LeO.none _
      | refine LeO.ite ?_ ?_
      | refine LeO.bind ?_ (fun _ => ?_)
theorem scrupleref03_order.mono : ∀ a0 a1 a2 a3 a4 a5 a6 a7 a8 a9 k, LeO (scrupleref03_order.f k a0 a1 a2 a3 a4 a5 a6 a7 a8 a9) (scrupleref03_order.f (k + 1) a0 a1 a2 a3 a4 a5 a6 a7 a8 a9) := by
  intro a0 a1 a2 a3 a4 a5 a6 a7 a8 a9 k
  obtain ⟨ih0, ih1, ih2, ih3, ih4, ih5⟩ := scrupleref03_order.mono_l k
  exact ih0 a0 a1 a2 a3 a4 a5 a6 a7 a8 a9
def scrupleref03_order.T10 : Bool × List (List Nat × List Nat) := (true, [([], []), ([0], [0]), ([], []), ([1, 2], [1, 2]), ([3], [3]), ([], []), ([5], [5]), ([], []), ([6, 7], [6, 7]), ([8], [8]), ([4, 9], [4, 9]), ([10, 10, 0, 1, 2, 3, 4, 5, 6, 7, 8, 9, 10], [10])])
def scrupleref03_order.B10 : List Nat := [0, 1, 0, 7, 15, 0, 32, 0, 224, 480, 1023, 2047]
theorem scrupleref03_order.tab10 : rtab .any (opsOf Try.f33 10) = scrupleref03_order.T10 := by kernel_rfl
theorem scrupleref03_order.bits10 : waitsOk scrupleref03_order.T10.2 scrupleref03_order.B10 = true := by kernel_rfl
def scrupleref03_order.T12 : Bool × List (List Nat × List Nat) := (true, [([], []), ([0], [0]), ([], []), ([1, 2], [1, 2]), ([3], [3]), ([], []), ([5], [5]), ([], []), ([6, 7], [6, 7]), ([8], [8]), ([4, 9], [4, 9]), ([10, 10, 0, 1, 2, 3, 4, 5, 6, 7, 8, 9, 10], [10])])
def scrupleref03_order.B12 : List Nat := [0, 1, 0, 7, 15, 0, 32, 0, 224, 480, 1023, 2047]
theorem scrupleref03_order.tab12 : rtab .any (opsOf Try.f33 12) = scrupleref03_order.T12 := by kernel_rfl
theorem scrupleref03_order.bits12 : waitsOk scrupleref03_order.T12.2 scrupleref03_order.B12 = true := by kernel_rfl
set_option maxHeartbeats 8000000 in
set_option maxRecDepth 100000 in
theorem scrupleref03_order.calls (k : Nat) : ∀ (a0_0 : Int) (a0_1 : Int) (a0_2 : ByteArray) (A0_3 : Option Addr) (c0_3 : Nat) (l0_3 : List (S25)) (A0_4 : Option Addr) (c0_4 : Nat) (l0_4 : List ByteArray) (a1_0 : Int) (a1_1 : Int) (a1_2 : ByteArray) (A1_3 : Option Addr) (c1_3 : Nat) (l1_3 : List (S25)) (A1_4 : Option Addr) (c1_4 : Nat) (l1_4 : List ByteArray) (r : Int) (w : World) (hr0_3 : Kd.C k25 w A0_3 l0_3.length l0_3) (hc0_3 : l0_3.length ≤ c0_3) (hr0_4 : Kd.C Kd.string w A0_4 l0_4.length l0_4) (hc0_4 : l0_4.length ≤ c0_4) (hr1_3 : Kd.C k25 w A1_3 l1_3.length l1_3) (hc1_3 : l1_3.length ≤ c1_3) (hr1_4 : Kd.C Kd.string w A1_4 l1_4.length l1_4) (hc1_4 : l1_4.length ≤ c1_4) (h : scrupleref03_order.f k a0_0 a0_1 a0_2 l0_3 l0_4 a1_0 a1_1 a1_2 l1_3 l1_4 = some r),
    Calls Try.prog 33 #[.agg #[.int .i64 a0_0, .int .i64 a0_1, .string a0_2, .slice A0_3 l0_3.length c0_3, .slice A0_4 l0_4.length c0_4], .agg #[.int .i64 a1_0, .int .i64 a1_1, .string a1_2, .slice A1_3 l1_3.length c1_3, .slice A1_4 l1_4.length c1_4]] w fun e w' => e = .returned (.int .i64 r) ∧ Below w.heap.size w w' := by
  induction k using Nat.strongRecOn with
  | _ k ih =>
  intro a0_0 a0_1 a0_2 A0_3 c0_3 l0_3 A0_4 c0_4 l0_4 a1_0 a1_1 a1_2 A1_3 c1_3 l1_3 A1_4 c1_4 l1_4 r w hr0_3 hc0_3 hr0_4 hc0_4 hr1_3 hc1_3 hr1_4 hc1_4 h
  cases k with
  | zero => exact absurd h (by simp [scrupleref03_order.f])
  | succ k =>
  simp only [scrupleref03_order.f] at h
  have hu25 := Try.underlying25
  have HR0_3 := Aside0.mk hr0_3
  have HC0_3 := Aside0.mk hc0_3
  clear hr0_3 hc0_3
  have HR0_4 := Aside0.mk hr0_4
  have HC0_4 := Aside0.mk hc0_4
  clear hr0_4 hc0_4
  have HR1_3 := Aside0.mk hr1_3
  have HC1_3 := Aside0.mk hc1_3
  clear hr1_3 hc1_3
  have HR1_4 := Aside0.mk hr1_4
  have HC1_4 := Aside0.mk hc1_4
  clear hr1_4 hc1_4
  have HB := Aside0.mk (Below.refl w.heap.size w)
  have H : (if a0_0 < a1_0 then (scrupleref03_order.j0 k true a0_0 a0_1 a0_2 l0_3 l0_4 a1_0 a1_1 a1_2 l1_3 l1_4) else (if a0_0 = a1_0 then (scrupleref03_order.j0 k (decide (a0_1 < a1_1)) a0_0 a0_1 a0_2 l0_3 l0_4 a1_0 a1_1 a1_2 l1_3 l1_4) else (scrupleref03_order.j0 k false a0_0 a0_1 a0_2 l0_3 l0_4 a1_0 a1_1 a1_2 l1_3 l1_4))) = some r := h
  clear h
  have HC3 := Aside0.mk H
  clear H
  go_enter Try.func33, Try.ntmps33
  go_upto_block 0 with (first | ((with_reducible refine gate_dst (N := 2) rfl ?_); (try (refine gate_guard (by rfl) ?_; dsimp only)); refine box_event ?hg (N := 2) ?hd (cs := #[.int .i64 a0_0, .int .i64 a0_1, .string a0_2, .slice A0_3 l0_3.length c0_3, .slice A0_4 l0_4.length c0_4]) (t := 25) ?hr ?_; (case hd => rfl); (case hg => rfl); (case hr => first | (go_simp; done) | (go_simp; rfl)); intro gb176 hg w4 hbox hb; have n0_ := Aside0.mk (below_step (by repeat (first | (with_reducible first | exact HB.out | apply below_alloc | apply pw_below_drewN | apply below_drew1) | exact HB.out)) hb); have n1_ := Aside0.mk (hbox); have n2_ := Aside0.mk ((by rw [hg]; exact (below_size (by repeat (first | (with_reducible first | exact HB.out | apply below_alloc | apply pw_below_drewN | apply below_drew1) | exact HB.out))) : w.heap.size ≤ gb176)); have n3_ := Aside0.mk ((by rw [hg]; exact (below_size (by repeat (first | (with_reducible first | exact HB.out | apply below_alloc | apply pw_below_drewN | apply below_drew1) | exact HB.out))) : w.heap.size ≤ gb176)); clear HB; have HB := n0_; have BK176 := n1_; have GW176 := n2_; have GE176 := n3_; clear n0_ n1_ n2_ n3_; clear hb hbox hg) | ((with_reducible refine gate_dst (N := 3) rfl ?_); (try (refine gate_guard (by rfl) ?_; dsimp only)); refine box_event ?hg (N := 3) ?hd (cs := #[.int .i64 a1_0, .int .i64 a1_1, .string a1_2, .slice A1_3 l1_3.length c1_3, .slice A1_4 l1_4.length c1_4]) (t := 25) ?hr ?_; (case hd => rfl); (case hg => rfl); (case hr => first | (go_simp; done) | (go_simp; rfl)); intro gb177 hg w5 hbox hb; have n0_ := Aside0.mk (blk_below (g := gb176) (o := .cells #[.int .i64 a0_0, .int .i64 a0_1, .string a0_2, .slice A0_3 l0_3.length c0_3, .slice A0_4 l0_4.length c0_4] 25 (0, 0)) (by (with_reducible repeat (first | refine blk_drewN ?_ _ | refine blk_drew ?_ | refine blk_alloc ?_ _)); exact BK176.out) hb); have n1_ := Aside0.mk (below_step (by repeat (first | (with_reducible first | exact HB.out | apply below_alloc | apply pw_below_drewN | apply below_drew1 | refine below_set ?_ GE176.out) | exact HB.out)) hb); have n2_ := Aside0.mk (hbox); have n3_ := Aside0.mk ((by rw [hg]; exact (below_size (by repeat (first | (with_reducible first | exact HB.out | apply below_alloc | apply pw_below_drewN | apply below_drew1 | refine below_set ?_ GE176.out) | exact HB.out))) : w.heap.size ≤ gb177)); have n4_ := Aside0.mk ((by rw [hg]; exact (below_size (by repeat (first | (with_reducible first | exact HB.out | apply below_alloc | apply pw_below_drewN | apply below_drew1 | refine below_set ?_ GE176.out) | exact HB.out))) : w.heap.size ≤ gb177)); have n5_ := Aside0.mk ((by rw [hg]; exact Nat.ne_of_lt (blk_lt (g := gb176) (o := .cells #[.int .i64 a0_0, .int .i64 a0_1, .string a0_2, .slice A0_3 l0_3.length c0_3, .slice A0_4 l0_4.length c0_4] 25 (0, 0)) (by (with_reducible repeat (first | refine blk_drewN ?_ _ | refine blk_drew ?_ | refine blk_alloc ?_ _)); exact BK176.out)) : gb176 ≠ gb177)); have n6_ := Aside0.mk ((by rw [hg]; exact Nat.ne_of_gt (blk_lt (g := gb176) (o := .cells #[.int .i64 a0_0, .int .i64 a0_1, .string a0_2, .slice A0_3 l0_3.length c0_3, .slice A0_4 l0_4.length c0_4] 25 (0, 0)) (by (with_reducible repeat (first | refine blk_drewN ?_ _ | refine blk_drew ?_ | refine blk_alloc ?_ _)); exact BK176.out)) : gb177 ≠ gb176)); clear BK176; clear HB; have BK176 := n0_; have HB := n1_; have BK177 := n2_; have GW177 := n3_; have GE177 := n4_; have NB176_177 := n5_; have NB177_176 := n6_; clear n0_ n1_ n2_ n3_ n4_ n5_ n6_; clear hb hbox hg))
  (try simp only [Act.put, List.setIfInBounds_toArray, List.set_cons_zero, List.set_cons_succ])
  go_cut [] (fun wc => ∃ (kq : Nat), Aside0 (scrupleref03_order.j1 kq a0_0 a0_1 a0_2 l0_3 l0_4 a1_0 a1_1 a1_2 l1_3 l1_4 = some r) ∧ Aside0 (kq ≤ k) ∧ Aside0 (wc.heap[gb176]? = some (.cells #[.int .i64 a0_0, .int .i64 a0_1, .string a0_2, (.slice A0_3 l0_3.length c0_3), (.slice A0_4 l0_4.length c0_4)] 25 (0, 0))) ∧ Aside0 (wc.heap[gb177]? = some (.cells #[.int .i64 a1_0, .int .i64 a1_1, .string a1_2, (.slice A1_3 l1_3.length c1_3), (.slice A1_4 l1_4.length c1_4)] 25 (0, 0))) ∧ Aside0 (Below w.heap.size w wc))
  case first =>
    have H := HC3.out
    clear HC3
    have HC6 := Aside0.mk H
    clear H
    go_upto_region 1 with (fail)
    go_cut [7] (fun v7 wc => ∃ (kq : Nat) (x7_5 : Bool), v7 = .bool x7_5 ∧ Aside0 (scrupleref03_order.j0 kq x7_5 a0_0 a0_1 a0_2 l0_3 l0_4 a1_0 a1_1 a1_2 l1_3 l1_4 = some r) ∧ Aside0 (kq ≤ k) ∧ Aside0 (wc.heap[gb176]? = some (.cells #[.int .i64 a0_0, .int .i64 a0_1, .string a0_2, (.slice A0_3 l0_3.length c0_3), (.slice A0_4 l0_4.length c0_4)] 25 (0, 0))) ∧ Aside0 (wc.heap[gb177]? = some (.cells #[.int .i64 a1_0, .int .i64 a1_1, .string a1_2, (.slice A1_3 l1_3.length c1_3), (.slice A1_4 l1_4.length c1_4)] 25 (0, 0))) ∧ Aside0 (Below w.heap.size w wc))
    case first =>
      have H := HC6.out
      clear HC6
      by_cases c7 : a0_0 < a1_0
      · rw [if_pos c7] at H
        have c7b0 : decide (a0_0 < a1_0) = true := decide_eq_true c7
        clear c7
        (first | rw [c7b0] | (simp only [i64_w, i32_w]; rw [c7b0]) | skip)
        have H' := Aside0.mk H
        clear H
        have hnb8 := NB176_177.out
        have hnc8 := NB177_176.out
        have hcz9_0 : w5.cell? ⟨gb176, 0, none⟩ = some (.int .i64 a0_0) := (blk_cell BK176.out 0).trans rfl
        have hcz9_1 : w5.cell? ⟨gb176, 1, none⟩ = some (.int .i64 a0_1) := (blk_cell BK176.out 1).trans rfl
        have hcz9_2 : w5.cell? ⟨gb176, 2, none⟩ = some (.string a0_2) := (blk_cell BK176.out 2).trans rfl
        have hcz9_3 : w5.cell? ⟨gb176, 3, none⟩ = some (.slice A0_3 l0_3.length c0_3) := (blk_cell BK176.out 3).trans rfl
        have hcz9_4 : w5.cell? ⟨gb176, 4, none⟩ = some (.slice A0_4 l0_4.length c0_4) := (blk_cell BK176.out 4).trans rfl
        have hfz9_0 := blk_frozen BK176.out 0
        have hfz9_1 := blk_frozen BK176.out 1
        have hfz9_2 := blk_frozen BK176.out 2
        have hfz9_3 := blk_frozen BK176.out 3
        have hfz9_4 := blk_frozen BK176.out 4
        have hcz10_0 : w5.cell? ⟨gb177, 0, none⟩ = some (.int .i64 a1_0) := (blk_cell BK177.out 0).trans rfl
        have hcz10_1 : w5.cell? ⟨gb177, 1, none⟩ = some (.int .i64 a1_1) := (blk_cell BK177.out 1).trans rfl
        have hcz10_2 : w5.cell? ⟨gb177, 2, none⟩ = some (.string a1_2) := (blk_cell BK177.out 2).trans rfl
        have hcz10_3 : w5.cell? ⟨gb177, 3, none⟩ = some (.slice A1_3 l1_3.length c1_3) := (blk_cell BK177.out 3).trans rfl
        have hcz10_4 : w5.cell? ⟨gb177, 4, none⟩ = some (.slice A1_4 l1_4.length c1_4) := (blk_cell BK177.out 4).trans rfl
        have hfz10_0 := blk_frozen BK177.out 0
        have hfz10_1 := blk_frozen BK177.out 1
        have hfz10_2 := blk_frozen BK177.out 2
        have hfz10_3 := blk_frozen BK177.out 3
        have hfz10_4 := blk_frozen BK177.out 4
        go_wp2
        go_meet
        case rel => exact ⟨_, (true), (by first | rfl | (simp; done) | (simp [*]; done)), H', ⟨by first | omega | exact Nat.le_refl _⟩, ⟨by (with_reducible repeat (first | refine blk_drewN ?_ _ | refine blk_drew ?_ | refine blk_alloc ?_ _)); exact BK176.out⟩, ⟨by (with_reducible repeat (first | refine blk_drewN ?_ _ | refine blk_drew ?_ | refine blk_alloc ?_ _)); exact BK177.out⟩, ⟨by repeat (first | (with_reducible first | exact HB.out | apply below_alloc | apply pw_below_drewN | apply below_drew1 | refine below_set ?_ GE176.out | refine below_set ?_ GE177.out) | exact HB.out)⟩⟩
      · rw [if_neg c7] at H
        have c7b0 : decide (a0_0 < a1_0) = false := decide_eq_false c7
        clear c7
        (first | rw [c7b0] | (simp only [i64_w, i32_w]; rw [c7b0]) | skip)
        by_cases c11 : a0_0 = a1_0
        · rw [if_pos c11] at H
          have c11b0 : (a0_0 == a1_0) = true := beq_iff_eq.mpr c11
          have c11b1 : (a0_0 != a1_0) = false := bne_eq_false_iff_eq.mpr c11
          clear c11
          have H' := Aside0.mk H
          clear H
          have hnb12 := NB176_177.out
          have hnc12 := NB177_176.out
          have hcz13_0 : w5.cell? ⟨gb176, 0, none⟩ = some (.int .i64 a0_0) := (blk_cell BK176.out 0).trans rfl
          have hcz13_1 : w5.cell? ⟨gb176, 1, none⟩ = some (.int .i64 a0_1) := (blk_cell BK176.out 1).trans rfl
          have hcz13_2 : w5.cell? ⟨gb176, 2, none⟩ = some (.string a0_2) := (blk_cell BK176.out 2).trans rfl
          have hcz13_3 : w5.cell? ⟨gb176, 3, none⟩ = some (.slice A0_3 l0_3.length c0_3) := (blk_cell BK176.out 3).trans rfl
          have hcz13_4 : w5.cell? ⟨gb176, 4, none⟩ = some (.slice A0_4 l0_4.length c0_4) := (blk_cell BK176.out 4).trans rfl
          have hfz13_0 := blk_frozen BK176.out 0
          have hfz13_1 := blk_frozen BK176.out 1
          have hfz13_2 := blk_frozen BK176.out 2
          have hfz13_3 := blk_frozen BK176.out 3
          have hfz13_4 := blk_frozen BK176.out 4
          have hcz14_0 : w5.cell? ⟨gb177, 0, none⟩ = some (.int .i64 a1_0) := (blk_cell BK177.out 0).trans rfl
          have hcz14_1 : w5.cell? ⟨gb177, 1, none⟩ = some (.int .i64 a1_1) := (blk_cell BK177.out 1).trans rfl
          have hcz14_2 : w5.cell? ⟨gb177, 2, none⟩ = some (.string a1_2) := (blk_cell BK177.out 2).trans rfl
          have hcz14_3 : w5.cell? ⟨gb177, 3, none⟩ = some (.slice A1_3 l1_3.length c1_3) := (blk_cell BK177.out 3).trans rfl
          have hcz14_4 : w5.cell? ⟨gb177, 4, none⟩ = some (.slice A1_4 l1_4.length c1_4) := (blk_cell BK177.out 4).trans rfl
          have hfz14_0 := blk_frozen BK177.out 0
          have hfz14_1 := blk_frozen BK177.out 1
          have hfz14_2 := blk_frozen BK177.out 2
          have hfz14_3 := blk_frozen BK177.out 3
          have hfz14_4 := blk_frozen BK177.out 4
          go_wp2
          go_meet
          case rel => exact ⟨_, (decide (a0_1 < a1_1)), (by first | rfl | (simp; done) | (simp [*]; done)), H', ⟨by first | omega | exact Nat.le_refl _⟩, ⟨by (with_reducible repeat (first | refine blk_drewN ?_ _ | refine blk_drew ?_ | refine blk_alloc ?_ _)); exact BK176.out⟩, ⟨by (with_reducible repeat (first | refine blk_drewN ?_ _ | refine blk_drew ?_ | refine blk_alloc ?_ _)); exact BK177.out⟩, ⟨by repeat (first | (with_reducible first | exact HB.out | apply below_alloc | apply pw_below_drewN | apply below_drew1 | refine below_set ?_ GE176.out | refine below_set ?_ GE177.out) | exact HB.out)⟩⟩
        · rw [if_neg c11] at H
          have c11b0 : (a0_0 == a1_0) = false := beq_eq_false_iff_ne.mpr c11
          have c11b1 : (a0_0 != a1_0) = true := bne_iff_ne.mpr c11
          have H' := Aside0.mk H
          clear H
          have hnb15 := NB176_177.out
          have hnc15 := NB177_176.out
          have hcz16_0 : w5.cell? ⟨gb176, 0, none⟩ = some (.int .i64 a0_0) := (blk_cell BK176.out 0).trans rfl
          have hcz16_1 : w5.cell? ⟨gb176, 1, none⟩ = some (.int .i64 a0_1) := (blk_cell BK176.out 1).trans rfl
          have hcz16_2 : w5.cell? ⟨gb176, 2, none⟩ = some (.string a0_2) := (blk_cell BK176.out 2).trans rfl
          have hcz16_3 : w5.cell? ⟨gb176, 3, none⟩ = some (.slice A0_3 l0_3.length c0_3) := (blk_cell BK176.out 3).trans rfl
          have hcz16_4 : w5.cell? ⟨gb176, 4, none⟩ = some (.slice A0_4 l0_4.length c0_4) := (blk_cell BK176.out 4).trans rfl
          have hfz16_0 := blk_frozen BK176.out 0
          have hfz16_1 := blk_frozen BK176.out 1
          have hfz16_2 := blk_frozen BK176.out 2
          have hfz16_3 := blk_frozen BK176.out 3
          have hfz16_4 := blk_frozen BK176.out 4
          have hcz17_0 : w5.cell? ⟨gb177, 0, none⟩ = some (.int .i64 a1_0) := (blk_cell BK177.out 0).trans rfl
          have hcz17_1 : w5.cell? ⟨gb177, 1, none⟩ = some (.int .i64 a1_1) := (blk_cell BK177.out 1).trans rfl
          have hcz17_2 : w5.cell? ⟨gb177, 2, none⟩ = some (.string a1_2) := (blk_cell BK177.out 2).trans rfl
          have hcz17_3 : w5.cell? ⟨gb177, 3, none⟩ = some (.slice A1_3 l1_3.length c1_3) := (blk_cell BK177.out 3).trans rfl
          have hcz17_4 : w5.cell? ⟨gb177, 4, none⟩ = some (.slice A1_4 l1_4.length c1_4) := (blk_cell BK177.out 4).trans rfl
          have hfz17_0 := blk_frozen BK177.out 0
          have hfz17_1 := blk_frozen BK177.out 1
          have hfz17_2 := blk_frozen BK177.out 2
          have hfz17_3 := blk_frozen BK177.out 3
          have hfz17_4 := blk_frozen BK177.out 4
          go_wp2
          go_meet
          case rel => exact ⟨_, (false), (by first | rfl | (simp; done) | (simp [*]; done)), H', ⟨by first | omega | exact Nat.le_refl _⟩, ⟨by (with_reducible repeat (first | refine blk_drewN ?_ _ | refine blk_drew ?_ | refine blk_alloc ?_ _)); exact BK176.out⟩, ⟨by (with_reducible repeat (first | refine blk_drewN ?_ _ | refine blk_drew ?_ | refine blk_alloc ?_ _)); exact BK177.out⟩, ⟨by repeat (first | (with_reducible first | exact HB.out | apply below_alloc | apply pw_below_drewN | apply below_drew1 | refine below_set ?_ GE176.out | refine below_set ?_ GE177.out) | exact HB.out)⟩⟩
    case rest =>
      clear HC6
      try clear c1
      try clear p2
      try clear c3
      try clear c7
      try clear c7b0
      try clear c8
      try clear c11
      try clear c11b0
      try clear c11b1
      try clear c12
      try clear c15
      try clear hcz10_0
      try clear hcz10_1
      try clear hcz10_2
      try clear hcz10_3
      try clear hcz10_4
      try clear hcz13_0
      try clear hcz13_1
      try clear hcz13_2
      try clear hcz13_3
      try clear hcz13_4
      try clear hcz14_0
      try clear hcz14_1
      try clear hcz14_2
      try clear hcz14_3
      try clear hcz14_4
      try clear hcz16_0
      try clear hcz16_1
      try clear hcz16_2
      try clear hcz16_3
      try clear hcz16_4
      try clear hcz17_0
      try clear hcz17_1
      try clear hcz17_2
      try clear hcz17_3
      try clear hcz17_4
      try clear hcz9_0
      try clear hcz9_1
      try clear hcz9_2
      try clear hcz9_3
      try clear hcz9_4
      try clear hfz10_0
      try clear hfz10_1
      try clear hfz10_2
      try clear hfz10_3
      try clear hfz10_4
      try clear hfz13_0
      try clear hfz13_1
      try clear hfz13_2
      try clear hfz13_3
      try clear hfz13_4
      try clear hfz14_0
      try clear hfz14_1
      try clear hfz14_2
      try clear hfz14_3
      try clear hfz14_4
      try clear hfz16_0
      try clear hfz16_1
      try clear hfz16_2
      try clear hfz16_3
      try clear hfz16_4
      try clear hfz17_0
      try clear hfz17_1
      try clear hfz17_2
      try clear hfz17_3
      try clear hfz17_4
      try clear hfz9_0
      try clear hfz9_1
      try clear hfz9_2
      try clear hfz9_3
      try clear hfz9_4
      obtain ⟨kq, x7_5, rfl, HA, HJ5, BK176, BK177, HB⟩ := hcut
      cases kq with
      | zero => exact absurd HA.out (by simp [scrupleref03_order.j0])
      | succ kj5 =>
        have H := HA.out
        clear HA
        simp only [scrupleref03_order.j0] at H
        by_cases c18 : x7_5 = true
        · subst c18
          have H1 : (some (-1)) = some r := by rw [if_pos rfl] at H; exact H
          clear H
          have H := H1
          clear H1
          obtain rfl := Option.some.inj H
          simp only [Option.some.injEq, Prod.mk.injEq] at H
          obtain ⟨rfl⟩ := H
          go_wp2
          go_ret
          exact ⟨by first | rfl | (simp [errW_none, errW_some] <;> rfl) | (simp [*, errW_none, errW_some] <;> rfl), by repeat (first | (with_reducible first | exact HB.out | apply below_alloc | apply pw_below_drewN | apply below_drew1 | refine below_set ?_ GE176.out | refine below_set ?_ GE177.out) | exact HB.out)⟩
        · replace c18 := Bool.eq_false_iff.mpr c18
          subst c18
          have H1 : (if a0_0 > a1_0 then (some 1) else (if a0_0 = a1_0 then (if a0_1 > a1_1 then (some 1) else (scrupleref03_order.j1 kj5 a0_0 a0_1 a0_2 l0_3 l0_4 a1_0 a1_1 a1_2 l1_3 l1_4)) else (scrupleref03_order.j1 kj5 a0_0 a0_1 a0_2 l0_3 l0_4 a1_0 a1_1 a1_2 l1_3 l1_4))) = some r := by rw [if_neg (show ¬ (false = true) by decide)] at H; exact H
          clear H
          have H := H1
          clear H1
          by_cases c19 : a0_0 > a1_0
          · rw [if_pos c19] at H
            have c19b0 : decide (a1_0 < a0_0) = true := decide_eq_true c19
            clear c19
            obtain rfl := Option.some.inj H
            simp only [Option.some.injEq, Prod.mk.injEq] at H
            obtain ⟨rfl⟩ := H
            have hnb20 := NB176_177.out
            have hnc20 := NB177_176.out
            have hcz21_0 : wc.cell? ⟨gb176, 0, none⟩ = some (.int .i64 a0_0) := (blk_cell BK176.out 0).trans rfl
            have hcz21_1 : wc.cell? ⟨gb176, 1, none⟩ = some (.int .i64 a0_1) := (blk_cell BK176.out 1).trans rfl
            have hcz21_2 : wc.cell? ⟨gb176, 2, none⟩ = some (.string a0_2) := (blk_cell BK176.out 2).trans rfl
            have hcz21_3 : wc.cell? ⟨gb176, 3, none⟩ = some (.slice A0_3 l0_3.length c0_3) := (blk_cell BK176.out 3).trans rfl
            have hcz21_4 : wc.cell? ⟨gb176, 4, none⟩ = some (.slice A0_4 l0_4.length c0_4) := (blk_cell BK176.out 4).trans rfl
            have hfz21_0 := blk_frozen BK176.out 0
            have hfz21_1 := blk_frozen BK176.out 1
            have hfz21_2 := blk_frozen BK176.out 2
            have hfz21_3 := blk_frozen BK176.out 3
            have hfz21_4 := blk_frozen BK176.out 4
            have hcz22_0 : wc.cell? ⟨gb177, 0, none⟩ = some (.int .i64 a1_0) := (blk_cell BK177.out 0).trans rfl
            have hcz22_1 : wc.cell? ⟨gb177, 1, none⟩ = some (.int .i64 a1_1) := (blk_cell BK177.out 1).trans rfl
            have hcz22_2 : wc.cell? ⟨gb177, 2, none⟩ = some (.string a1_2) := (blk_cell BK177.out 2).trans rfl
            have hcz22_3 : wc.cell? ⟨gb177, 3, none⟩ = some (.slice A1_3 l1_3.length c1_3) := (blk_cell BK177.out 3).trans rfl
            have hcz22_4 : wc.cell? ⟨gb177, 4, none⟩ = some (.slice A1_4 l1_4.length c1_4) := (blk_cell BK177.out 4).trans rfl
            have hfz22_0 := blk_frozen BK177.out 0
            have hfz22_1 := blk_frozen BK177.out 1
            have hfz22_2 := blk_frozen BK177.out 2
            have hfz22_3 := blk_frozen BK177.out 3
            have hfz22_4 := blk_frozen BK177.out 4
            go_wp2
            go_ret
            exact ⟨by first | rfl | (simp [errW_none, errW_some] <;> rfl) | (simp [*, errW_none, errW_some] <;> rfl), by repeat (first | (with_reducible first | exact HB.out | apply below_alloc | apply pw_below_drewN | apply below_drew1 | refine below_set ?_ GE176.out | refine below_set ?_ GE177.out) | exact HB.out)⟩
          · rw [if_neg c19] at H
            have c19b0 : decide (a1_0 < a0_0) = false := decide_eq_false c19
            clear c19
            by_cases c23 : a0_0 = a1_0
            · rw [if_pos c23] at H
              have c23b0 : (a0_0 == a1_0) = true := beq_iff_eq.mpr c23
              have c23b1 : (a0_0 != a1_0) = false := bne_eq_false_iff_eq.mpr c23
              clear c23
              by_cases c24 : a0_1 > a1_1
              · rw [if_pos c24] at H
                have c24b0 : decide (a1_1 < a0_1) = true := decide_eq_true c24
                clear c24
                obtain rfl := Option.some.inj H
                simp only [Option.some.injEq, Prod.mk.injEq] at H
                obtain ⟨rfl⟩ := H
                have hnb25 := NB176_177.out
                have hnc25 := NB177_176.out
                have hcz26_0 : wc.cell? ⟨gb176, 0, none⟩ = some (.int .i64 a0_0) := (blk_cell BK176.out 0).trans rfl
                have hcz26_1 : wc.cell? ⟨gb176, 1, none⟩ = some (.int .i64 a0_1) := (blk_cell BK176.out 1).trans rfl
                have hcz26_2 : wc.cell? ⟨gb176, 2, none⟩ = some (.string a0_2) := (blk_cell BK176.out 2).trans rfl
                have hcz26_3 : wc.cell? ⟨gb176, 3, none⟩ = some (.slice A0_3 l0_3.length c0_3) := (blk_cell BK176.out 3).trans rfl
                have hcz26_4 : wc.cell? ⟨gb176, 4, none⟩ = some (.slice A0_4 l0_4.length c0_4) := (blk_cell BK176.out 4).trans rfl
                have hfz26_0 := blk_frozen BK176.out 0
                have hfz26_1 := blk_frozen BK176.out 1
                have hfz26_2 := blk_frozen BK176.out 2
                have hfz26_3 := blk_frozen BK176.out 3
                have hfz26_4 := blk_frozen BK176.out 4
                have hcz27_0 : wc.cell? ⟨gb177, 0, none⟩ = some (.int .i64 a1_0) := (blk_cell BK177.out 0).trans rfl
                have hcz27_1 : wc.cell? ⟨gb177, 1, none⟩ = some (.int .i64 a1_1) := (blk_cell BK177.out 1).trans rfl
                have hcz27_2 : wc.cell? ⟨gb177, 2, none⟩ = some (.string a1_2) := (blk_cell BK177.out 2).trans rfl
                have hcz27_3 : wc.cell? ⟨gb177, 3, none⟩ = some (.slice A1_3 l1_3.length c1_3) := (blk_cell BK177.out 3).trans rfl
                have hcz27_4 : wc.cell? ⟨gb177, 4, none⟩ = some (.slice A1_4 l1_4.length c1_4) := (blk_cell BK177.out 4).trans rfl
                have hfz27_0 := blk_frozen BK177.out 0
                have hfz27_1 := blk_frozen BK177.out 1
                have hfz27_2 := blk_frozen BK177.out 2
                have hfz27_3 := blk_frozen BK177.out 3
                have hfz27_4 := blk_frozen BK177.out 4
                go_wp2
                go_ret
                exact ⟨by first | rfl | (simp [errW_none, errW_some] <;> rfl) | (simp [*, errW_none, errW_some] <;> rfl), by repeat (first | (with_reducible first | exact HB.out | apply below_alloc | apply pw_below_drewN | apply below_drew1 | refine below_set ?_ GE176.out | refine below_set ?_ GE177.out) | exact HB.out)⟩
              · rw [if_neg c24] at H
                have c24b0 : decide (a1_1 < a0_1) = false := decide_eq_false c24
                clear c24
                have H' := Aside0.mk H
                clear H
                have hnb28 := NB176_177.out
                have hnc28 := NB177_176.out
                have hcz29_0 : wc.cell? ⟨gb176, 0, none⟩ = some (.int .i64 a0_0) := (blk_cell BK176.out 0).trans rfl
                have hcz29_1 : wc.cell? ⟨gb176, 1, none⟩ = some (.int .i64 a0_1) := (blk_cell BK176.out 1).trans rfl
                have hcz29_2 : wc.cell? ⟨gb176, 2, none⟩ = some (.string a0_2) := (blk_cell BK176.out 2).trans rfl
                have hcz29_3 : wc.cell? ⟨gb176, 3, none⟩ = some (.slice A0_3 l0_3.length c0_3) := (blk_cell BK176.out 3).trans rfl
                have hcz29_4 : wc.cell? ⟨gb176, 4, none⟩ = some (.slice A0_4 l0_4.length c0_4) := (blk_cell BK176.out 4).trans rfl
                have hfz29_0 := blk_frozen BK176.out 0
                have hfz29_1 := blk_frozen BK176.out 1
                have hfz29_2 := blk_frozen BK176.out 2
                have hfz29_3 := blk_frozen BK176.out 3
                have hfz29_4 := blk_frozen BK176.out 4
                have hcz30_0 : wc.cell? ⟨gb177, 0, none⟩ = some (.int .i64 a1_0) := (blk_cell BK177.out 0).trans rfl
                have hcz30_1 : wc.cell? ⟨gb177, 1, none⟩ = some (.int .i64 a1_1) := (blk_cell BK177.out 1).trans rfl
                have hcz30_2 : wc.cell? ⟨gb177, 2, none⟩ = some (.string a1_2) := (blk_cell BK177.out 2).trans rfl
                have hcz30_3 : wc.cell? ⟨gb177, 3, none⟩ = some (.slice A1_3 l1_3.length c1_3) := (blk_cell BK177.out 3).trans rfl
                have hcz30_4 : wc.cell? ⟨gb177, 4, none⟩ = some (.slice A1_4 l1_4.length c1_4) := (blk_cell BK177.out 4).trans rfl
                have hfz30_0 := blk_frozen BK177.out 0
                have hfz30_1 := blk_frozen BK177.out 1
                have hfz30_2 := blk_frozen BK177.out 2
                have hfz30_3 := blk_frozen BK177.out 3
                have hfz30_4 := blk_frozen BK177.out 4
                go_wp2
                go_meet
                case rel => exact ⟨_, H', ⟨by have := HJ5.out; first | omega | exact Nat.le_refl _⟩, ⟨by (with_reducible repeat (first | refine blk_drewN ?_ _ | refine blk_drew ?_ | refine blk_alloc ?_ _)); exact BK176.out⟩, ⟨by (with_reducible repeat (first | refine blk_drewN ?_ _ | refine blk_drew ?_ | refine blk_alloc ?_ _)); exact BK177.out⟩, ⟨by repeat (first | (with_reducible first | exact HB.out | apply below_alloc | apply pw_below_drewN | apply below_drew1 | refine below_set ?_ GE176.out | refine below_set ?_ GE177.out) | exact HB.out)⟩⟩
            · rw [if_neg c23] at H
              have c23b0 : (a0_0 == a1_0) = false := beq_eq_false_iff_ne.mpr c23
              have c23b1 : (a0_0 != a1_0) = true := bne_iff_ne.mpr c23
              have H' := Aside0.mk H
              clear H
              have hnb31 := NB176_177.out
              have hnc31 := NB177_176.out
              have hcz32_0 : wc.cell? ⟨gb176, 0, none⟩ = some (.int .i64 a0_0) := (blk_cell BK176.out 0).trans rfl
              have hcz32_1 : wc.cell? ⟨gb176, 1, none⟩ = some (.int .i64 a0_1) := (blk_cell BK176.out 1).trans rfl
              have hcz32_2 : wc.cell? ⟨gb176, 2, none⟩ = some (.string a0_2) := (blk_cell BK176.out 2).trans rfl
              have hcz32_3 : wc.cell? ⟨gb176, 3, none⟩ = some (.slice A0_3 l0_3.length c0_3) := (blk_cell BK176.out 3).trans rfl
              have hcz32_4 : wc.cell? ⟨gb176, 4, none⟩ = some (.slice A0_4 l0_4.length c0_4) := (blk_cell BK176.out 4).trans rfl
              have hfz32_0 := blk_frozen BK176.out 0
              have hfz32_1 := blk_frozen BK176.out 1
              have hfz32_2 := blk_frozen BK176.out 2
              have hfz32_3 := blk_frozen BK176.out 3
              have hfz32_4 := blk_frozen BK176.out 4
              have hcz33_0 : wc.cell? ⟨gb177, 0, none⟩ = some (.int .i64 a1_0) := (blk_cell BK177.out 0).trans rfl
              have hcz33_1 : wc.cell? ⟨gb177, 1, none⟩ = some (.int .i64 a1_1) := (blk_cell BK177.out 1).trans rfl
              have hcz33_2 : wc.cell? ⟨gb177, 2, none⟩ = some (.string a1_2) := (blk_cell BK177.out 2).trans rfl
              have hcz33_3 : wc.cell? ⟨gb177, 3, none⟩ = some (.slice A1_3 l1_3.length c1_3) := (blk_cell BK177.out 3).trans rfl
              have hcz33_4 : wc.cell? ⟨gb177, 4, none⟩ = some (.slice A1_4 l1_4.length c1_4) := (blk_cell BK177.out 4).trans rfl
              have hfz33_0 := blk_frozen BK177.out 0
              have hfz33_1 := blk_frozen BK177.out 1
              have hfz33_2 := blk_frozen BK177.out 2
              have hfz33_3 := blk_frozen BK177.out 3
              have hfz33_4 := blk_frozen BK177.out 4
              go_wp2
              go_meet
              case rel => exact ⟨_, H', ⟨by have := HJ5.out; first | omega | exact Nat.le_refl _⟩, ⟨by (with_reducible repeat (first | refine blk_drewN ?_ _ | refine blk_drew ?_ | refine blk_alloc ?_ _)); exact BK176.out⟩, ⟨by (with_reducible repeat (first | refine blk_drewN ?_ _ | refine blk_drew ?_ | refine blk_alloc ?_ _)); exact BK177.out⟩, ⟨by repeat (first | (with_reducible first | exact HB.out | apply below_alloc | apply pw_below_drewN | apply below_drew1 | refine below_set ?_ GE176.out | refine below_set ?_ GE177.out) | exact HB.out)⟩⟩
  case rest =>
    clear HC3
    try clear c1
    try clear c2
    try clear p2
    try clear c3
    try clear c7
    try clear c7b0
    try clear c8
    try clear c11
    try clear c11b0
    try clear c11b1
    try clear c12
    try clear c15
    try clear c18
    try clear c19
    try clear c19b0
    try clear c20
    try clear c23
    try clear c23b0
    try clear c23b1
    try clear c24
    try clear c24b0
    try clear c25
    try clear c28
    try clear c31
    try clear c33
    try clear hcz10_0
    try clear hcz10_1
    try clear hcz10_2
    try clear hcz10_3
    try clear hcz10_4
    try clear hcz13_0
    try clear hcz13_1
    try clear hcz13_2
    try clear hcz13_3
    try clear hcz13_4
    try clear hcz14_0
    try clear hcz14_1
    try clear hcz14_2
    try clear hcz14_3
    try clear hcz14_4
    try clear hcz16_0
    try clear hcz16_1
    try clear hcz16_2
    try clear hcz16_3
    try clear hcz16_4
    try clear hcz17_0
    try clear hcz17_1
    try clear hcz17_2
    try clear hcz17_3
    try clear hcz17_4
    try clear hcz21_0
    try clear hcz21_1
    try clear hcz21_2
    try clear hcz21_3
    try clear hcz21_4
    try clear hcz22_0
    try clear hcz22_1
    try clear hcz22_2
    try clear hcz22_3
    try clear hcz22_4
    try clear hcz26_0
    try clear hcz26_1
    try clear hcz26_2
    try clear hcz26_3
    try clear hcz26_4
    try clear hcz27_0
    try clear hcz27_1
    try clear hcz27_2
    try clear hcz27_3
    try clear hcz27_4
    try clear hcz29_0
    try clear hcz29_1
    try clear hcz29_2
    try clear hcz29_3
    try clear hcz29_4
    try clear hcz30_0
    try clear hcz30_1
    try clear hcz30_2
    try clear hcz30_3
    try clear hcz30_4
    try clear hcz32_0
    try clear hcz32_1
    try clear hcz32_2
    try clear hcz32_3
    try clear hcz32_4
    try clear hcz33_0
    try clear hcz33_1
    try clear hcz33_2
    try clear hcz33_3
    try clear hcz33_4
    try clear hcz9_0
    try clear hcz9_1
    try clear hcz9_2
    try clear hcz9_3
    try clear hcz9_4
    try clear hfz10_0
    try clear hfz10_1
    try clear hfz10_2
    try clear hfz10_3
    try clear hfz10_4
    try clear hfz13_0
    try clear hfz13_1
    try clear hfz13_2
    try clear hfz13_3
    try clear hfz13_4
    try clear hfz14_0
    try clear hfz14_1
    try clear hfz14_2
    try clear hfz14_3
    try clear hfz14_4
    try clear hfz16_0
    try clear hfz16_1
    try clear hfz16_2
    try clear hfz16_3
    try clear hfz16_4
    try clear hfz17_0
    try clear hfz17_1
    try clear hfz17_2
    try clear hfz17_3
    try clear hfz17_4
    try clear hfz21_0
    try clear hfz21_1
    try clear hfz21_2
    try clear hfz21_3
    try clear hfz21_4
    try clear hfz22_0
    try clear hfz22_1
    try clear hfz22_2
    try clear hfz22_3
    try clear hfz22_4
    try clear hfz26_0
    try clear hfz26_1
    try clear hfz26_2
    try clear hfz26_3
    try clear hfz26_4
    try clear hfz27_0
    try clear hfz27_1
    try clear hfz27_2
    try clear hfz27_3
    try clear hfz27_4
    try clear hfz29_0
    try clear hfz29_1
    try clear hfz29_2
    try clear hfz29_3
    try clear hfz29_4
    try clear hfz30_0
    try clear hfz30_1
    try clear hfz30_2
    try clear hfz30_3
    try clear hfz30_4
    try clear hfz32_0
    try clear hfz32_1
    try clear hfz32_2
    try clear hfz32_3
    try clear hfz32_4
    try clear hfz33_0
    try clear hfz33_1
    try clear hfz33_2
    try clear hfz33_3
    try clear hfz33_4
    try clear hfz9_0
    try clear hfz9_1
    try clear hfz9_2
    try clear hfz9_3
    try clear hfz9_4
    try clear p2
    obtain ⟨kq, HA, HJ2, BK176, BK177, HB⟩ := hcut
    cases kq with
    | zero => exact absurd HA.out (by simp [scrupleref03_order.j1])
    | succ kj2 =>
      have H := HA.out
      clear HA
      simp only [scrupleref03_order.j1] at H
      replace H := Option.bind_eq_some_iff.mp H
      obtain ⟨t178, A340, H⟩ := H
      replace H : (scrupleref03_order.l0 kj2 t178 0 a0_0 a0_1 a0_2 l0_3 l0_4 a1_0 a1_1 a1_2 l1_3 l1_4) = some r := H
      have A34 := Aside0.mk A340
      clear A340
      have H' := Aside0.mk H
      clear H
      have hnb35 := NB176_177.out
      have hnc35 := NB177_176.out
      have hcz36_0 : wc.cell? ⟨gb176, 0, none⟩ = some (.int .i64 a0_0) := (blk_cell BK176.out 0).trans rfl
      have hcz36_1 : wc.cell? ⟨gb176, 1, none⟩ = some (.int .i64 a0_1) := (blk_cell BK176.out 1).trans rfl
      have hcz36_2 : wc.cell? ⟨gb176, 2, none⟩ = some (.string a0_2) := (blk_cell BK176.out 2).trans rfl
      have hcz36_3 : wc.cell? ⟨gb176, 3, none⟩ = some (.slice A0_3 l0_3.length c0_3) := (blk_cell BK176.out 3).trans rfl
      have hcz36_4 : wc.cell? ⟨gb176, 4, none⟩ = some (.slice A0_4 l0_4.length c0_4) := (blk_cell BK176.out 4).trans rfl
      have hfz36_0 := blk_frozen BK176.out 0
      have hfz36_1 := blk_frozen BK176.out 1
      have hfz36_2 := blk_frozen BK176.out 2
      have hfz36_3 := blk_frozen BK176.out 3
      have hfz36_4 := blk_frozen BK176.out 4
      have hcz37_0 : wc.cell? ⟨gb177, 0, none⟩ = some (.int .i64 a1_0) := (blk_cell BK177.out 0).trans rfl
      have hcz37_1 : wc.cell? ⟨gb177, 1, none⟩ = some (.int .i64 a1_1) := (blk_cell BK177.out 1).trans rfl
      have hcz37_2 : wc.cell? ⟨gb177, 2, none⟩ = some (.string a1_2) := (blk_cell BK177.out 2).trans rfl
      have hcz37_3 : wc.cell? ⟨gb177, 3, none⟩ = some (.slice A1_3 l1_3.length c1_3) := (blk_cell BK177.out 3).trans rfl
      have hcz37_4 : wc.cell? ⟨gb177, 4, none⟩ = some (.slice A1_4 l1_4.length c1_4) := (blk_cell BK177.out 4).trans rfl
      have hfz37_0 := blk_frozen BK177.out 0
      have hfz37_1 := blk_frozen BK177.out 1
      have hfz37_2 := blk_frozen BK177.out 2
      have hfz37_3 := blk_frozen BK177.out 3
      have hfz37_4 := blk_frozen BK177.out 4
      go_wp2_with (first | ((with_reducible refine gate_callee (f := 58) rfl ?_); refine goesL_ (some 51) rfl rfl Try.func58 (by kernel_rfl) rfl #[.string a0_2, .string a1_2] rfl (by (try simp only [List.map_toArray, List.map_cons, List.map_nil]); first | done | rfl | (simp only [List.length_drop, List.length_take]; rfl)) ?_; (with_reducible refine (scrupleref03_texts.calls a0_2 a1_2 t178 _ A34.out).mono ?_); rintro e w' ⟨rfl, ⟨nd, rfl⟩⟩; refine ⟨_, rfl, ?_⟩))
      go_loopg [5, 6] kj2 (fun kq v5 v6 w' => ∃ (x5_2 : Int) (x6_2 : Int), v5 = .int .i64 x5_2 ∧ v6 = .int .i64 x6_2 ∧ Aside0 (scrupleref03_order.l0 kq x5_2 x6_2 a0_0 a0_1 a0_2 l0_3 l0_4 a1_0 a1_1 a1_2 l1_3 l1_4 = some r) ∧ Aside0 (kq ≤ kj2) ∧ Aside0 (w'.heap[gb176]? = some (.cells #[.int .i64 a0_0, .int .i64 a0_1, .string a0_2, (.slice A0_3 l0_3.length c0_3), (.slice A0_4 l0_4.length c0_4)] 25 (0, 0))) ∧ Aside0 (w'.heap[gb177]? = some (.cells #[.int .i64 a1_0, .int .i64 a1_1, .string a1_2, (.slice A1_3 l1_3.length c1_3), (.slice A1_4 l1_4.length c1_4)] 25 (0, 0))) ∧ Aside0 (Below w.heap.size w w'))
      case atStart => exact ⟨(t178), (0), (by first | rfl | (simp; done) | (simp [*]; done)), (by first | rfl | (simp; done) | (simp [*]; done)), H', ⟨Nat.le_refl _⟩, ⟨by (with_reducible repeat (first | refine blk_drewN ?_ _ | refine blk_drew ?_ | refine blk_alloc ?_ _)); exact BK176.out⟩, ⟨by (with_reducible repeat (first | refine blk_drewN ?_ _ | refine blk_drew ?_ | refine blk_alloc ?_ _)); exact BK177.out⟩, ⟨by repeat (first | (with_reducible first | exact HB.out | apply below_alloc | apply pw_below_drewN | apply below_drew1 | refine below_set ?_ GE176.out | refine below_set ?_ GE177.out) | exact HB.out)⟩⟩
      case round =>
        clear H'
        try clear c1
        try clear c2
        try clear p2
        try clear c3
        try clear c5
        try clear c7
        try clear c7b0
        try clear c8
        try clear c11
        try clear c11b0
        try clear c11b1
        try clear c12
        try clear c15
        try clear c18
        try clear c19
        try clear c19b0
        try clear c20
        try clear c23
        try clear c23b0
        try clear c23b1
        try clear c24
        try clear c24b0
        try clear c25
        try clear c28
        try clear c31
        try clear c33
        try clear c35
        try clear hcz10_0
        try clear hcz10_1
        try clear hcz10_2
        try clear hcz10_3
        try clear hcz10_4
        try clear hcz13_0
        try clear hcz13_1
        try clear hcz13_2
        try clear hcz13_3
        try clear hcz13_4
        try clear hcz14_0
        try clear hcz14_1
        try clear hcz14_2
        try clear hcz14_3
        try clear hcz14_4
        try clear hcz16_0
        try clear hcz16_1
        try clear hcz16_2
        try clear hcz16_3
        try clear hcz16_4
        try clear hcz17_0
        try clear hcz17_1
        try clear hcz17_2
        try clear hcz17_3
        try clear hcz17_4
        try clear hcz21_0
        try clear hcz21_1
        try clear hcz21_2
        try clear hcz21_3
        try clear hcz21_4
        try clear hcz22_0
        try clear hcz22_1
        try clear hcz22_2
        try clear hcz22_3
        try clear hcz22_4
        try clear hcz26_0
        try clear hcz26_1
        try clear hcz26_2
        try clear hcz26_3
        try clear hcz26_4
        try clear hcz27_0
        try clear hcz27_1
        try clear hcz27_2
        try clear hcz27_3
        try clear hcz27_4
        try clear hcz29_0
        try clear hcz29_1
        try clear hcz29_2
        try clear hcz29_3
        try clear hcz29_4
        try clear hcz30_0
        try clear hcz30_1
        try clear hcz30_2
        try clear hcz30_3
        try clear hcz30_4
        try clear hcz32_0
        try clear hcz32_1
        try clear hcz32_2
        try clear hcz32_3
        try clear hcz32_4
        try clear hcz33_0
        try clear hcz33_1
        try clear hcz33_2
        try clear hcz33_3
        try clear hcz33_4
        try clear hcz36_0
        try clear hcz36_1
        try clear hcz36_2
        try clear hcz36_3
        try clear hcz36_4
        try clear hcz37_0
        try clear hcz37_1
        try clear hcz37_2
        try clear hcz37_3
        try clear hcz37_4
        try clear hcz9_0
        try clear hcz9_1
        try clear hcz9_2
        try clear hcz9_3
        try clear hcz9_4
        try clear hfz10_0
        try clear hfz10_1
        try clear hfz10_2
        try clear hfz10_3
        try clear hfz10_4
        try clear hfz13_0
        try clear hfz13_1
        try clear hfz13_2
        try clear hfz13_3
        try clear hfz13_4
        try clear hfz14_0
        try clear hfz14_1
        try clear hfz14_2
        try clear hfz14_3
        try clear hfz14_4
        try clear hfz16_0
        try clear hfz16_1
        try clear hfz16_2
        try clear hfz16_3
        try clear hfz16_4
        try clear hfz17_0
        try clear hfz17_1
        try clear hfz17_2
        try clear hfz17_3
        try clear hfz17_4
        try clear hfz21_0
        try clear hfz21_1
        try clear hfz21_2
        try clear hfz21_3
        try clear hfz21_4
        try clear hfz22_0
        try clear hfz22_1
        try clear hfz22_2
        try clear hfz22_3
        try clear hfz22_4
        try clear hfz26_0
        try clear hfz26_1
        try clear hfz26_2
        try clear hfz26_3
        try clear hfz26_4
        try clear hfz27_0
        try clear hfz27_1
        try clear hfz27_2
        try clear hfz27_3
        try clear hfz27_4
        try clear hfz29_0
        try clear hfz29_1
        try clear hfz29_2
        try clear hfz29_3
        try clear hfz29_4
        try clear hfz30_0
        try clear hfz30_1
        try clear hfz30_2
        try clear hfz30_3
        try clear hfz30_4
        try clear hfz32_0
        try clear hfz32_1
        try clear hfz32_2
        try clear hfz32_3
        try clear hfz32_4
        try clear hfz33_0
        try clear hfz33_1
        try clear hfz33_2
        try clear hfz33_3
        try clear hfz33_4
        try clear hfz36_0
        try clear hfz36_1
        try clear hfz36_2
        try clear hfz36_3
        try clear hfz36_4
        try clear hfz37_0
        try clear hfz37_1
        try clear hfz37_2
        try clear hfz37_3
        try clear hfz37_4
        try clear hfz9_0
        try clear hfz9_1
        try clear hfz9_2
        try clear hfz9_3
        try clear hfz9_4
        try clear p2
        obtain ⟨x5_2, x6_2, rfl, rfl, HA, HK2, BK176, BK177, HB⟩ := hrel
        cases gk with
        | zero => exact absurd HA.out (by simp [scrupleref03_order.l0])
        | succ k2 =>
          have H := HA.out
          clear HA
          simp only [scrupleref03_order.l0] at H
          have HC38 := Aside0.mk H
          clear H
          go_upto_region 7 with (fail)
          go_cut [67] (fun v67 wc => ∃ (kq : Nat) (x67_37 : Bool), v67 = .bool x67_37 ∧ Aside0 (scrupleref03_order.j3 kq x5_2 x6_2 x67_37 a0_0 a0_1 a0_2 l0_3 l0_4 a1_0 a1_1 a1_2 l1_3 l1_4 = some r) ∧ Aside0 (kq ≤ k2) ∧ Aside0 (wc.heap[gb176]? = some (.cells #[.int .i64 a0_0, .int .i64 a0_1, .string a0_2, (.slice A0_3 l0_3.length c0_3), (.slice A0_4 l0_4.length c0_4)] 25 (0, 0))) ∧ Aside0 (wc.heap[gb177]? = some (.cells #[.int .i64 a1_0, .int .i64 a1_1, .string a1_2, (.slice A1_3 l1_3.length c1_3), (.slice A1_4 l1_4.length c1_4)] 25 (0, 0))) ∧ Aside0 (Below w.heap.size w wc))
          case first =>
            have H := HC38.out
            clear HC38
            by_cases c39 : x6_2 < (l0_3.length : Int)
            · rw [if_pos c39] at H
              have c39b0 : decide (x6_2 < (l0_3.length : Int)) = true := decide_eq_true c39
              clear c39
              (first | rw [c39b0] | (simp only [i64_w, i32_w]; rw [c39b0]) | skip)
              by_cases c40 : x6_2 < (l1_3.length : Int)
              · rw [if_pos c40] at H
                have c40b0 : decide (x6_2 < (l1_3.length : Int)) = true := decide_eq_true c40
                clear c40
                have H' := Aside0.mk H
                clear H
                have hnb41 := NB176_177.out
                have hnc41 := NB177_176.out
                have hcz42_0 : wr.cell? ⟨gb176, 0, none⟩ = some (.int .i64 a0_0) := (blk_cell BK176.out 0).trans rfl
                have hcz42_1 : wr.cell? ⟨gb176, 1, none⟩ = some (.int .i64 a0_1) := (blk_cell BK176.out 1).trans rfl
                have hcz42_2 : wr.cell? ⟨gb176, 2, none⟩ = some (.string a0_2) := (blk_cell BK176.out 2).trans rfl
                have hcz42_3 : wr.cell? ⟨gb176, 3, none⟩ = some (.slice A0_3 l0_3.length c0_3) := (blk_cell BK176.out 3).trans rfl
                have hcz42_4 : wr.cell? ⟨gb176, 4, none⟩ = some (.slice A0_4 l0_4.length c0_4) := (blk_cell BK176.out 4).trans rfl
                have hfz42_0 := blk_frozen BK176.out 0
                have hfz42_1 := blk_frozen BK176.out 1
                have hfz42_2 := blk_frozen BK176.out 2
                have hfz42_3 := blk_frozen BK176.out 3
                have hfz42_4 := blk_frozen BK176.out 4
                have hcz43_0 : wr.cell? ⟨gb177, 0, none⟩ = some (.int .i64 a1_0) := (blk_cell BK177.out 0).trans rfl
                have hcz43_1 : wr.cell? ⟨gb177, 1, none⟩ = some (.int .i64 a1_1) := (blk_cell BK177.out 1).trans rfl
                have hcz43_2 : wr.cell? ⟨gb177, 2, none⟩ = some (.string a1_2) := (blk_cell BK177.out 2).trans rfl
                have hcz43_3 : wr.cell? ⟨gb177, 3, none⟩ = some (.slice A1_3 l1_3.length c1_3) := (blk_cell BK177.out 3).trans rfl
                have hcz43_4 : wr.cell? ⟨gb177, 4, none⟩ = some (.slice A1_4 l1_4.length c1_4) := (blk_cell BK177.out 4).trans rfl
                have hfz43_0 := blk_frozen BK177.out 0
                have hfz43_1 := blk_frozen BK177.out 1
                have hfz43_2 := blk_frozen BK177.out 2
                have hfz43_3 := blk_frozen BK177.out 3
                have hfz43_4 := blk_frozen BK177.out 4
                go_wp2
                go_meet
                case rel => exact ⟨_, ((x5_2 == 0)), (by first | rfl | (simp; done) | (simp [*]; done)), H', ⟨by have := HJ2.out; have := HK2.out; first | omega | exact Nat.le_refl _⟩, ⟨by (with_reducible repeat (first | refine blk_drewN ?_ _ | refine blk_drew ?_ | refine blk_alloc ?_ _)); exact BK176.out⟩, ⟨by (with_reducible repeat (first | refine blk_drewN ?_ _ | refine blk_drew ?_ | refine blk_alloc ?_ _)); exact BK177.out⟩, ⟨by repeat (first | (with_reducible first | exact HB.out | apply below_alloc | apply pw_below_drewN | apply below_drew1 | refine below_set ?_ GE176.out | refine below_set ?_ GE177.out) | exact HB.out)⟩⟩
              · rw [if_neg c40] at H
                have c40b0 : decide (x6_2 < (l1_3.length : Int)) = false := decide_eq_false c40
                clear c40
                have H' := Aside0.mk H
                clear H
                have hnb44 := NB176_177.out
                have hnc44 := NB177_176.out
                have hcz45_0 : wr.cell? ⟨gb176, 0, none⟩ = some (.int .i64 a0_0) := (blk_cell BK176.out 0).trans rfl
                have hcz45_1 : wr.cell? ⟨gb176, 1, none⟩ = some (.int .i64 a0_1) := (blk_cell BK176.out 1).trans rfl
                have hcz45_2 : wr.cell? ⟨gb176, 2, none⟩ = some (.string a0_2) := (blk_cell BK176.out 2).trans rfl
                have hcz45_3 : wr.cell? ⟨gb176, 3, none⟩ = some (.slice A0_3 l0_3.length c0_3) := (blk_cell BK176.out 3).trans rfl
                have hcz45_4 : wr.cell? ⟨gb176, 4, none⟩ = some (.slice A0_4 l0_4.length c0_4) := (blk_cell BK176.out 4).trans rfl
                have hfz45_0 := blk_frozen BK176.out 0
                have hfz45_1 := blk_frozen BK176.out 1
                have hfz45_2 := blk_frozen BK176.out 2
                have hfz45_3 := blk_frozen BK176.out 3
                have hfz45_4 := blk_frozen BK176.out 4
                have hcz46_0 : wr.cell? ⟨gb177, 0, none⟩ = some (.int .i64 a1_0) := (blk_cell BK177.out 0).trans rfl
                have hcz46_1 : wr.cell? ⟨gb177, 1, none⟩ = some (.int .i64 a1_1) := (blk_cell BK177.out 1).trans rfl
                have hcz46_2 : wr.cell? ⟨gb177, 2, none⟩ = some (.string a1_2) := (blk_cell BK177.out 2).trans rfl
                have hcz46_3 : wr.cell? ⟨gb177, 3, none⟩ = some (.slice A1_3 l1_3.length c1_3) := (blk_cell BK177.out 3).trans rfl
                have hcz46_4 : wr.cell? ⟨gb177, 4, none⟩ = some (.slice A1_4 l1_4.length c1_4) := (blk_cell BK177.out 4).trans rfl
                have hfz46_0 := blk_frozen BK177.out 0
                have hfz46_1 := blk_frozen BK177.out 1
                have hfz46_2 := blk_frozen BK177.out 2
                have hfz46_3 := blk_frozen BK177.out 3
                have hfz46_4 := blk_frozen BK177.out 4
                go_wp2
                go_meet
                case rel => exact ⟨_, (false), (by first | rfl | (simp; done) | (simp [*]; done)), H', ⟨by have := HJ2.out; have := HK2.out; first | omega | exact Nat.le_refl _⟩, ⟨by (with_reducible repeat (first | refine blk_drewN ?_ _ | refine blk_drew ?_ | refine blk_alloc ?_ _)); exact BK176.out⟩, ⟨by (with_reducible repeat (first | refine blk_drewN ?_ _ | refine blk_drew ?_ | refine blk_alloc ?_ _)); exact BK177.out⟩, ⟨by repeat (first | (with_reducible first | exact HB.out | apply below_alloc | apply pw_below_drewN | apply below_drew1 | refine below_set ?_ GE176.out | refine below_set ?_ GE177.out) | exact HB.out)⟩⟩
            · rw [if_neg c39] at H
              have c39b0 : decide (x6_2 < (l0_3.length : Int)) = false := decide_eq_false c39
              clear c39
              (first | rw [c39b0] | (simp only [i64_w, i32_w]; rw [c39b0]) | skip)
              have H' := Aside0.mk H
              clear H
              have hnb47 := NB176_177.out
              have hnc47 := NB177_176.out
              have hcz48_0 : wr.cell? ⟨gb176, 0, none⟩ = some (.int .i64 a0_0) := (blk_cell BK176.out 0).trans rfl
              have hcz48_1 : wr.cell? ⟨gb176, 1, none⟩ = some (.int .i64 a0_1) := (blk_cell BK176.out 1).trans rfl
              have hcz48_2 : wr.cell? ⟨gb176, 2, none⟩ = some (.string a0_2) := (blk_cell BK176.out 2).trans rfl
              have hcz48_3 : wr.cell? ⟨gb176, 3, none⟩ = some (.slice A0_3 l0_3.length c0_3) := (blk_cell BK176.out 3).trans rfl
              have hcz48_4 : wr.cell? ⟨gb176, 4, none⟩ = some (.slice A0_4 l0_4.length c0_4) := (blk_cell BK176.out 4).trans rfl
              have hfz48_0 := blk_frozen BK176.out 0
              have hfz48_1 := blk_frozen BK176.out 1
              have hfz48_2 := blk_frozen BK176.out 2
              have hfz48_3 := blk_frozen BK176.out 3
              have hfz48_4 := blk_frozen BK176.out 4
              go_wp2
              go_meet
              case rel => exact ⟨_, (false), (by first | rfl | (simp; done) | (simp [*]; done)), H', ⟨by have := HJ2.out; have := HK2.out; first | omega | exact Nat.le_refl _⟩, ⟨by (with_reducible repeat (first | refine blk_drewN ?_ _ | refine blk_drew ?_ | refine blk_alloc ?_ _)); exact BK176.out⟩, ⟨by (with_reducible repeat (first | refine blk_drewN ?_ _ | refine blk_drew ?_ | refine blk_alloc ?_ _)); exact BK177.out⟩, ⟨by repeat (first | (with_reducible first | exact HB.out | apply below_alloc | apply pw_below_drewN | apply below_drew1 | refine below_set ?_ GE176.out | refine below_set ?_ GE177.out) | exact HB.out)⟩⟩
          case rest =>
            clear HC38
            try clear c1
            try clear c2
            try clear p2
            try clear c3
            try clear c4
            try clear c5
            try clear c7
            try clear c7b0
            try clear c8
            try clear c11
            try clear c11b0
            try clear c11b1
            try clear c12
            try clear c15
            try clear c18
            try clear c19
            try clear c19b0
            try clear c20
            try clear c23
            try clear c23b0
            try clear c23b1
            try clear c24
            try clear c24b0
            try clear c25
            try clear c28
            try clear c31
            try clear c33
            try clear c35
            try clear c39
            try clear c39b0
            try clear c40
            try clear c40b0
            try clear c41
            try clear c44
            try clear c47
            try clear hcz10_0
            try clear hcz10_1
            try clear hcz10_2
            try clear hcz10_3
            try clear hcz10_4
            try clear hcz13_0
            try clear hcz13_1
            try clear hcz13_2
            try clear hcz13_3
            try clear hcz13_4
            try clear hcz14_0
            try clear hcz14_1
            try clear hcz14_2
            try clear hcz14_3
            try clear hcz14_4
            try clear hcz16_0
            try clear hcz16_1
            try clear hcz16_2
            try clear hcz16_3
            try clear hcz16_4
            try clear hcz17_0
            try clear hcz17_1
            try clear hcz17_2
            try clear hcz17_3
            try clear hcz17_4
            try clear hcz21_0
            try clear hcz21_1
            try clear hcz21_2
            try clear hcz21_3
            try clear hcz21_4
            try clear hcz22_0
            try clear hcz22_1
            try clear hcz22_2
            try clear hcz22_3
            try clear hcz22_4
            try clear hcz26_0
            try clear hcz26_1
            try clear hcz26_2
            try clear hcz26_3
            try clear hcz26_4
            try clear hcz27_0
            try clear hcz27_1
            try clear hcz27_2
            try clear hcz27_3
            try clear hcz27_4
            try clear hcz29_0
            try clear hcz29_1
            try clear hcz29_2
            try clear hcz29_3
            try clear hcz29_4
            try clear hcz30_0
            try clear hcz30_1
            try clear hcz30_2
            try clear hcz30_3
            try clear hcz30_4
            try clear hcz32_0
            try clear hcz32_1
            try clear hcz32_2
            try clear hcz32_3
            try clear hcz32_4
            try clear hcz33_0
            try clear hcz33_1
            try clear hcz33_2
            try clear hcz33_3
            try clear hcz33_4
            try clear hcz36_0
            try clear hcz36_1
            try clear hcz36_2
            try clear hcz36_3
            try clear hcz36_4
            try clear hcz37_0
            try clear hcz37_1
            try clear hcz37_2
            try clear hcz37_3
            try clear hcz37_4
            try clear hcz42_0
            try clear hcz42_1
            try clear hcz42_2
            try clear hcz42_3
            try clear hcz42_4
            try clear hcz43_0
            try clear hcz43_1
            try clear hcz43_2
            try clear hcz43_3
            try clear hcz43_4
            try clear hcz45_0
            try clear hcz45_1
            try clear hcz45_2
            try clear hcz45_3
            try clear hcz45_4
            try clear hcz46_0
            try clear hcz46_1
            try clear hcz46_2
            try clear hcz46_3
            try clear hcz46_4
            try clear hcz48_0
            try clear hcz48_1
            try clear hcz48_2
            try clear hcz48_3
            try clear hcz48_4
            try clear hcz9_0
            try clear hcz9_1
            try clear hcz9_2
            try clear hcz9_3
            try clear hcz9_4
            try clear hfz10_0
            try clear hfz10_1
            try clear hfz10_2
            try clear hfz10_3
            try clear hfz10_4
            try clear hfz13_0
            try clear hfz13_1
            try clear hfz13_2
            try clear hfz13_3
            try clear hfz13_4
            try clear hfz14_0
            try clear hfz14_1
            try clear hfz14_2
            try clear hfz14_3
            try clear hfz14_4
            try clear hfz16_0
            try clear hfz16_1
            try clear hfz16_2
            try clear hfz16_3
            try clear hfz16_4
            try clear hfz17_0
            try clear hfz17_1
            try clear hfz17_2
            try clear hfz17_3
            try clear hfz17_4
            try clear hfz21_0
            try clear hfz21_1
            try clear hfz21_2
            try clear hfz21_3
            try clear hfz21_4
            try clear hfz22_0
            try clear hfz22_1
            try clear hfz22_2
            try clear hfz22_3
            try clear hfz22_4
            try clear hfz26_0
            try clear hfz26_1
            try clear hfz26_2
            try clear hfz26_3
            try clear hfz26_4
            try clear hfz27_0
            try clear hfz27_1
            try clear hfz27_2
            try clear hfz27_3
            try clear hfz27_4
            try clear hfz29_0
            try clear hfz29_1
            try clear hfz29_2
            try clear hfz29_3
            try clear hfz29_4
            try clear hfz30_0
            try clear hfz30_1
            try clear hfz30_2
            try clear hfz30_3
            try clear hfz30_4
            try clear hfz32_0
            try clear hfz32_1
            try clear hfz32_2
            try clear hfz32_3
            try clear hfz32_4
            try clear hfz33_0
            try clear hfz33_1
            try clear hfz33_2
            try clear hfz33_3
            try clear hfz33_4
            try clear hfz36_0
            try clear hfz36_1
            try clear hfz36_2
            try clear hfz36_3
            try clear hfz36_4
            try clear hfz37_0
            try clear hfz37_1
            try clear hfz37_2
            try clear hfz37_3
            try clear hfz37_4
            try clear hfz42_0
            try clear hfz42_1
            try clear hfz42_2
            try clear hfz42_3
            try clear hfz42_4
            try clear hfz43_0
            try clear hfz43_1
            try clear hfz43_2
            try clear hfz43_3
            try clear hfz43_4
            try clear hfz45_0
            try clear hfz45_1
            try clear hfz45_2
            try clear hfz45_3
            try clear hfz45_4
            try clear hfz46_0
            try clear hfz46_1
            try clear hfz46_2
            try clear hfz46_3
            try clear hfz46_4
            try clear hfz48_0
            try clear hfz48_1
            try clear hfz48_2
            try clear hfz48_3
            try clear hfz48_4
            try clear hfz9_0
            try clear hfz9_1
            try clear hfz9_2
            try clear hfz9_3
            try clear hfz9_4
            try clear p2
            obtain ⟨kq, x67_37, rfl, HA, HJ37, BK176, BK177, HB⟩ := hcut
            cases kq with
            | zero => exact absurd HA.out (by simp [scrupleref03_order.j3])
            | succ kj37 =>
              have H := HA.out
              clear HA
              simp only [scrupleref03_order.j3] at H
              by_cases c49 : x67_37 = true
              · subst c49
                have H1 : (if a0_0 = 5 then (if 0 ≤ x6_2 then (if x6_2 < (l0_4.length : Int) then (if x6_2 < (l1_4.length : Int) then ((scrupleref03_texts.f (rdOf ByteArray.empty l0_4 x6_2) (rdOf ByteArray.empty l1_4 x6_2)).bind fun t181 => (if t181 = 0 then (if x6_2 < (l0_3.length : Int) then (if x6_2 < (l1_3.length : Int) then ((scrupleref03_order.f kj37 ((rd_T25 l0_3 x6_2).f0) ((rd_T25 l0_3 x6_2).f1) ((rd_T25 l0_3 x6_2).f2) ((rd_T25 l0_3 x6_2).f3) ((rd_T25 l0_3 x6_2).f4) ((rd_T25 l1_3 x6_2).f0) ((rd_T25 l1_3 x6_2).f1) ((rd_T25 l1_3 x6_2).f2) ((rd_T25 l1_3 x6_2).f3) ((rd_T25 l1_3 x6_2).f4)).bind fun t184 => (scrupleref03_order.l0 kj37 t184 (wrap64 (x6_2 + 1)) a0_0 a0_1 a0_2 l0_3 l0_4 a1_0 a1_1 a1_2 l1_3 l1_4)) else (none)) else (none)) else (scrupleref03_order.l0 kj37 t181 (wrap64 (x6_2 + 1)) a0_0 a0_1 a0_2 l0_3 l0_4 a1_0 a1_1 a1_2 l1_3 l1_4))) else (none)) else (none)) else (none)) else (if x5_2 = 0 then (if 0 ≤ x6_2 then (if x6_2 < (l0_3.length : Int) then (if x6_2 < (l1_3.length : Int) then ((scrupleref03_order.f kj37 ((rd_T25 l0_3 x6_2).f0) ((rd_T25 l0_3 x6_2).f1) ((rd_T25 l0_3 x6_2).f2) ((rd_T25 l0_3 x6_2).f3) ((rd_T25 l0_3 x6_2).f4) ((rd_T25 l1_3 x6_2).f0) ((rd_T25 l1_3 x6_2).f1) ((rd_T25 l1_3 x6_2).f2) ((rd_T25 l1_3 x6_2).f3) ((rd_T25 l1_3 x6_2).f4)).bind fun t187 => (scrupleref03_order.l0 kj37 t187 (wrap64 (x6_2 + 1)) a0_0 a0_1 a0_2 l0_3 l0_4 a1_0 a1_1 a1_2 l1_3 l1_4)) else (none)) else (none)) else (none)) else (scrupleref03_order.l0 kj37 x5_2 (wrap64 (x6_2 + 1)) a0_0 a0_1 a0_2 l0_3 l0_4 a1_0 a1_1 a1_2 l1_3 l1_4))) = some r := by rw [if_pos rfl] at H; exact H
                clear H
                have H := H1
                clear H1
                by_cases c50 : a0_0 = 5
                · rw [if_pos c50] at H
                  have c50b0 : (a0_0 == 5) = true := beq_iff_eq.mpr c50
                  have c50b1 : (a0_0 != 5) = false := bne_eq_false_iff_eq.mpr c50
                  clear c50
                  by_cases c51 : 0 ≤ x6_2
                  · rw [if_pos c51] at H
                    have c51b0 : decide (0 ≤ x6_2) = true := decide_eq_true c51
                    clear c51
                    by_cases c52 : x6_2 < (l0_4.length : Int)
                    · rw [if_pos c52] at H
                      have c52b0 : decide (x6_2 < (l0_4.length : Int)) = true := decide_eq_true c52
                      clear c52
                      by_cases c53 : x6_2 < (l1_4.length : Int)
                      · rw [if_pos c53] at H
                        have c53b0 : decide (x6_2 < (l1_4.length : Int)) = true := decide_eq_true c53
                        clear c53
                        replace H := Option.bind_eq_some_iff.mp H
                        obtain ⟨t181, A540, H⟩ := H
                        replace H : (if t181 = 0 then (if x6_2 < (l0_3.length : Int) then (if x6_2 < (l1_3.length : Int) then ((scrupleref03_order.f kj37 ((rd_T25 l0_3 x6_2).f0) ((rd_T25 l0_3 x6_2).f1) ((rd_T25 l0_3 x6_2).f2) ((rd_T25 l0_3 x6_2).f3) ((rd_T25 l0_3 x6_2).f4) ((rd_T25 l1_3 x6_2).f0) ((rd_T25 l1_3 x6_2).f1) ((rd_T25 l1_3 x6_2).f2) ((rd_T25 l1_3 x6_2).f3) ((rd_T25 l1_3 x6_2).f4)).bind fun t184 => (scrupleref03_order.l0 kj37 t184 (wrap64 (x6_2 + 1)) a0_0 a0_1 a0_2 l0_3 l0_4 a1_0 a1_1 a1_2 l1_3 l1_4)) else (none)) else (none)) else (scrupleref03_order.l0 kj37 t181 (wrap64 (x6_2 + 1)) a0_0 a0_1 a0_2 l0_3 l0_4 a1_0 a1_1 a1_2 l1_3 l1_4)) = some r := H
                        have A54 := Aside0.mk A540
                        clear A540
                        by_cases c55 : t181 = 0
                        · rw [if_pos c55] at H
                          have c55b0 : (t181 == 0) = true := beq_iff_eq.mpr c55
                          have c55b1 : (t181 != 0) = false := bne_eq_false_iff_eq.mpr c55
                          clear c55
                          by_cases c56 : x6_2 < (l0_3.length : Int)
                          · rw [if_pos c56] at H
                            have c56b0 : decide (x6_2 < (l0_3.length : Int)) = true := decide_eq_true c56
                            clear c56
                            by_cases c57 : x6_2 < (l1_3.length : Int)
                            · rw [if_pos c57] at H
                              have c57b0 : decide (x6_2 < (l1_3.length : Int)) = true := decide_eq_true c57
                              clear c57
                              replace H := Option.bind_eq_some_iff.mp H
                              obtain ⟨t184, A580, H⟩ := H
                              replace H : (scrupleref03_order.l0 kj37 t184 (wrap64 (x6_2 + 1)) a0_0 a0_1 a0_2 l0_3 l0_4 a1_0 a1_1 a1_2 l1_3 l1_4) = some r := H
                              have A58 := Aside0.mk A580
                              clear A580
                              have H' := Aside0.mk H
                              clear H
                              have hnb59 := NB176_177.out
                              have hnc59 := NB177_176.out
                              have hcz60_0 : wc.cell? ⟨gb176, 0, none⟩ = some (.int .i64 a0_0) := (blk_cell BK176.out 0).trans rfl
                              have hcz60_1 : wc.cell? ⟨gb176, 1, none⟩ = some (.int .i64 a0_1) := (blk_cell BK176.out 1).trans rfl
                              have hcz60_2 : wc.cell? ⟨gb176, 2, none⟩ = some (.string a0_2) := (blk_cell BK176.out 2).trans rfl
                              have hcz60_3 : wc.cell? ⟨gb176, 3, none⟩ = some (.slice A0_3 l0_3.length c0_3) := (blk_cell BK176.out 3).trans rfl
                              have hcz60_4 : wc.cell? ⟨gb176, 4, none⟩ = some (.slice A0_4 l0_4.length c0_4) := (blk_cell BK176.out 4).trans rfl
                              have hfz60_0 := blk_frozen BK176.out 0
                              have hfz60_1 := blk_frozen BK176.out 1
                              have hfz60_2 := blk_frozen BK176.out 2
                              have hfz60_3 := blk_frozen BK176.out 3
                              have hfz60_4 := blk_frozen BK176.out 4
                              try go_wp2
                              have n0_ := Aside0.mk (blk_drew BK176.out)
                              have n1_ := Aside0.mk (blk_drew BK177.out)
                              have n2_ := Aside0.mk (below_drew1 HB.out)
                              clear BK176
                              clear BK177
                              clear HB
                              have BK176 := n0_
                              have BK177 := n1_
                              have HB := n2_
                              clear n0_ n1_ n2_
                              have p179 : 0 ≤ (x6_2 : Int) := of_decide_eq_true (by first | (with_reducible assumption) | assumption)
                              have q179 : x6_2 < (l0_4.length : Int) := of_decide_eq_true (by first | (with_reducible assumption) | assumption)
                              obtain ⟨ad179, e179, hx179_0⟩ := Kd.at_string HR0_4.out x6_2 p179 q179
                              have hw179_0 := hx179_0
                              cases e179
                              replace hx179_0 := (HB.out.cell (World.block_lt_of_cell? w _ hx179_0)).trans hx179_0
                              replace p179 := eq_true p179
                              replace q179 := eq_true q179
                              have p180 : 0 ≤ (x6_2 : Int) := of_decide_eq_true (by first | (with_reducible assumption) | assumption)
                              have q180 : x6_2 < (l1_4.length : Int) := of_decide_eq_true (by first | (with_reducible assumption) | assumption)
                              obtain ⟨ad180, e180, hx180_0⟩ := Kd.at_string HR1_4.out x6_2 p180 q180
                              have hw180_0 := hx180_0
                              cases e180
                              replace hx180_0 := (HB.out.cell (World.block_lt_of_cell? w _ hx180_0)).trans hx180_0
                              replace p180 := eq_true p180
                              replace q180 := eq_true q180
                              refine start_ (n := 12) (S := fun w' => w'.cell? ⟨gb176, 0, none⟩ = some (.int .i64 a0_0) ∧ w'.cell? ⟨gb176, 1, none⟩ = some (.int .i64 a0_1) ∧ w'.cell? ⟨gb176, 2, none⟩ = some (.string a0_2) ∧ w'.cell? ⟨gb176, 3, none⟩ = some (.slice A0_3 l0_3.length c0_3) ∧ w'.cell? ⟨gb176, 4, none⟩ = some (.slice (some ad179) l0_4.length c0_4) ∧ w'.cell? ⟨gb177, 0, none⟩ = some (.int .i64 a1_0) ∧ w'.cell? ⟨gb177, 1, none⟩ = some (.int .i64 a1_1) ∧ w'.cell? ⟨gb177, 2, none⟩ = some (.string a1_2) ∧ w'.cell? ⟨gb177, 3, none⟩ = some (.slice A1_3 l1_3.length c1_3) ∧ w'.cell? ⟨gb177, 4, none⟩ = some (.slice (some ad180) l1_4.length c1_4) ∧ w'.cell? (ad179.add (x6_2).toNat) = some (.string (rdOf ByteArray.empty l0_4 x6_2)) ∧ w'.cell? (ad180.add (x6_2).toNat) = some (.string (rdOf ByteArray.empty l1_4 x6_2))) (ds := []) #[false, false, false, false, false, false, false, false, false, false, false, false] (by kernel_rfl) rfl rfl ⟨(blk_cell BK176.out 0).trans rfl, (blk_cell BK176.out 1).trans rfl, (blk_cell BK176.out 2).trans rfl, (blk_cell BK176.out 3).trans rfl, (blk_cell BK176.out 4).trans rfl, (blk_cell BK177.out 0).trans rfl, (blk_cell BK177.out 1).trans rfl, (blk_cell BK177.out 2).trans rfl, (blk_cell BK177.out 3).trans rfl, (blk_cell BK177.out 4).trans rfl, ((HB.out.cell (World.block_lt_of_cell? w _ hw179_0)).trans hw179_0), ((HB.out.cell (World.block_lt_of_cell? w _ hw180_0)).trans hw180_0)⟩ (fun hHeld => ?_); refine with_tabW scrupleref03_order.tab10 scrupleref03_order.bits10 (fun HT_ HW_ => ?_)
                              generalize wc.drew = w61 at BK176 BK177 HB hx179_0 hx180_0 hHeld ⊢
                              refine pure_ (i := 0) (N := some 73) (v := ?_) (a' := ?_) #[true, false, false, false, false, false, false, false, false, false, false, false] rfl rfl (any_of HT_.out (by kernel_rfl)) (fun _ _ _ h => h) (Or.inl ⟨by rfl, ?_⟩) ?_ ?_
                              rotate_left
                              · intro w'
                                go_simp
                                with_reducible rfl
                              rotate_left
                              · simp only [Act.put, List.setIfInBounds_toArray, List.set_cons_zero, List.set_cons_succ, i64_w, i32_w]
                                rfl
                              refine pure_ (i := 2) (N := some 75) (v := ?_) (a' := ?_) #[true, false, true, false, false, false, false, false, false, false, false, false] rfl rfl (any_of HT_.out (by kernel_rfl)) (fun _ _ _ h => h) (Or.inl ⟨by rfl, ?_⟩) ?_ ?_
                              rotate_left
                              · intro w'
                                go_simp
                                with_reducible rfl
                              rotate_left
                              · simp only [Act.put, List.setIfInBounds_toArray, List.set_cons_zero, List.set_cons_succ, i64_w, i32_w]
                                rfl
                              refine pure_ (i := 5) (N := some 78) (v := ?_) (a' := ?_) #[true, false, true, false, false, true, false, false, false, false, false, false] rfl rfl (any_of HT_.out (by kernel_rfl)) (fun _ _ _ h => h) (Or.inl ⟨by rfl, ?_⟩) ?_ ?_
                              rotate_left
                              · intro w'
                                go_simp
                                with_reducible rfl
                              rotate_left
                              · simp only [Act.put, List.setIfInBounds_toArray, List.set_cons_zero, List.set_cons_succ, i64_w, i32_w]
                                rfl
                              refine pure_ (i := 7) (N := some 80) (v := ?_) (a' := ?_) #[true, false, true, false, false, true, false, true, false, false, false, false] rfl rfl (any_of HT_.out (by kernel_rfl)) (fun _ _ _ h => h) (Or.inl ⟨by rfl, ?_⟩) ?_ ?_
                              rotate_left
                              · intro w'
                                go_simp
                                with_reducible rfl
                              rotate_left
                              · simp only [Act.put, List.setIfInBounds_toArray, List.set_cons_zero, List.set_cons_succ, i64_w, i32_w]
                                rfl
                              refine take_ (i := 1) (N := some 74) (v := ?_) (a' := ?_) #[true, true, true, false, false, true, false, true, false, false, false, false] rfl rfl (take_ofW HT_.out HW_.out (by kernel_rfl)) (fun _ _ _ h => h) (Or.inl ⟨by rfl, ?_⟩) hHeld ?_ ?_
                              rotate_left
                              · rintro w' ⟨s0, s1, s2, s3, s4, s5, s6, s7, s8, s9, s10, s11⟩
                                go_simp
                                with_reducible rfl
                              rotate_left
                              · simp only [Act.put, List.setIfInBounds_toArray, List.set_cons_zero, List.set_cons_succ, i64_w, i32_w]
                                rfl
                              refine pure_ (i := 3) (N := some 76) (v := ?_) (a' := ?_) #[true, true, true, true, false, true, false, true, false, false, false, false] rfl rfl (any_of HT_.out (by kernel_rfl)) (fun _ _ _ h => h) (Or.inl ⟨by rfl, ?_⟩) ?_ ?_
                              rotate_left
                              · intro w'
                                go_simp
                                with_reducible rfl
                              rotate_left
                              · simp only [Act.put, List.setIfInBounds_toArray, List.set_cons_zero, List.set_cons_succ, i64_w, i32_w]
                                rfl
                              refine take_ (i := 4) (N := some 77) (v := ?_) (a' := ?_) #[true, true, true, true, true, true, false, true, false, false, false, false] rfl rfl (take_ofW HT_.out HW_.out (by kernel_rfl)) (fun _ _ _ h => h) (Or.inl ⟨by rfl, ?_⟩) hHeld ?_ ?_
                              rotate_left
                              · rintro w' ⟨s0, s1, s2, s3, s4, s5, s6, s7, s8, s9, s10, s11⟩
                                go_simp
                                with_reducible rfl
                              rotate_left
                              · simp only [Act.put, List.setIfInBounds_toArray, List.set_cons_zero, List.set_cons_succ, i64_w, i32_w]
                                rfl
                              refine take_ (i := 6) (N := some 79) (v := ?_) (a' := ?_) #[true, true, true, true, true, true, true, true, false, false, false, false] rfl rfl (take_ofW HT_.out HW_.out (by kernel_rfl)) (fun _ _ _ h => h) (Or.inl ⟨by rfl, ?_⟩) hHeld ?_ ?_
                              rotate_left
                              · rintro w' ⟨s0, s1, s2, s3, s4, s5, s6, s7, s8, s9, s10, s11⟩
                                go_simp
                                with_reducible rfl
                              rotate_left
                              · simp only [Act.put, List.setIfInBounds_toArray, List.set_cons_zero, List.set_cons_succ, i64_w, i32_w]
                                rfl
                              refine pure_ (i := 8) (N := some 81) (v := ?_) (a' := ?_) #[true, true, true, true, true, true, true, true, true, false, false, false] rfl rfl (any_of HT_.out (by kernel_rfl)) (fun _ _ _ h => h) (Or.inl ⟨by rfl, ?_⟩) ?_ ?_
                              rotate_left
                              · intro w'
                                go_simp
                                with_reducible rfl
                              rotate_left
                              · simp only [Act.put, List.setIfInBounds_toArray, List.set_cons_zero, List.set_cons_succ, i64_w, i32_w]
                                rfl
                              refine take_ (i := 9) (N := some 82) (v := ?_) (a' := ?_) #[true, true, true, true, true, true, true, true, true, true, false, false] rfl rfl (take_ofW HT_.out HW_.out (by kernel_rfl)) (fun _ _ _ h => h) (Or.inl ⟨by rfl, ?_⟩) hHeld ?_ ?_
                              rotate_left
                              · rintro w' ⟨s0, s1, s2, s3, s4, s5, s6, s7, s8, s9, s10, s11⟩
                                go_simp
                                with_reducible rfl
                              rotate_left
                              · simp only [Act.put, List.setIfInBounds_toArray, List.set_cons_zero, List.set_cons_succ, i64_w, i32_w]
                                rfl
                              refine one_ (i := 10) (N := some 83) #[true, true, true, true, true, true, true, true, true, true, true, false] rfl rfl (one_of HT_.out (by kernel_rfl)) (by decide) (fun K hK => ?_)
                              refine goes_ Try.func58 (by kernel_rfl) rfl #[.string (rdOf ByteArray.empty l0_4 x6_2), .string (rdOf ByteArray.empty l1_4 x6_2)] (by rfl) rfl rfl (by (try simp only [List.map_toArray, List.map_cons, List.map_nil]); first | done | rfl | (simp only [List.length_drop, List.length_take]; rfl)) ?_
                              with_reducible refine (scrupleref03_texts.calls (rdOf ByteArray.empty l0_4 x6_2) (rdOf ByteArray.empty l1_4 x6_2) t181 _ A54.out).mono ?_
                              rintro e w' ⟨rfl, ⟨nd, rfl⟩⟩
                              refine ⟨_, rfl, ?_⟩
                              refine hK.out _ _ ⟨(blk_cell BK176.out 0).trans rfl, (blk_cell BK176.out 1).trans rfl, (blk_cell BK176.out 2).trans rfl, (blk_cell BK176.out 3).trans rfl, (blk_cell BK176.out 4).trans rfl, (blk_cell BK177.out 0).trans rfl, (blk_cell BK177.out 1).trans rfl, (blk_cell BK177.out 2).trans rfl, (blk_cell BK177.out 3).trans rfl, (blk_cell BK177.out 4).trans rfl, ((HB.out.cell (World.block_lt_of_cell? w _ hw179_0)).trans hw179_0), ((HB.out.cell (World.block_lt_of_cell? w _ hw180_0)).trans hw180_0)⟩ (fun hHeld => ?_)
                              clear hK K
                              refine norm_ (a' := ?_) ?_ ?_
                              rotate_left
                              · show Act.put _ (some 83) _ = _
                                simp only [Act.put, List.setIfInBounds_toArray, List.set_cons_zero, List.set_cons_succ, i64_w, i32_w]
                                rfl
                              refine pure_ (i := 11) (N := some 5) (v := ?_) (a' := ?_) #[true, true, true, true, true, true, true, true, true, true, true, true] rfl rfl (any_of HT_.out (by kernel_rfl)) (fun _ _ _ h => h) (Or.inl ⟨by rfl, ?_⟩) ?_ ?_
                              rotate_left
                              · intro w'
                                go_simp
                                with_reducible rfl
                              rotate_left
                              · simp only [Act.put, List.setIfInBounds_toArray, List.set_cons_zero, List.set_cons_succ, i64_w, i32_w]
                                rfl
                              refine done_ (done_of HT_.out (by kernel_rfl)) ?_
                              try go_wp2
                              (try (rw [drewN_self w61]; generalize hq_ : World.drewN w61 _ = w61; have n0_ : Aside0 (w61.heap[gb176]? = some (.cells #[.int .i64 a0_0, .int .i64 a0_1, .string a0_2, .slice A0_3 l0_3.length c0_3, .slice (some ad179) l0_4.length c0_4] 25 (0, 0))) := ⟨by rw [← hq_]; exact (by (with_reducible repeat (first | refine blk_drewN ?_ _ | refine blk_drew ?_ | refine blk_alloc ?_ _)); exact BK176.out)⟩; have n1_ : Aside0 (w61.heap[gb177]? = some (.cells #[.int .i64 a1_0, .int .i64 a1_1, .string a1_2, .slice A1_3 l1_3.length c1_3, .slice (some ad180) l1_4.length c1_4] 25 (0, 0))) := ⟨by rw [← hq_]; exact (by (with_reducible repeat (first | refine blk_drewN ?_ _ | refine blk_drew ?_ | refine blk_alloc ?_ _)); exact BK177.out)⟩; have n2_ : Aside0 (Below w.heap.size w w61) := ⟨by rw [← hq_]; exact (by repeat (first | (with_reducible first | exact HB.out | apply below_alloc | apply pw_below_drewN | apply below_drew1 | refine below_set ?_ GE176.out | refine below_set ?_ GE177.out) | exact HB.out))⟩; clear BK176 BK177 HB hq_; have BK176 := n0_; have BK177 := n1_; have HB := n2_; clear n0_ n1_ n2_))
                              have n0_ := Aside0.mk (blk_drew BK176.out)
                              have n1_ := Aside0.mk (blk_drew BK177.out)
                              have n2_ := Aside0.mk (below_drew1 HB.out)
                              clear BK176
                              clear BK177
                              clear HB
                              have BK176 := n0_
                              have BK177 := n1_
                              have HB := n2_
                              clear n0_ n1_ n2_
                              have p182 : 0 ≤ (x6_2 : Int) := of_decide_eq_true (by first | (with_reducible assumption) | assumption)
                              have q182 : x6_2 < (l0_3.length : Int) := of_decide_eq_true (by first | (with_reducible assumption) | assumption)
                              obtain ⟨ad182, A182_3, c182_3, A182_4, c182_4, e182, hx182_0, hx182_1, hx182_2, hx182_3, hx182_4, hl182_3, hi182_3, hl182_4, hi182_4⟩ := at_T25 HR0_3.out x6_2 p182 q182
                              have hw182_4 := hx182_4
                              have hw182_3 := hx182_3
                              have hw182_2 := hx182_2
                              have hw182_1 := hx182_1
                              have hw182_0 := hx182_0
                              cases e182
                              replace hx182_0 := (HB.out.cell (World.block_lt_of_cell? w _ hx182_0)).trans hx182_0
                              replace hx182_1 := (HB.out.cell (World.block_lt_of_cell? w _ hx182_1)).trans hx182_1
                              replace hx182_2 := (HB.out.cell (World.block_lt_of_cell? w _ hx182_2)).trans hx182_2
                              replace hx182_3 := (HB.out.cell (World.block_lt_of_cell? w _ hx182_3)).trans hx182_3
                              replace hx182_4 := (HB.out.cell (World.block_lt_of_cell? w _ hx182_4)).trans hx182_4
                              have HR182_3 := Aside0.mk hi182_3
                              have HC182_3 := Aside0.mk hl182_3
                              clear hi182_3 hl182_3
                              have HR182_4 := Aside0.mk hi182_4
                              have HC182_4 := Aside0.mk hl182_4
                              clear hi182_4 hl182_4
                              replace p182 := eq_true p182
                              replace q182 := eq_true q182
                              have p183 : 0 ≤ (x6_2 : Int) := of_decide_eq_true (by first | (with_reducible assumption) | assumption)
                              have q183 : x6_2 < (l1_3.length : Int) := of_decide_eq_true (by first | (with_reducible assumption) | assumption)
                              obtain ⟨ad183, A183_3, c183_3, A183_4, c183_4, e183, hx183_0, hx183_1, hx183_2, hx183_3, hx183_4, hl183_3, hi183_3, hl183_4, hi183_4⟩ := at_T25 HR1_3.out x6_2 p183 q183
                              have hw183_4 := hx183_4
                              have hw183_3 := hx183_3
                              have hw183_2 := hx183_2
                              have hw183_1 := hx183_1
                              have hw183_0 := hx183_0
                              cases e183
                              replace hx183_0 := (HB.out.cell (World.block_lt_of_cell? w _ hx183_0)).trans hx183_0
                              replace hx183_1 := (HB.out.cell (World.block_lt_of_cell? w _ hx183_1)).trans hx183_1
                              replace hx183_2 := (HB.out.cell (World.block_lt_of_cell? w _ hx183_2)).trans hx183_2
                              replace hx183_3 := (HB.out.cell (World.block_lt_of_cell? w _ hx183_3)).trans hx183_3
                              replace hx183_4 := (HB.out.cell (World.block_lt_of_cell? w _ hx183_4)).trans hx183_4
                              have HR183_3 := Aside0.mk hi183_3
                              have HC183_3 := Aside0.mk hl183_3
                              clear hi183_3 hl183_3
                              have HR183_4 := Aside0.mk hi183_4
                              have HC183_4 := Aside0.mk hl183_4
                              clear hi183_4 hl183_4
                              replace p183 := eq_true p183
                              replace q183 := eq_true q183
                              refine start_ (n := 12) (S := fun w' => w'.cell? ⟨gb176, 0, none⟩ = some (.int .i64 a0_0) ∧ w'.cell? ⟨gb176, 1, none⟩ = some (.int .i64 a0_1) ∧ w'.cell? ⟨gb176, 2, none⟩ = some (.string a0_2) ∧ w'.cell? ⟨gb176, 3, none⟩ = some (.slice (some ad182) l0_3.length c0_3) ∧ w'.cell? ⟨gb176, 4, none⟩ = some (.slice (some ad179) l0_4.length c0_4) ∧ w'.cell? ⟨gb177, 0, none⟩ = some (.int .i64 a1_0) ∧ w'.cell? ⟨gb177, 1, none⟩ = some (.int .i64 a1_1) ∧ w'.cell? ⟨gb177, 2, none⟩ = some (.string a1_2) ∧ w'.cell? ⟨gb177, 3, none⟩ = some (.slice (some ad183) l1_3.length c1_3) ∧ w'.cell? ⟨gb177, 4, none⟩ = some (.slice (some ad180) l1_4.length c1_4) ∧ w'.cell? (ad182.add ((x6_2).toNat * 5)) = some (.int .i64 ((rd_T25 l0_3 x6_2).f0)) ∧ w'.cell? ⟨(ad182.add ((x6_2).toNat * 5)).block, (ad182.add ((x6_2).toNat * 5)).off + 1, none⟩ = some (.int .i64 ((rd_T25 l0_3 x6_2).f1)) ∧ w'.cell? ⟨(ad182.add ((x6_2).toNat * 5)).block, (ad182.add ((x6_2).toNat * 5)).off + 2, none⟩ = some (.string ((rd_T25 l0_3 x6_2).f2)) ∧ w'.cell? ⟨(ad182.add ((x6_2).toNat * 5)).block, (ad182.add ((x6_2).toNat * 5)).off + 3, none⟩ = some (.slice A182_3 ((rd_T25 l0_3 x6_2).f3).length c182_3) ∧ w'.cell? ⟨(ad182.add ((x6_2).toNat * 5)).block, (ad182.add ((x6_2).toNat * 5)).off + 4, none⟩ = some (.slice A182_4 ((rd_T25 l0_3 x6_2).f4).length c182_4) ∧ w'.cell? (ad183.add ((x6_2).toNat * 5)) = some (.int .i64 ((rd_T25 l1_3 x6_2).f0)) ∧ w'.cell? ⟨(ad183.add ((x6_2).toNat * 5)).block, (ad183.add ((x6_2).toNat * 5)).off + 1, none⟩ = some (.int .i64 ((rd_T25 l1_3 x6_2).f1)) ∧ w'.cell? ⟨(ad183.add ((x6_2).toNat * 5)).block, (ad183.add ((x6_2).toNat * 5)).off + 2, none⟩ = some (.string ((rd_T25 l1_3 x6_2).f2)) ∧ w'.cell? ⟨(ad183.add ((x6_2).toNat * 5)).block, (ad183.add ((x6_2).toNat * 5)).off + 3, none⟩ = some (.slice A183_3 ((rd_T25 l1_3 x6_2).f3).length c183_3) ∧ w'.cell? ⟨(ad183.add ((x6_2).toNat * 5)).block, (ad183.add ((x6_2).toNat * 5)).off + 4, none⟩ = some (.slice A183_4 ((rd_T25 l1_3 x6_2).f4).length c183_4)) (ds := []) #[false, false, false, false, false, false, false, false, false, false, false, false] (by kernel_rfl) rfl rfl ⟨(blk_cell BK176.out 0).trans rfl, (blk_cell BK176.out 1).trans rfl, (blk_cell BK176.out 2).trans rfl, (blk_cell BK176.out 3).trans rfl, (blk_cell BK176.out 4).trans rfl, (blk_cell BK177.out 0).trans rfl, (blk_cell BK177.out 1).trans rfl, (blk_cell BK177.out 2).trans rfl, (blk_cell BK177.out 3).trans rfl, (blk_cell BK177.out 4).trans rfl, ((HB.out.cell (World.block_lt_of_cell? w _ hw182_0)).trans hw182_0), ((HB.out.cell (World.block_lt_of_cell? w _ hw182_1)).trans hw182_1), ((HB.out.cell (World.block_lt_of_cell? w _ hw182_2)).trans hw182_2), ((HB.out.cell (World.block_lt_of_cell? w _ hw182_3)).trans hw182_3), ((HB.out.cell (World.block_lt_of_cell? w _ hw182_4)).trans hw182_4), ((HB.out.cell (World.block_lt_of_cell? w _ hw183_0)).trans hw183_0), ((HB.out.cell (World.block_lt_of_cell? w _ hw183_1)).trans hw183_1), ((HB.out.cell (World.block_lt_of_cell? w _ hw183_2)).trans hw183_2), ((HB.out.cell (World.block_lt_of_cell? w _ hw183_3)).trans hw183_3), ((HB.out.cell (World.block_lt_of_cell? w _ hw183_4)).trans hw183_4)⟩ (fun hHeld => ?_); refine with_tabW scrupleref03_order.tab12 scrupleref03_order.bits12 (fun HT_ HW_ => ?_)
                              generalize w61.drew = w62 at BK176 BK177 HB HR182_3 HR182_4 HR183_3 HR183_4 hx182_0 hx182_1 hx182_2 hx182_3 hx182_4 hx183_0 hx183_1 hx183_2 hx183_3 hx183_4 hHeld ⊢
                              refine pure_ (i := 0) (N := some 86) (v := ?_) (a' := ?_) #[true, false, false, false, false, false, false, false, false, false, false, false] rfl rfl (any_of HT_.out (by kernel_rfl)) (fun _ _ _ h => h) (Or.inl ⟨by rfl, ?_⟩) ?_ ?_
                              rotate_left
                              · intro w'
                                go_simp
                                with_reducible rfl
                              rotate_left
                              · simp only [Act.put, List.setIfInBounds_toArray, List.set_cons_zero, List.set_cons_succ, i64_w, i32_w]
                                rfl
                              refine pure_ (i := 2) (N := some 88) (v := ?_) (a' := ?_) #[true, false, true, false, false, false, false, false, false, false, false, false] rfl rfl (any_of HT_.out (by kernel_rfl)) (fun _ _ _ h => h) (Or.inl ⟨by rfl, ?_⟩) ?_ ?_
                              rotate_left
                              · intro w'
                                go_simp
                                with_reducible rfl
                              rotate_left
                              · simp only [Act.put, List.setIfInBounds_toArray, List.set_cons_zero, List.set_cons_succ, i64_w, i32_w]
                                rfl
                              refine pure_ (i := 5) (N := some 91) (v := ?_) (a' := ?_) #[true, false, true, false, false, true, false, false, false, false, false, false] rfl rfl (any_of HT_.out (by kernel_rfl)) (fun _ _ _ h => h) (Or.inl ⟨by rfl, ?_⟩) ?_ ?_
                              rotate_left
                              · intro w'
                                go_simp
                                with_reducible rfl
                              rotate_left
                              · simp only [Act.put, List.setIfInBounds_toArray, List.set_cons_zero, List.set_cons_succ, i64_w, i32_w]
                                rfl
                              refine pure_ (i := 7) (N := some 93) (v := ?_) (a' := ?_) #[true, false, true, false, false, true, false, true, false, false, false, false] rfl rfl (any_of HT_.out (by kernel_rfl)) (fun _ _ _ h => h) (Or.inl ⟨by rfl, ?_⟩) ?_ ?_
                              rotate_left
                              · intro w'
                                go_simp
                                with_reducible rfl
                              rotate_left
                              · simp only [Act.put, List.setIfInBounds_toArray, List.set_cons_zero, List.set_cons_succ, i64_w, i32_w]
                                rfl
                              refine take_ (i := 1) (N := some 87) (v := ?_) (a' := ?_) #[true, true, true, false, false, true, false, true, false, false, false, false] rfl rfl (take_ofW HT_.out HW_.out (by kernel_rfl)) (fun _ _ _ h => h) (Or.inl ⟨by rfl, ?_⟩) hHeld ?_ ?_
                              rotate_left
                              · rintro w' ⟨s0, s1, s2, s3, s4, s5, s6, s7, s8, s9, s10, s11, s12, s13, s14, s15, s16, s17, s18, s19⟩
                                go_simp
                                with_reducible rfl
                              rotate_left
                              · simp only [Act.put, List.setIfInBounds_toArray, List.set_cons_zero, List.set_cons_succ, i64_w, i32_w]
                                rfl
                              refine pure_ (i := 3) (N := some 89) (v := ?_) (a' := ?_) #[true, true, true, true, false, true, false, true, false, false, false, false] rfl rfl (any_of HT_.out (by kernel_rfl)) (fun _ _ _ h => h) (Or.inl ⟨by rfl, ?_⟩) ?_ ?_
                              rotate_left
                              · intro w'
                                go_simp
                                with_reducible rfl
                              rotate_left
                              · simp only [Act.put, List.setIfInBounds_toArray, List.set_cons_zero, List.set_cons_succ, i64_w, i32_w]
                                rfl
                              refine take_ (i := 4) (N := some 90) (v := ?_) (a' := ?_) #[true, true, true, true, true, true, false, true, false, false, false, false] rfl rfl (take_ofW HT_.out HW_.out (by kernel_rfl)) (fun _ _ _ h => h) (Or.inl ⟨by rfl, ?_⟩) hHeld ?_ ?_
                              rotate_left
                              · rintro w' ⟨s0, s1, s2, s3, s4, s5, s6, s7, s8, s9, s10, s11, s12, s13, s14, s15, s16, s17, s18, s19⟩
                                go_simp
                                with_reducible rfl
                              rotate_left
                              · simp only [Act.put, List.setIfInBounds_toArray, List.set_cons_zero, List.set_cons_succ, i64_w, i32_w]
                                rfl
                              refine take_ (i := 6) (N := some 92) (v := ?_) (a' := ?_) #[true, true, true, true, true, true, true, true, false, false, false, false] rfl rfl (take_ofW HT_.out HW_.out (by kernel_rfl)) (fun _ _ _ h => h) (Or.inl ⟨by rfl, ?_⟩) hHeld ?_ ?_
                              rotate_left
                              · rintro w' ⟨s0, s1, s2, s3, s4, s5, s6, s7, s8, s9, s10, s11, s12, s13, s14, s15, s16, s17, s18, s19⟩
                                go_simp
                                with_reducible rfl
                              rotate_left
                              · simp only [Act.put, List.setIfInBounds_toArray, List.set_cons_zero, List.set_cons_succ, i64_w, i32_w]
                                rfl
                              refine pure_ (i := 8) (N := some 94) (v := ?_) (a' := ?_) #[true, true, true, true, true, true, true, true, true, false, false, false] rfl rfl (any_of HT_.out (by kernel_rfl)) (fun _ _ _ h => h) (Or.inl ⟨by rfl, ?_⟩) ?_ ?_
                              rotate_left
                              · intro w'
                                go_simp
                                with_reducible rfl
                              rotate_left
                              · simp only [Act.put, List.setIfInBounds_toArray, List.set_cons_zero, List.set_cons_succ, i64_w, i32_w]
                                rfl
                              refine take_ (i := 9) (N := some 95) (v := ?_) (a' := ?_) #[true, true, true, true, true, true, true, true, true, true, false, false] rfl rfl (take_ofW HT_.out HW_.out (by kernel_rfl)) (fun _ _ _ h => h) (Or.inl ⟨by rfl, ?_⟩) hHeld ?_ ?_
                              rotate_left
                              · rintro w' ⟨s0, s1, s2, s3, s4, s5, s6, s7, s8, s9, s10, s11, s12, s13, s14, s15, s16, s17, s18, s19⟩
                                go_simp
                                with_reducible rfl
                              rotate_left
                              · simp only [Act.put, List.setIfInBounds_toArray, List.set_cons_zero, List.set_cons_succ, i64_w, i32_w]
                                rfl
                              refine one_ (i := 10) (N := some 96) #[true, true, true, true, true, true, true, true, true, true, true, false] rfl rfl (one_of HT_.out (by kernel_rfl)) (by decide) (fun K hK => ?_)
                              refine goes_ Try.func33 (by kernel_rfl) rfl #[.agg #[.int .i64 ((rd_T25 l0_3 x6_2).f0), .int .i64 ((rd_T25 l0_3 x6_2).f1), .string ((rd_T25 l0_3 x6_2).f2), .slice A182_3 ((rd_T25 l0_3 x6_2).f3).length c182_3, .slice A182_4 ((rd_T25 l0_3 x6_2).f4).length c182_4], .agg #[.int .i64 ((rd_T25 l1_3 x6_2).f0), .int .i64 ((rd_T25 l1_3 x6_2).f1), .string ((rd_T25 l1_3 x6_2).f2), .slice A183_3 ((rd_T25 l1_3 x6_2).f3).length c183_3, .slice A183_4 ((rd_T25 l1_3 x6_2).f4).length c183_4]] (by rfl) rfl rfl (by (try simp only [List.map_toArray, List.map_cons, List.map_nil]); first | done | rfl | (simp only [List.length_drop, List.length_take]; rfl)) ?_
                              with_reducible refine (ih kj37 (by have := HJ2.out; have := HK2.out; have := HJ37.out; omega) ((rd_T25 l0_3 x6_2).f0) ((rd_T25 l0_3 x6_2).f1) ((rd_T25 l0_3 x6_2).f2) _ _ ((rd_T25 l0_3 x6_2).f3) _ _ ((rd_T25 l0_3 x6_2).f4) ((rd_T25 l1_3 x6_2).f0) ((rd_T25 l1_3 x6_2).f1) ((rd_T25 l1_3 x6_2).f2) _ _ ((rd_T25 l1_3 x6_2).f3) _ _ ((rd_T25 l1_3 x6_2).f4) t184 _ ?side1 ?side2 ?side3 ?side4 ?side5 ?side6 ?side7 ?side8 A58.out).mono ?_
                              (case side1 => repeat (first | exact (Kd.C_below HR182_3.out HB.out) | (with_reducible refine Kd.C_alloc ?_ _) | (with_reducible refine Kd.C_drewN ?_ _) | (with_reducible refine Kd.C_drew ?_)))
                              (case side2 => exact HC182_3.out)
                              (case side3 => repeat (first | exact (Kd.C_below HR182_4.out HB.out) | (with_reducible refine Kd.C_alloc ?_ _) | (with_reducible refine Kd.C_drewN ?_ _) | (with_reducible refine Kd.C_drew ?_)))
                              (case side4 => exact HC182_4.out)
                              (case side5 => repeat (first | exact (Kd.C_below HR183_3.out HB.out) | (with_reducible refine Kd.C_alloc ?_ _) | (with_reducible refine Kd.C_drewN ?_ _) | (with_reducible refine Kd.C_drew ?_)))
                              (case side6 => exact HC183_3.out)
                              (case side7 => repeat (first | exact (Kd.C_below HR183_4.out HB.out) | (with_reducible refine Kd.C_alloc ?_ _) | (with_reducible refine Kd.C_drewN ?_ _) | (with_reducible refine Kd.C_drew ?_)))
                              (case side8 => exact HC183_4.out)
                              rintro e w63 ⟨rfl, hb⟩
                              refine ⟨_, rfl, ?_⟩
                              have n0_ := Aside0.mk (blk_below (g := gb176) (o := .cells #[.int .i64 a0_0, .int .i64 a0_1, .string a0_2, .slice (some ad182) l0_3.length c0_3, .slice (some ad179) l0_4.length c0_4] 25 (0, 0)) (by (with_reducible repeat (first | refine blk_drewN ?_ _ | refine blk_drew ?_ | refine blk_alloc ?_ _)); exact BK176.out) hb)
                              have n1_ := Aside0.mk (blk_below (g := gb177) (o := .cells #[.int .i64 a1_0, .int .i64 a1_1, .string a1_2, .slice (some ad183) l1_3.length c1_3, .slice (some ad180) l1_4.length c1_4] 25 (0, 0)) (by (with_reducible repeat (first | refine blk_drewN ?_ _ | refine blk_drew ?_ | refine blk_alloc ?_ _)); exact BK177.out) hb)
                              have n2_ := Aside0.mk (below_step (by repeat (first | (with_reducible first | exact HB.out | apply below_alloc | apply pw_below_drewN | apply below_drew1 | refine below_set ?_ GE176.out | refine below_set ?_ GE177.out) | exact HB.out)) hb)
                              clear BK176
                              clear BK177
                              clear HB
                              have BK176 := n0_
                              have BK177 := n1_
                              have HB := n2_
                              clear n0_ n1_ n2_
                              (try clear hb)
                              (try clear hb2)
                              (try clear hk)
                              (try clear hi)
                              refine hK.out _ _ ⟨(blk_cell BK176.out 0).trans rfl, (blk_cell BK176.out 1).trans rfl, (blk_cell BK176.out 2).trans rfl, (blk_cell BK176.out 3).trans rfl, (blk_cell BK176.out 4).trans rfl, (blk_cell BK177.out 0).trans rfl, (blk_cell BK177.out 1).trans rfl, (blk_cell BK177.out 2).trans rfl, (blk_cell BK177.out 3).trans rfl, (blk_cell BK177.out 4).trans rfl, ((HB.out.cell (World.block_lt_of_cell? w _ hw182_0)).trans hw182_0), ((HB.out.cell (World.block_lt_of_cell? w _ hw182_1)).trans hw182_1), ((HB.out.cell (World.block_lt_of_cell? w _ hw182_2)).trans hw182_2), ((HB.out.cell (World.block_lt_of_cell? w _ hw182_3)).trans hw182_3), ((HB.out.cell (World.block_lt_of_cell? w _ hw182_4)).trans hw182_4), ((HB.out.cell (World.block_lt_of_cell? w _ hw183_0)).trans hw183_0), ((HB.out.cell (World.block_lt_of_cell? w _ hw183_1)).trans hw183_1), ((HB.out.cell (World.block_lt_of_cell? w _ hw183_2)).trans hw183_2), ((HB.out.cell (World.block_lt_of_cell? w _ hw183_3)).trans hw183_3), ((HB.out.cell (World.block_lt_of_cell? w _ hw183_4)).trans hw183_4)⟩ (fun hHeld => ?_)
                              clear hK K
                              refine norm_ (a' := ?_) ?_ ?_
                              rotate_left
                              · show Act.put _ (some 96) _ = _
                                simp only [Act.put, List.setIfInBounds_toArray, List.set_cons_zero, List.set_cons_succ, i64_w, i32_w]
                                rfl
                              refine pure_ (i := 11) (N := some 5) (v := ?_) (a' := ?_) #[true, true, true, true, true, true, true, true, true, true, true, true] rfl rfl (any_of HT_.out (by kernel_rfl)) (fun _ _ _ h => h) (Or.inl ⟨by rfl, ?_⟩) ?_ ?_
                              rotate_left
                              · intro w'
                                go_simp
                                with_reducible rfl
                              rotate_left
                              · simp only [Act.put, List.setIfInBounds_toArray, List.set_cons_zero, List.set_cons_succ, i64_w, i32_w]
                                rfl
                              refine done_ (done_of HT_.out (by kernel_rfl)) ?_
                              try go_wp2
                              go_roundg kj37
                              case measure => have := HJ2.out; have := HK2.out; have := HJ37.out; omega
                              case rel => exact ⟨(t184), (wrap64 (x6_2 + 1)), (by first | rfl | (simp; done) | (simp [*]; done)), (by first | rfl | (simp; done) | (simp [*]; done)), H', ⟨by have := HJ2.out; have := HK2.out; have := HJ37.out; omega⟩, ⟨by (with_reducible repeat (first | refine blk_drewN ?_ _ | refine blk_drew ?_ | refine blk_alloc ?_ _)); exact BK176.out⟩, ⟨by (with_reducible repeat (first | refine blk_drewN ?_ _ | refine blk_drew ?_ | refine blk_alloc ?_ _)); exact BK177.out⟩, ⟨by repeat (first | (with_reducible first | exact HB.out | apply below_alloc | apply pw_below_drewN | apply below_drew1 | refine below_set ?_ GE176.out | refine below_set ?_ GE177.out) | exact HB.out)⟩⟩
                            · rw [if_neg c57] at H
                              exact absurd H (by simp)
                          · rw [if_neg c56] at H
                            exact absurd H (by simp)
                        · rw [if_neg c55] at H
                          have c55b0 : (t181 == 0) = false := beq_eq_false_iff_ne.mpr c55
                          have c55b1 : (t181 != 0) = true := bne_iff_ne.mpr c55
                          have H' := Aside0.mk H
                          clear H
                          have hnb64 := NB176_177.out
                          have hnc64 := NB177_176.out
                          have hcz65_0 : wc.cell? ⟨gb176, 0, none⟩ = some (.int .i64 a0_0) := (blk_cell BK176.out 0).trans rfl
                          have hcz65_1 : wc.cell? ⟨gb176, 1, none⟩ = some (.int .i64 a0_1) := (blk_cell BK176.out 1).trans rfl
                          have hcz65_2 : wc.cell? ⟨gb176, 2, none⟩ = some (.string a0_2) := (blk_cell BK176.out 2).trans rfl
                          have hcz65_3 : wc.cell? ⟨gb176, 3, none⟩ = some (.slice A0_3 l0_3.length c0_3) := (blk_cell BK176.out 3).trans rfl
                          have hcz65_4 : wc.cell? ⟨gb176, 4, none⟩ = some (.slice A0_4 l0_4.length c0_4) := (blk_cell BK176.out 4).trans rfl
                          have hfz65_0 := blk_frozen BK176.out 0
                          have hfz65_1 := blk_frozen BK176.out 1
                          have hfz65_2 := blk_frozen BK176.out 2
                          have hfz65_3 := blk_frozen BK176.out 3
                          have hfz65_4 := blk_frozen BK176.out 4
                          try go_wp2
                          have n0_ := Aside0.mk (blk_drew BK176.out)
                          have n1_ := Aside0.mk (blk_drew BK177.out)
                          have n2_ := Aside0.mk (below_drew1 HB.out)
                          clear BK176
                          clear BK177
                          clear HB
                          have BK176 := n0_
                          have BK177 := n1_
                          have HB := n2_
                          clear n0_ n1_ n2_
                          have p179 : 0 ≤ (x6_2 : Int) := of_decide_eq_true (by first | (with_reducible assumption) | assumption)
                          have q179 : x6_2 < (l0_4.length : Int) := of_decide_eq_true (by first | (with_reducible assumption) | assumption)
                          obtain ⟨ad179, e179, hx179_0⟩ := Kd.at_string HR0_4.out x6_2 p179 q179
                          have hw179_0 := hx179_0
                          cases e179
                          replace hx179_0 := (HB.out.cell (World.block_lt_of_cell? w _ hx179_0)).trans hx179_0
                          replace p179 := eq_true p179
                          replace q179 := eq_true q179
                          have p180 : 0 ≤ (x6_2 : Int) := of_decide_eq_true (by first | (with_reducible assumption) | assumption)
                          have q180 : x6_2 < (l1_4.length : Int) := of_decide_eq_true (by first | (with_reducible assumption) | assumption)
                          obtain ⟨ad180, e180, hx180_0⟩ := Kd.at_string HR1_4.out x6_2 p180 q180
                          have hw180_0 := hx180_0
                          cases e180
                          replace hx180_0 := (HB.out.cell (World.block_lt_of_cell? w _ hx180_0)).trans hx180_0
                          replace p180 := eq_true p180
                          replace q180 := eq_true q180
                          refine start_ (n := 12) (S := fun w' => w'.cell? ⟨gb176, 0, none⟩ = some (.int .i64 a0_0) ∧ w'.cell? ⟨gb176, 1, none⟩ = some (.int .i64 a0_1) ∧ w'.cell? ⟨gb176, 2, none⟩ = some (.string a0_2) ∧ w'.cell? ⟨gb176, 3, none⟩ = some (.slice A0_3 l0_3.length c0_3) ∧ w'.cell? ⟨gb176, 4, none⟩ = some (.slice (some ad179) l0_4.length c0_4) ∧ w'.cell? ⟨gb177, 0, none⟩ = some (.int .i64 a1_0) ∧ w'.cell? ⟨gb177, 1, none⟩ = some (.int .i64 a1_1) ∧ w'.cell? ⟨gb177, 2, none⟩ = some (.string a1_2) ∧ w'.cell? ⟨gb177, 3, none⟩ = some (.slice A1_3 l1_3.length c1_3) ∧ w'.cell? ⟨gb177, 4, none⟩ = some (.slice (some ad180) l1_4.length c1_4) ∧ w'.cell? (ad179.add (x6_2).toNat) = some (.string (rdOf ByteArray.empty l0_4 x6_2)) ∧ w'.cell? (ad180.add (x6_2).toNat) = some (.string (rdOf ByteArray.empty l1_4 x6_2))) (ds := []) #[false, false, false, false, false, false, false, false, false, false, false, false] (by kernel_rfl) rfl rfl ⟨(blk_cell BK176.out 0).trans rfl, (blk_cell BK176.out 1).trans rfl, (blk_cell BK176.out 2).trans rfl, (blk_cell BK176.out 3).trans rfl, (blk_cell BK176.out 4).trans rfl, (blk_cell BK177.out 0).trans rfl, (blk_cell BK177.out 1).trans rfl, (blk_cell BK177.out 2).trans rfl, (blk_cell BK177.out 3).trans rfl, (blk_cell BK177.out 4).trans rfl, ((HB.out.cell (World.block_lt_of_cell? w _ hw179_0)).trans hw179_0), ((HB.out.cell (World.block_lt_of_cell? w _ hw180_0)).trans hw180_0)⟩ (fun hHeld => ?_); refine with_tabW scrupleref03_order.tab10 scrupleref03_order.bits10 (fun HT_ HW_ => ?_)
                          generalize wc.drew = w66 at BK176 BK177 HB hx179_0 hx180_0 hHeld ⊢
                          refine pure_ (i := 0) (N := some 73) (v := ?_) (a' := ?_) #[true, false, false, false, false, false, false, false, false, false, false, false] rfl rfl (any_of HT_.out (by kernel_rfl)) (fun _ _ _ h => h) (Or.inl ⟨by rfl, ?_⟩) ?_ ?_
                          rotate_left
                          · intro w'
                            go_simp
                            with_reducible rfl
                          rotate_left
                          · simp only [Act.put, List.setIfInBounds_toArray, List.set_cons_zero, List.set_cons_succ, i64_w, i32_w]
                            rfl
                          refine pure_ (i := 2) (N := some 75) (v := ?_) (a' := ?_) #[true, false, true, false, false, false, false, false, false, false, false, false] rfl rfl (any_of HT_.out (by kernel_rfl)) (fun _ _ _ h => h) (Or.inl ⟨by rfl, ?_⟩) ?_ ?_
                          rotate_left
                          · intro w'
                            go_simp
                            with_reducible rfl
                          rotate_left
                          · simp only [Act.put, List.setIfInBounds_toArray, List.set_cons_zero, List.set_cons_succ, i64_w, i32_w]
                            rfl
                          refine pure_ (i := 5) (N := some 78) (v := ?_) (a' := ?_) #[true, false, true, false, false, true, false, false, false, false, false, false] rfl rfl (any_of HT_.out (by kernel_rfl)) (fun _ _ _ h => h) (Or.inl ⟨by rfl, ?_⟩) ?_ ?_
                          rotate_left
                          · intro w'
                            go_simp
                            with_reducible rfl
                          rotate_left
                          · simp only [Act.put, List.setIfInBounds_toArray, List.set_cons_zero, List.set_cons_succ, i64_w, i32_w]
                            rfl
                          refine pure_ (i := 7) (N := some 80) (v := ?_) (a' := ?_) #[true, false, true, false, false, true, false, true, false, false, false, false] rfl rfl (any_of HT_.out (by kernel_rfl)) (fun _ _ _ h => h) (Or.inl ⟨by rfl, ?_⟩) ?_ ?_
                          rotate_left
                          · intro w'
                            go_simp
                            with_reducible rfl
                          rotate_left
                          · simp only [Act.put, List.setIfInBounds_toArray, List.set_cons_zero, List.set_cons_succ, i64_w, i32_w]
                            rfl
                          refine take_ (i := 1) (N := some 74) (v := ?_) (a' := ?_) #[true, true, true, false, false, true, false, true, false, false, false, false] rfl rfl (take_ofW HT_.out HW_.out (by kernel_rfl)) (fun _ _ _ h => h) (Or.inl ⟨by rfl, ?_⟩) hHeld ?_ ?_
                          rotate_left
                          · rintro w' ⟨s0, s1, s2, s3, s4, s5, s6, s7, s8, s9, s10, s11⟩
                            go_simp
                            with_reducible rfl
                          rotate_left
                          · simp only [Act.put, List.setIfInBounds_toArray, List.set_cons_zero, List.set_cons_succ, i64_w, i32_w]
                            rfl
                          refine pure_ (i := 3) (N := some 76) (v := ?_) (a' := ?_) #[true, true, true, true, false, true, false, true, false, false, false, false] rfl rfl (any_of HT_.out (by kernel_rfl)) (fun _ _ _ h => h) (Or.inl ⟨by rfl, ?_⟩) ?_ ?_
                          rotate_left
                          · intro w'
                            go_simp
                            with_reducible rfl
                          rotate_left
                          · simp only [Act.put, List.setIfInBounds_toArray, List.set_cons_zero, List.set_cons_succ, i64_w, i32_w]
                            rfl
                          refine take_ (i := 4) (N := some 77) (v := ?_) (a' := ?_) #[true, true, true, true, true, true, false, true, false, false, false, false] rfl rfl (take_ofW HT_.out HW_.out (by kernel_rfl)) (fun _ _ _ h => h) (Or.inl ⟨by rfl, ?_⟩) hHeld ?_ ?_
                          rotate_left
                          · rintro w' ⟨s0, s1, s2, s3, s4, s5, s6, s7, s8, s9, s10, s11⟩
                            go_simp
                            with_reducible rfl
                          rotate_left
                          · simp only [Act.put, List.setIfInBounds_toArray, List.set_cons_zero, List.set_cons_succ, i64_w, i32_w]
                            rfl
                          refine take_ (i := 6) (N := some 79) (v := ?_) (a' := ?_) #[true, true, true, true, true, true, true, true, false, false, false, false] rfl rfl (take_ofW HT_.out HW_.out (by kernel_rfl)) (fun _ _ _ h => h) (Or.inl ⟨by rfl, ?_⟩) hHeld ?_ ?_
                          rotate_left
                          · rintro w' ⟨s0, s1, s2, s3, s4, s5, s6, s7, s8, s9, s10, s11⟩
                            go_simp
                            with_reducible rfl
                          rotate_left
                          · simp only [Act.put, List.setIfInBounds_toArray, List.set_cons_zero, List.set_cons_succ, i64_w, i32_w]
                            rfl
                          refine pure_ (i := 8) (N := some 81) (v := ?_) (a' := ?_) #[true, true, true, true, true, true, true, true, true, false, false, false] rfl rfl (any_of HT_.out (by kernel_rfl)) (fun _ _ _ h => h) (Or.inl ⟨by rfl, ?_⟩) ?_ ?_
                          rotate_left
                          · intro w'
                            go_simp
                            with_reducible rfl
                          rotate_left
                          · simp only [Act.put, List.setIfInBounds_toArray, List.set_cons_zero, List.set_cons_succ, i64_w, i32_w]
                            rfl
                          refine take_ (i := 9) (N := some 82) (v := ?_) (a' := ?_) #[true, true, true, true, true, true, true, true, true, true, false, false] rfl rfl (take_ofW HT_.out HW_.out (by kernel_rfl)) (fun _ _ _ h => h) (Or.inl ⟨by rfl, ?_⟩) hHeld ?_ ?_
                          rotate_left
                          · rintro w' ⟨s0, s1, s2, s3, s4, s5, s6, s7, s8, s9, s10, s11⟩
                            go_simp
                            with_reducible rfl
                          rotate_left
                          · simp only [Act.put, List.setIfInBounds_toArray, List.set_cons_zero, List.set_cons_succ, i64_w, i32_w]
                            rfl
                          refine one_ (i := 10) (N := some 83) #[true, true, true, true, true, true, true, true, true, true, true, false] rfl rfl (one_of HT_.out (by kernel_rfl)) (by decide) (fun K hK => ?_)
                          refine goes_ Try.func58 (by kernel_rfl) rfl #[.string (rdOf ByteArray.empty l0_4 x6_2), .string (rdOf ByteArray.empty l1_4 x6_2)] (by rfl) rfl rfl (by (try simp only [List.map_toArray, List.map_cons, List.map_nil]); first | done | rfl | (simp only [List.length_drop, List.length_take]; rfl)) ?_
                          with_reducible refine (scrupleref03_texts.calls (rdOf ByteArray.empty l0_4 x6_2) (rdOf ByteArray.empty l1_4 x6_2) t181 _ A54.out).mono ?_
                          rintro e w' ⟨rfl, ⟨nd, rfl⟩⟩
                          refine ⟨_, rfl, ?_⟩
                          refine hK.out _ _ ⟨(blk_cell BK176.out 0).trans rfl, (blk_cell BK176.out 1).trans rfl, (blk_cell BK176.out 2).trans rfl, (blk_cell BK176.out 3).trans rfl, (blk_cell BK176.out 4).trans rfl, (blk_cell BK177.out 0).trans rfl, (blk_cell BK177.out 1).trans rfl, (blk_cell BK177.out 2).trans rfl, (blk_cell BK177.out 3).trans rfl, (blk_cell BK177.out 4).trans rfl, ((HB.out.cell (World.block_lt_of_cell? w _ hw179_0)).trans hw179_0), ((HB.out.cell (World.block_lt_of_cell? w _ hw180_0)).trans hw180_0)⟩ (fun hHeld => ?_)
                          clear hK K
                          refine norm_ (a' := ?_) ?_ ?_
                          rotate_left
                          · show Act.put _ (some 83) _ = _
                            simp only [Act.put, List.setIfInBounds_toArray, List.set_cons_zero, List.set_cons_succ, i64_w, i32_w]
                            rfl
                          refine pure_ (i := 11) (N := some 5) (v := ?_) (a' := ?_) #[true, true, true, true, true, true, true, true, true, true, true, true] rfl rfl (any_of HT_.out (by kernel_rfl)) (fun _ _ _ h => h) (Or.inl ⟨by rfl, ?_⟩) ?_ ?_
                          rotate_left
                          · intro w'
                            go_simp
                            with_reducible rfl
                          rotate_left
                          · simp only [Act.put, List.setIfInBounds_toArray, List.set_cons_zero, List.set_cons_succ, i64_w, i32_w]
                            rfl
                          refine done_ (done_of HT_.out (by kernel_rfl)) ?_
                          try go_wp2
                          go_roundg kj37
                          case measure => have := HJ2.out; have := HK2.out; have := HJ37.out; omega
                          case rel => exact ⟨(t181), (wrap64 (x6_2 + 1)), (by first | rfl | (simp; done) | (simp [*]; done)), (by first | rfl | (simp; done) | (simp [*]; done)), H', ⟨by have := HJ2.out; have := HK2.out; have := HJ37.out; omega⟩, ⟨by (with_reducible repeat (first | refine blk_drewN ?_ _ | refine blk_drew ?_ | refine blk_alloc ?_ _)); exact BK176.out⟩, ⟨by (with_reducible repeat (first | refine blk_drewN ?_ _ | refine blk_drew ?_ | refine blk_alloc ?_ _)); exact BK177.out⟩, ⟨by repeat (first | (with_reducible first | exact HB.out | apply below_alloc | apply pw_below_drewN | apply below_drew1 | refine below_set ?_ GE176.out | refine below_set ?_ GE177.out) | exact HB.out)⟩⟩
                      · rw [if_neg c53] at H
                        exact absurd H (by simp)
                    · rw [if_neg c52] at H
                      exact absurd H (by simp)
                  · rw [if_neg c51] at H
                    exact absurd H (by simp)
                · rw [if_neg c50] at H
                  have c50b0 : (a0_0 == 5) = false := beq_eq_false_iff_ne.mpr c50
                  have c50b1 : (a0_0 != 5) = true := bne_iff_ne.mpr c50
                  by_cases c67 : x5_2 = 0
                  · rw [if_pos c67] at H
                    have c67b0 : (x5_2 == 0) = true := beq_iff_eq.mpr c67
                    have c67b1 : (x5_2 != 0) = false := bne_eq_false_iff_eq.mpr c67
                    clear c67
                    by_cases c68 : 0 ≤ x6_2
                    · rw [if_pos c68] at H
                      have c68b0 : decide (0 ≤ x6_2) = true := decide_eq_true c68
                      clear c68
                      by_cases c69 : x6_2 < (l0_3.length : Int)
                      · rw [if_pos c69] at H
                        have c69b0 : decide (x6_2 < (l0_3.length : Int)) = true := decide_eq_true c69
                        clear c69
                        by_cases c70 : x6_2 < (l1_3.length : Int)
                        · rw [if_pos c70] at H
                          have c70b0 : decide (x6_2 < (l1_3.length : Int)) = true := decide_eq_true c70
                          clear c70
                          replace H := Option.bind_eq_some_iff.mp H
                          obtain ⟨t187, A710, H⟩ := H
                          replace H : (scrupleref03_order.l0 kj37 t187 (wrap64 (x6_2 + 1)) a0_0 a0_1 a0_2 l0_3 l0_4 a1_0 a1_1 a1_2 l1_3 l1_4) = some r := H
                          have A71 := Aside0.mk A710
                          clear A710
                          have H' := Aside0.mk H
                          clear H
                          have hnb72 := NB176_177.out
                          have hnc72 := NB177_176.out
                          have hcz73_0 : wc.cell? ⟨gb176, 0, none⟩ = some (.int .i64 a0_0) := (blk_cell BK176.out 0).trans rfl
                          have hcz73_1 : wc.cell? ⟨gb176, 1, none⟩ = some (.int .i64 a0_1) := (blk_cell BK176.out 1).trans rfl
                          have hcz73_2 : wc.cell? ⟨gb176, 2, none⟩ = some (.string a0_2) := (blk_cell BK176.out 2).trans rfl
                          have hcz73_3 : wc.cell? ⟨gb176, 3, none⟩ = some (.slice A0_3 l0_3.length c0_3) := (blk_cell BK176.out 3).trans rfl
                          have hcz73_4 : wc.cell? ⟨gb176, 4, none⟩ = some (.slice A0_4 l0_4.length c0_4) := (blk_cell BK176.out 4).trans rfl
                          have hfz73_0 := blk_frozen BK176.out 0
                          have hfz73_1 := blk_frozen BK176.out 1
                          have hfz73_2 := blk_frozen BK176.out 2
                          have hfz73_3 := blk_frozen BK176.out 3
                          have hfz73_4 := blk_frozen BK176.out 4
                          try go_wp2
                          have n0_ := Aside0.mk (blk_drew BK176.out)
                          have n1_ := Aside0.mk (blk_drew BK177.out)
                          have n2_ := Aside0.mk (below_drew1 HB.out)
                          clear BK176
                          clear BK177
                          clear HB
                          have BK176 := n0_
                          have BK177 := n1_
                          have HB := n2_
                          clear n0_ n1_ n2_
                          have p185 : 0 ≤ (x6_2 : Int) := of_decide_eq_true (by first | (with_reducible assumption) | assumption)
                          have q185 : x6_2 < (l0_3.length : Int) := of_decide_eq_true (by first | (with_reducible assumption) | assumption)
                          obtain ⟨ad185, A185_3, c185_3, A185_4, c185_4, e185, hx185_0, hx185_1, hx185_2, hx185_3, hx185_4, hl185_3, hi185_3, hl185_4, hi185_4⟩ := at_T25 HR0_3.out x6_2 p185 q185
                          have hw185_4 := hx185_4
                          have hw185_3 := hx185_3
                          have hw185_2 := hx185_2
                          have hw185_1 := hx185_1
                          have hw185_0 := hx185_0
                          cases e185
                          replace hx185_0 := (HB.out.cell (World.block_lt_of_cell? w _ hx185_0)).trans hx185_0
                          replace hx185_1 := (HB.out.cell (World.block_lt_of_cell? w _ hx185_1)).trans hx185_1
                          replace hx185_2 := (HB.out.cell (World.block_lt_of_cell? w _ hx185_2)).trans hx185_2
                          replace hx185_3 := (HB.out.cell (World.block_lt_of_cell? w _ hx185_3)).trans hx185_3
                          replace hx185_4 := (HB.out.cell (World.block_lt_of_cell? w _ hx185_4)).trans hx185_4
                          have HR185_3 := Aside0.mk hi185_3
                          have HC185_3 := Aside0.mk hl185_3
                          clear hi185_3 hl185_3
                          have HR185_4 := Aside0.mk hi185_4
                          have HC185_4 := Aside0.mk hl185_4
                          clear hi185_4 hl185_4
                          replace p185 := eq_true p185
                          replace q185 := eq_true q185
                          have p186 : 0 ≤ (x6_2 : Int) := of_decide_eq_true (by first | (with_reducible assumption) | assumption)
                          have q186 : x6_2 < (l1_3.length : Int) := of_decide_eq_true (by first | (with_reducible assumption) | assumption)
                          obtain ⟨ad186, A186_3, c186_3, A186_4, c186_4, e186, hx186_0, hx186_1, hx186_2, hx186_3, hx186_4, hl186_3, hi186_3, hl186_4, hi186_4⟩ := at_T25 HR1_3.out x6_2 p186 q186
                          have hw186_4 := hx186_4
                          have hw186_3 := hx186_3
                          have hw186_2 := hx186_2
                          have hw186_1 := hx186_1
                          have hw186_0 := hx186_0
                          cases e186
                          replace hx186_0 := (HB.out.cell (World.block_lt_of_cell? w _ hx186_0)).trans hx186_0
                          replace hx186_1 := (HB.out.cell (World.block_lt_of_cell? w _ hx186_1)).trans hx186_1
                          replace hx186_2 := (HB.out.cell (World.block_lt_of_cell? w _ hx186_2)).trans hx186_2
                          replace hx186_3 := (HB.out.cell (World.block_lt_of_cell? w _ hx186_3)).trans hx186_3
                          replace hx186_4 := (HB.out.cell (World.block_lt_of_cell? w _ hx186_4)).trans hx186_4
                          have HR186_3 := Aside0.mk hi186_3
                          have HC186_3 := Aside0.mk hl186_3
                          clear hi186_3 hl186_3
                          have HR186_4 := Aside0.mk hi186_4
                          have HC186_4 := Aside0.mk hl186_4
                          clear hi186_4 hl186_4
                          replace p186 := eq_true p186
                          replace q186 := eq_true q186
                          refine start_ (n := 12) (S := fun w' => w'.cell? ⟨gb176, 0, none⟩ = some (.int .i64 a0_0) ∧ w'.cell? ⟨gb176, 1, none⟩ = some (.int .i64 a0_1) ∧ w'.cell? ⟨gb176, 2, none⟩ = some (.string a0_2) ∧ w'.cell? ⟨gb176, 3, none⟩ = some (.slice (some ad185) l0_3.length c0_3) ∧ w'.cell? ⟨gb176, 4, none⟩ = some (.slice A0_4 l0_4.length c0_4) ∧ w'.cell? ⟨gb177, 0, none⟩ = some (.int .i64 a1_0) ∧ w'.cell? ⟨gb177, 1, none⟩ = some (.int .i64 a1_1) ∧ w'.cell? ⟨gb177, 2, none⟩ = some (.string a1_2) ∧ w'.cell? ⟨gb177, 3, none⟩ = some (.slice (some ad186) l1_3.length c1_3) ∧ w'.cell? ⟨gb177, 4, none⟩ = some (.slice A1_4 l1_4.length c1_4) ∧ w'.cell? (ad185.add ((x6_2).toNat * 5)) = some (.int .i64 ((rd_T25 l0_3 x6_2).f0)) ∧ w'.cell? ⟨(ad185.add ((x6_2).toNat * 5)).block, (ad185.add ((x6_2).toNat * 5)).off + 1, none⟩ = some (.int .i64 ((rd_T25 l0_3 x6_2).f1)) ∧ w'.cell? ⟨(ad185.add ((x6_2).toNat * 5)).block, (ad185.add ((x6_2).toNat * 5)).off + 2, none⟩ = some (.string ((rd_T25 l0_3 x6_2).f2)) ∧ w'.cell? ⟨(ad185.add ((x6_2).toNat * 5)).block, (ad185.add ((x6_2).toNat * 5)).off + 3, none⟩ = some (.slice A185_3 ((rd_T25 l0_3 x6_2).f3).length c185_3) ∧ w'.cell? ⟨(ad185.add ((x6_2).toNat * 5)).block, (ad185.add ((x6_2).toNat * 5)).off + 4, none⟩ = some (.slice A185_4 ((rd_T25 l0_3 x6_2).f4).length c185_4) ∧ w'.cell? (ad186.add ((x6_2).toNat * 5)) = some (.int .i64 ((rd_T25 l1_3 x6_2).f0)) ∧ w'.cell? ⟨(ad186.add ((x6_2).toNat * 5)).block, (ad186.add ((x6_2).toNat * 5)).off + 1, none⟩ = some (.int .i64 ((rd_T25 l1_3 x6_2).f1)) ∧ w'.cell? ⟨(ad186.add ((x6_2).toNat * 5)).block, (ad186.add ((x6_2).toNat * 5)).off + 2, none⟩ = some (.string ((rd_T25 l1_3 x6_2).f2)) ∧ w'.cell? ⟨(ad186.add ((x6_2).toNat * 5)).block, (ad186.add ((x6_2).toNat * 5)).off + 3, none⟩ = some (.slice A186_3 ((rd_T25 l1_3 x6_2).f3).length c186_3) ∧ w'.cell? ⟨(ad186.add ((x6_2).toNat * 5)).block, (ad186.add ((x6_2).toNat * 5)).off + 4, none⟩ = some (.slice A186_4 ((rd_T25 l1_3 x6_2).f4).length c186_4)) (ds := []) #[false, false, false, false, false, false, false, false, false, false, false, false] (by kernel_rfl) rfl rfl ⟨(blk_cell BK176.out 0).trans rfl, (blk_cell BK176.out 1).trans rfl, (blk_cell BK176.out 2).trans rfl, (blk_cell BK176.out 3).trans rfl, (blk_cell BK176.out 4).trans rfl, (blk_cell BK177.out 0).trans rfl, (blk_cell BK177.out 1).trans rfl, (blk_cell BK177.out 2).trans rfl, (blk_cell BK177.out 3).trans rfl, (blk_cell BK177.out 4).trans rfl, ((HB.out.cell (World.block_lt_of_cell? w _ hw185_0)).trans hw185_0), ((HB.out.cell (World.block_lt_of_cell? w _ hw185_1)).trans hw185_1), ((HB.out.cell (World.block_lt_of_cell? w _ hw185_2)).trans hw185_2), ((HB.out.cell (World.block_lt_of_cell? w _ hw185_3)).trans hw185_3), ((HB.out.cell (World.block_lt_of_cell? w _ hw185_4)).trans hw185_4), ((HB.out.cell (World.block_lt_of_cell? w _ hw186_0)).trans hw186_0), ((HB.out.cell (World.block_lt_of_cell? w _ hw186_1)).trans hw186_1), ((HB.out.cell (World.block_lt_of_cell? w _ hw186_2)).trans hw186_2), ((HB.out.cell (World.block_lt_of_cell? w _ hw186_3)).trans hw186_3), ((HB.out.cell (World.block_lt_of_cell? w _ hw186_4)).trans hw186_4)⟩ (fun hHeld => ?_); refine with_tabW scrupleref03_order.tab12 scrupleref03_order.bits12 (fun HT_ HW_ => ?_)
                          generalize wc.drew = w74 at BK176 BK177 HB HR185_3 HR185_4 HR186_3 HR186_4 hx185_0 hx185_1 hx185_2 hx185_3 hx185_4 hx186_0 hx186_1 hx186_2 hx186_3 hx186_4 hHeld ⊢
                          refine pure_ (i := 0) (N := some 86) (v := ?_) (a' := ?_) #[true, false, false, false, false, false, false, false, false, false, false, false] rfl rfl (any_of HT_.out (by kernel_rfl)) (fun _ _ _ h => h) (Or.inl ⟨by rfl, ?_⟩) ?_ ?_
                          rotate_left
                          · intro w'
                            go_simp
                            with_reducible rfl
                          rotate_left
                          · simp only [Act.put, List.setIfInBounds_toArray, List.set_cons_zero, List.set_cons_succ, i64_w, i32_w]
                            rfl
                          refine pure_ (i := 2) (N := some 88) (v := ?_) (a' := ?_) #[true, false, true, false, false, false, false, false, false, false, false, false] rfl rfl (any_of HT_.out (by kernel_rfl)) (fun _ _ _ h => h) (Or.inl ⟨by rfl, ?_⟩) ?_ ?_
                          rotate_left
                          · intro w'
                            go_simp
                            with_reducible rfl
                          rotate_left
                          · simp only [Act.put, List.setIfInBounds_toArray, List.set_cons_zero, List.set_cons_succ, i64_w, i32_w]
                            rfl
                          refine pure_ (i := 5) (N := some 91) (v := ?_) (a' := ?_) #[true, false, true, false, false, true, false, false, false, false, false, false] rfl rfl (any_of HT_.out (by kernel_rfl)) (fun _ _ _ h => h) (Or.inl ⟨by rfl, ?_⟩) ?_ ?_
                          rotate_left
                          · intro w'
                            go_simp
                            with_reducible rfl
                          rotate_left
                          · simp only [Act.put, List.setIfInBounds_toArray, List.set_cons_zero, List.set_cons_succ, i64_w, i32_w]
                            rfl
                          refine pure_ (i := 7) (N := some 93) (v := ?_) (a' := ?_) #[true, false, true, false, false, true, false, true, false, false, false, false] rfl rfl (any_of HT_.out (by kernel_rfl)) (fun _ _ _ h => h) (Or.inl ⟨by rfl, ?_⟩) ?_ ?_
                          rotate_left
                          · intro w'
                            go_simp
                            with_reducible rfl
                          rotate_left
                          · simp only [Act.put, List.setIfInBounds_toArray, List.set_cons_zero, List.set_cons_succ, i64_w, i32_w]
                            rfl
                          refine take_ (i := 1) (N := some 87) (v := ?_) (a' := ?_) #[true, true, true, false, false, true, false, true, false, false, false, false] rfl rfl (take_ofW HT_.out HW_.out (by kernel_rfl)) (fun _ _ _ h => h) (Or.inl ⟨by rfl, ?_⟩) hHeld ?_ ?_
                          rotate_left
                          · rintro w' ⟨s0, s1, s2, s3, s4, s5, s6, s7, s8, s9, s10, s11, s12, s13, s14, s15, s16, s17, s18, s19⟩
                            go_simp
                            with_reducible rfl
                          rotate_left
                          · simp only [Act.put, List.setIfInBounds_toArray, List.set_cons_zero, List.set_cons_succ, i64_w, i32_w]
                            rfl
                          refine pure_ (i := 3) (N := some 89) (v := ?_) (a' := ?_) #[true, true, true, true, false, true, false, true, false, false, false, false] rfl rfl (any_of HT_.out (by kernel_rfl)) (fun _ _ _ h => h) (Or.inl ⟨by rfl, ?_⟩) ?_ ?_
                          rotate_left
                          · intro w'
                            go_simp
                            with_reducible rfl
                          rotate_left
                          · simp only [Act.put, List.setIfInBounds_toArray, List.set_cons_zero, List.set_cons_succ, i64_w, i32_w]
                            rfl
                          refine take_ (i := 4) (N := some 90) (v := ?_) (a' := ?_) #[true, true, true, true, true, true, false, true, false, false, false, false] rfl rfl (take_ofW HT_.out HW_.out (by kernel_rfl)) (fun _ _ _ h => h) (Or.inl ⟨by rfl, ?_⟩) hHeld ?_ ?_
                          rotate_left
                          · rintro w' ⟨s0, s1, s2, s3, s4, s5, s6, s7, s8, s9, s10, s11, s12, s13, s14, s15, s16, s17, s18, s19⟩
                            go_simp
                            with_reducible rfl
                          rotate_left
                          · simp only [Act.put, List.setIfInBounds_toArray, List.set_cons_zero, List.set_cons_succ, i64_w, i32_w]
                            rfl
                          refine take_ (i := 6) (N := some 92) (v := ?_) (a' := ?_) #[true, true, true, true, true, true, true, true, false, false, false, false] rfl rfl (take_ofW HT_.out HW_.out (by kernel_rfl)) (fun _ _ _ h => h) (Or.inl ⟨by rfl, ?_⟩) hHeld ?_ ?_
                          rotate_left
                          · rintro w' ⟨s0, s1, s2, s3, s4, s5, s6, s7, s8, s9, s10, s11, s12, s13, s14, s15, s16, s17, s18, s19⟩
                            go_simp
                            with_reducible rfl
                          rotate_left
                          · simp only [Act.put, List.setIfInBounds_toArray, List.set_cons_zero, List.set_cons_succ, i64_w, i32_w]
                            rfl
                          refine pure_ (i := 8) (N := some 94) (v := ?_) (a' := ?_) #[true, true, true, true, true, true, true, true, true, false, false, false] rfl rfl (any_of HT_.out (by kernel_rfl)) (fun _ _ _ h => h) (Or.inl ⟨by rfl, ?_⟩) ?_ ?_
                          rotate_left
                          · intro w'
                            go_simp
                            with_reducible rfl
                          rotate_left
                          · simp only [Act.put, List.setIfInBounds_toArray, List.set_cons_zero, List.set_cons_succ, i64_w, i32_w]
                            rfl
                          refine take_ (i := 9) (N := some 95) (v := ?_) (a' := ?_) #[true, true, true, true, true, true, true, true, true, true, false, false] rfl rfl (take_ofW HT_.out HW_.out (by kernel_rfl)) (fun _ _ _ h => h) (Or.inl ⟨by rfl, ?_⟩) hHeld ?_ ?_
                          rotate_left
                          · rintro w' ⟨s0, s1, s2, s3, s4, s5, s6, s7, s8, s9, s10, s11, s12, s13, s14, s15, s16, s17, s18, s19⟩
                            go_simp
                            with_reducible rfl
                          rotate_left
                          · simp only [Act.put, List.setIfInBounds_toArray, List.set_cons_zero, List.set_cons_succ, i64_w, i32_w]
                            rfl
                          refine one_ (i := 10) (N := some 96) #[true, true, true, true, true, true, true, true, true, true, true, false] rfl rfl (one_of HT_.out (by kernel_rfl)) (by decide) (fun K hK => ?_)
                          refine goes_ Try.func33 (by kernel_rfl) rfl #[.agg #[.int .i64 ((rd_T25 l0_3 x6_2).f0), .int .i64 ((rd_T25 l0_3 x6_2).f1), .string ((rd_T25 l0_3 x6_2).f2), .slice A185_3 ((rd_T25 l0_3 x6_2).f3).length c185_3, .slice A185_4 ((rd_T25 l0_3 x6_2).f4).length c185_4], .agg #[.int .i64 ((rd_T25 l1_3 x6_2).f0), .int .i64 ((rd_T25 l1_3 x6_2).f1), .string ((rd_T25 l1_3 x6_2).f2), .slice A186_3 ((rd_T25 l1_3 x6_2).f3).length c186_3, .slice A186_4 ((rd_T25 l1_3 x6_2).f4).length c186_4]] (by rfl) rfl rfl (by (try simp only [List.map_toArray, List.map_cons, List.map_nil]); first | done | rfl | (simp only [List.length_drop, List.length_take]; rfl)) ?_
                          with_reducible refine (ih kj37 (by have := HJ2.out; have := HK2.out; have := HJ37.out; omega) ((rd_T25 l0_3 x6_2).f0) ((rd_T25 l0_3 x6_2).f1) ((rd_T25 l0_3 x6_2).f2) _ _ ((rd_T25 l0_3 x6_2).f3) _ _ ((rd_T25 l0_3 x6_2).f4) ((rd_T25 l1_3 x6_2).f0) ((rd_T25 l1_3 x6_2).f1) ((rd_T25 l1_3 x6_2).f2) _ _ ((rd_T25 l1_3 x6_2).f3) _ _ ((rd_T25 l1_3 x6_2).f4) t187 _ ?side1 ?side2 ?side3 ?side4 ?side5 ?side6 ?side7 ?side8 A71.out).mono ?_
                          (case side1 => repeat (first | exact (Kd.C_below HR185_3.out HB.out) | (with_reducible refine Kd.C_alloc ?_ _) | (with_reducible refine Kd.C_drewN ?_ _) | (with_reducible refine Kd.C_drew ?_)))
                          (case side2 => exact HC185_3.out)
                          (case side3 => repeat (first | exact (Kd.C_below HR185_4.out HB.out) | (with_reducible refine Kd.C_alloc ?_ _) | (with_reducible refine Kd.C_drewN ?_ _) | (with_reducible refine Kd.C_drew ?_)))
                          (case side4 => exact HC185_4.out)
                          (case side5 => repeat (first | exact (Kd.C_below HR186_3.out HB.out) | (with_reducible refine Kd.C_alloc ?_ _) | (with_reducible refine Kd.C_drewN ?_ _) | (with_reducible refine Kd.C_drew ?_)))
                          (case side6 => exact HC186_3.out)
                          (case side7 => repeat (first | exact (Kd.C_below HR186_4.out HB.out) | (with_reducible refine Kd.C_alloc ?_ _) | (with_reducible refine Kd.C_drewN ?_ _) | (with_reducible refine Kd.C_drew ?_)))
                          (case side8 => exact HC186_4.out)
                          rintro e w75 ⟨rfl, hb⟩
                          refine ⟨_, rfl, ?_⟩
                          have n0_ := Aside0.mk (blk_below (g := gb176) (o := .cells #[.int .i64 a0_0, .int .i64 a0_1, .string a0_2, .slice (some ad185) l0_3.length c0_3, .slice A0_4 l0_4.length c0_4] 25 (0, 0)) (by (with_reducible repeat (first | refine blk_drewN ?_ _ | refine blk_drew ?_ | refine blk_alloc ?_ _)); exact BK176.out) hb)
                          have n1_ := Aside0.mk (blk_below (g := gb177) (o := .cells #[.int .i64 a1_0, .int .i64 a1_1, .string a1_2, .slice (some ad186) l1_3.length c1_3, .slice A1_4 l1_4.length c1_4] 25 (0, 0)) (by (with_reducible repeat (first | refine blk_drewN ?_ _ | refine blk_drew ?_ | refine blk_alloc ?_ _)); exact BK177.out) hb)
                          have n2_ := Aside0.mk (below_step (by repeat (first | (with_reducible first | exact HB.out | apply below_alloc | apply pw_below_drewN | apply below_drew1 | refine below_set ?_ GE176.out | refine below_set ?_ GE177.out) | exact HB.out)) hb)
                          clear BK176
                          clear BK177
                          clear HB
                          have BK176 := n0_
                          have BK177 := n1_
                          have HB := n2_
                          clear n0_ n1_ n2_
                          (try clear hb)
                          (try clear hb2)
                          (try clear hk)
                          (try clear hi)
                          refine hK.out _ _ ⟨(blk_cell BK176.out 0).trans rfl, (blk_cell BK176.out 1).trans rfl, (blk_cell BK176.out 2).trans rfl, (blk_cell BK176.out 3).trans rfl, (blk_cell BK176.out 4).trans rfl, (blk_cell BK177.out 0).trans rfl, (blk_cell BK177.out 1).trans rfl, (blk_cell BK177.out 2).trans rfl, (blk_cell BK177.out 3).trans rfl, (blk_cell BK177.out 4).trans rfl, ((HB.out.cell (World.block_lt_of_cell? w _ hw185_0)).trans hw185_0), ((HB.out.cell (World.block_lt_of_cell? w _ hw185_1)).trans hw185_1), ((HB.out.cell (World.block_lt_of_cell? w _ hw185_2)).trans hw185_2), ((HB.out.cell (World.block_lt_of_cell? w _ hw185_3)).trans hw185_3), ((HB.out.cell (World.block_lt_of_cell? w _ hw185_4)).trans hw185_4), ((HB.out.cell (World.block_lt_of_cell? w _ hw186_0)).trans hw186_0), ((HB.out.cell (World.block_lt_of_cell? w _ hw186_1)).trans hw186_1), ((HB.out.cell (World.block_lt_of_cell? w _ hw186_2)).trans hw186_2), ((HB.out.cell (World.block_lt_of_cell? w _ hw186_3)).trans hw186_3), ((HB.out.cell (World.block_lt_of_cell? w _ hw186_4)).trans hw186_4)⟩ (fun hHeld => ?_)
                          clear hK K
                          refine norm_ (a' := ?_) ?_ ?_
                          rotate_left
                          · show Act.put _ (some 96) _ = _
                            simp only [Act.put, List.setIfInBounds_toArray, List.set_cons_zero, List.set_cons_succ, i64_w, i32_w]
                            rfl
                          refine pure_ (i := 11) (N := some 5) (v := ?_) (a' := ?_) #[true, true, true, true, true, true, true, true, true, true, true, true] rfl rfl (any_of HT_.out (by kernel_rfl)) (fun _ _ _ h => h) (Or.inl ⟨by rfl, ?_⟩) ?_ ?_
                          rotate_left
                          · intro w'
                            go_simp
                            with_reducible rfl
                          rotate_left
                          · simp only [Act.put, List.setIfInBounds_toArray, List.set_cons_zero, List.set_cons_succ, i64_w, i32_w]
                            rfl
                          refine done_ (done_of HT_.out (by kernel_rfl)) ?_
                          try go_wp2
                          go_roundg kj37
                          case measure => have := HJ2.out; have := HK2.out; have := HJ37.out; omega
                          case rel => exact ⟨(t187), (wrap64 (x6_2 + 1)), (by first | rfl | (simp; done) | (simp [*]; done)), (by first | rfl | (simp; done) | (simp [*]; done)), H', ⟨by have := HJ2.out; have := HK2.out; have := HJ37.out; omega⟩, ⟨by (with_reducible repeat (first | refine blk_drewN ?_ _ | refine blk_drew ?_ | refine blk_alloc ?_ _)); exact BK176.out⟩, ⟨by (with_reducible repeat (first | refine blk_drewN ?_ _ | refine blk_drew ?_ | refine blk_alloc ?_ _)); exact BK177.out⟩, ⟨by repeat (first | (with_reducible first | exact HB.out | apply below_alloc | apply pw_below_drewN | apply below_drew1 | refine below_set ?_ GE176.out | refine below_set ?_ GE177.out) | exact HB.out)⟩⟩
                        · rw [if_neg c70] at H
                          exact absurd H (by simp)
                      · rw [if_neg c69] at H
                        exact absurd H (by simp)
                    · rw [if_neg c68] at H
                      exact absurd H (by simp)
                  · rw [if_neg c67] at H
                    have c67b0 : (x5_2 == 0) = false := beq_eq_false_iff_ne.mpr c67
                    have c67b1 : (x5_2 != 0) = true := bne_iff_ne.mpr c67
                    have H' := Aside0.mk H
                    clear H
                    have hnb76 := NB176_177.out
                    have hnc76 := NB177_176.out
                    have hcz77_0 : wc.cell? ⟨gb176, 0, none⟩ = some (.int .i64 a0_0) := (blk_cell BK176.out 0).trans rfl
                    have hcz77_1 : wc.cell? ⟨gb176, 1, none⟩ = some (.int .i64 a0_1) := (blk_cell BK176.out 1).trans rfl
                    have hcz77_2 : wc.cell? ⟨gb176, 2, none⟩ = some (.string a0_2) := (blk_cell BK176.out 2).trans rfl
                    have hcz77_3 : wc.cell? ⟨gb176, 3, none⟩ = some (.slice A0_3 l0_3.length c0_3) := (blk_cell BK176.out 3).trans rfl
                    have hcz77_4 : wc.cell? ⟨gb176, 4, none⟩ = some (.slice A0_4 l0_4.length c0_4) := (blk_cell BK176.out 4).trans rfl
                    have hfz77_0 := blk_frozen BK176.out 0
                    have hfz77_1 := blk_frozen BK176.out 1
                    have hfz77_2 := blk_frozen BK176.out 2
                    have hfz77_3 := blk_frozen BK176.out 3
                    have hfz77_4 := blk_frozen BK176.out 4
                    go_wp2
                    go_roundg kj37
                    case measure => have := HJ2.out; have := HK2.out; have := HJ37.out; omega
                    case rel => exact ⟨(x5_2), (wrap64 (x6_2 + 1)), (by first | rfl | (simp; done) | (simp [*]; done)), (by first | rfl | (simp; done) | (simp [*]; done)), H', ⟨by have := HJ2.out; have := HK2.out; have := HJ37.out; omega⟩, ⟨by (with_reducible repeat (first | refine blk_drewN ?_ _ | refine blk_drew ?_ | refine blk_alloc ?_ _)); exact BK176.out⟩, ⟨by (with_reducible repeat (first | refine blk_drewN ?_ _ | refine blk_drew ?_ | refine blk_alloc ?_ _)); exact BK177.out⟩, ⟨by repeat (first | (with_reducible first | exact HB.out | apply below_alloc | apply pw_below_drewN | apply below_drew1 | refine below_set ?_ GE176.out | refine below_set ?_ GE177.out) | exact HB.out)⟩⟩
              · replace c49 := Bool.eq_false_iff.mpr c49
                subst c49
                have H1 : (if x5_2 = 0 then (scrupleref03_order.j4 kj37 x5_2 (decide ((l0_3.length : Int) < (l1_3.length : Int))) a0_0 a0_1 a0_2 l0_3 l0_4 a1_0 a1_1 a1_2 l1_3 l1_4) else (scrupleref03_order.j4 kj37 x5_2 false a0_0 a0_1 a0_2 l0_3 l0_4 a1_0 a1_1 a1_2 l1_3 l1_4)) = some r := by rw [if_neg (show ¬ (false = true) by decide)] at H; exact H
                clear H
                have H := H1
                clear H1
                have HC78 := Aside0.mk H
                clear H
                go_upto_region 13 with (fail)
                go_cut [107] (fun v107 wc => ∃ (kq : Nat) (x107_77 : Bool), v107 = .bool x107_77 ∧ Aside0 (scrupleref03_order.j4 kq x5_2 x107_77 a0_0 a0_1 a0_2 l0_3 l0_4 a1_0 a1_1 a1_2 l1_3 l1_4 = some r) ∧ Aside0 (kq ≤ kj37) ∧ Aside0 (wc.heap[gb176]? = some (.cells #[.int .i64 a0_0, .int .i64 a0_1, .string a0_2, (.slice A0_3 l0_3.length c0_3), (.slice A0_4 l0_4.length c0_4)] 25 (0, 0))) ∧ Aside0 (wc.heap[gb177]? = some (.cells #[.int .i64 a1_0, .int .i64 a1_1, .string a1_2, (.slice A1_3 l1_3.length c1_3), (.slice A1_4 l1_4.length c1_4)] 25 (0, 0))) ∧ Aside0 (Below w.heap.size w wc))
                case first =>
                  have H := HC78.out
                  clear HC78
                  by_cases c79 : x5_2 = 0
                  · rw [if_pos c79] at H
                    have c79b0 : (x5_2 == 0) = true := beq_iff_eq.mpr c79
                    have c79b1 : (x5_2 != 0) = false := bne_eq_false_iff_eq.mpr c79
                    clear c79
                    (first | rw [c79b0] | (simp only [i64_w, i32_w]; rw [c79b0]) | skip)
                    have H' := Aside0.mk H
                    clear H
                    have hnb80 := NB176_177.out
                    have hnc80 := NB177_176.out
                    have hcz81_0 : wc.cell? ⟨gb176, 0, none⟩ = some (.int .i64 a0_0) := (blk_cell BK176.out 0).trans rfl
                    have hcz81_1 : wc.cell? ⟨gb176, 1, none⟩ = some (.int .i64 a0_1) := (blk_cell BK176.out 1).trans rfl
                    have hcz81_2 : wc.cell? ⟨gb176, 2, none⟩ = some (.string a0_2) := (blk_cell BK176.out 2).trans rfl
                    have hcz81_3 : wc.cell? ⟨gb176, 3, none⟩ = some (.slice A0_3 l0_3.length c0_3) := (blk_cell BK176.out 3).trans rfl
                    have hcz81_4 : wc.cell? ⟨gb176, 4, none⟩ = some (.slice A0_4 l0_4.length c0_4) := (blk_cell BK176.out 4).trans rfl
                    have hfz81_0 := blk_frozen BK176.out 0
                    have hfz81_1 := blk_frozen BK176.out 1
                    have hfz81_2 := blk_frozen BK176.out 2
                    have hfz81_3 := blk_frozen BK176.out 3
                    have hfz81_4 := blk_frozen BK176.out 4
                    have hcz82_0 : wc.cell? ⟨gb177, 0, none⟩ = some (.int .i64 a1_0) := (blk_cell BK177.out 0).trans rfl
                    have hcz82_1 : wc.cell? ⟨gb177, 1, none⟩ = some (.int .i64 a1_1) := (blk_cell BK177.out 1).trans rfl
                    have hcz82_2 : wc.cell? ⟨gb177, 2, none⟩ = some (.string a1_2) := (blk_cell BK177.out 2).trans rfl
                    have hcz82_3 : wc.cell? ⟨gb177, 3, none⟩ = some (.slice A1_3 l1_3.length c1_3) := (blk_cell BK177.out 3).trans rfl
                    have hcz82_4 : wc.cell? ⟨gb177, 4, none⟩ = some (.slice A1_4 l1_4.length c1_4) := (blk_cell BK177.out 4).trans rfl
                    have hfz82_0 := blk_frozen BK177.out 0
                    have hfz82_1 := blk_frozen BK177.out 1
                    have hfz82_2 := blk_frozen BK177.out 2
                    have hfz82_3 := blk_frozen BK177.out 3
                    have hfz82_4 := blk_frozen BK177.out 4
                    go_wp2
                    go_meet
                    case rel => exact ⟨_, (decide ((l0_3.length : Int) < (l1_3.length : Int))), (by first | rfl | (simp; done) | (simp [*]; done)), H', ⟨by have := HJ2.out; have := HK2.out; have := HJ37.out; first | omega | exact Nat.le_refl _⟩, ⟨by (with_reducible repeat (first | refine blk_drewN ?_ _ | refine blk_drew ?_ | refine blk_alloc ?_ _)); exact BK176.out⟩, ⟨by (with_reducible repeat (first | refine blk_drewN ?_ _ | refine blk_drew ?_ | refine blk_alloc ?_ _)); exact BK177.out⟩, ⟨by repeat (first | (with_reducible first | exact HB.out | apply below_alloc | apply pw_below_drewN | apply below_drew1 | refine below_set ?_ GE176.out | refine below_set ?_ GE177.out) | exact HB.out)⟩⟩
                  · rw [if_neg c79] at H
                    have c79b0 : (x5_2 == 0) = false := beq_eq_false_iff_ne.mpr c79
                    have c79b1 : (x5_2 != 0) = true := bne_iff_ne.mpr c79
                    (first | rw [c79b0] | (simp only [i64_w, i32_w]; rw [c79b0]) | skip)
                    have H' := Aside0.mk H
                    clear H
                    go_wp2
                    go_meet
                    case rel => exact ⟨_, (false), (by first | rfl | (simp; done) | (simp [*]; done)), H', ⟨by have := HJ2.out; have := HK2.out; have := HJ37.out; first | omega | exact Nat.le_refl _⟩, ⟨by (with_reducible repeat (first | refine blk_drewN ?_ _ | refine blk_drew ?_ | refine blk_alloc ?_ _)); exact BK176.out⟩, ⟨by (with_reducible repeat (first | refine blk_drewN ?_ _ | refine blk_drew ?_ | refine blk_alloc ?_ _)); exact BK177.out⟩, ⟨by repeat (first | (with_reducible first | exact HB.out | apply below_alloc | apply pw_below_drewN | apply below_drew1 | refine below_set ?_ GE176.out | refine below_set ?_ GE177.out) | exact HB.out)⟩⟩
                case rest =>
                  clear HC78
                  try clear c1
                  try clear p1
                  try clear q1
                  try clear hx1
                  try clear p2
                  try clear c3
                  try clear c4
                  try clear c5
                  try clear c6
                  try clear p6
                  try clear c7
                  try clear c8
                  try clear p17
                  try clear q17
                  try clear hx17
                  try clear c18
                  try clear p18
                  try clear q18
                  try clear hx18
                  try clear c33
                  try clear c49
                  try clear c50
                  try clear c50b0
                  try clear c50b1
                  try clear c51
                  try clear c52
                  try clear c53
                  try clear c55
                  try clear c55b0
                  try clear c55b1
                  try clear c56
                  try clear c57
                  try clear c58
                  try clear c64
                  try clear p64
                  try clear c67
                  try clear c67b0
                  try clear c67b1
                  try clear c68
                  try clear c68b0
                  try clear c69
                  try clear c69b0
                  try clear c70
                  try clear c70b0
                  try clear c72
                  try clear c76
                  try clear c79
                  try clear c79b0
                  try clear c79b1
                  try clear c80
                  try clear hcz65_0
                  try clear hcz65_1
                  try clear hcz65_2
                  try clear hcz65_3
                  try clear hcz65_4
                  try clear hcz73_0
                  try clear hcz73_1
                  try clear hcz73_2
                  try clear hcz73_3
                  try clear hcz73_4
                  try clear hcz77_0
                  try clear hcz77_1
                  try clear hcz77_2
                  try clear hcz77_3
                  try clear hcz77_4
                  try clear hcz81_0
                  try clear hcz81_1
                  try clear hcz81_2
                  try clear hcz81_3
                  try clear hcz81_4
                  try clear hcz82_0
                  try clear hcz82_1
                  try clear hcz82_2
                  try clear hcz82_3
                  try clear hcz82_4
                  try clear hfz65_0
                  try clear hfz65_1
                  try clear hfz65_2
                  try clear hfz65_3
                  try clear hfz65_4
                  try clear hfz73_0
                  try clear hfz73_1
                  try clear hfz73_2
                  try clear hfz73_3
                  try clear hfz73_4
                  try clear hfz77_0
                  try clear hfz77_1
                  try clear hfz77_2
                  try clear hfz77_3
                  try clear hfz77_4
                  try clear hfz81_0
                  try clear hfz81_1
                  try clear hfz81_2
                  try clear hfz81_3
                  try clear hfz81_4
                  try clear hfz82_0
                  try clear hfz82_1
                  try clear hfz82_2
                  try clear hfz82_3
                  try clear hfz82_4
                  try clear hx179_0
                  try clear hx180_0
                  try clear hx182_0
                  try clear hx182_1
                  try clear hx182_2
                  try clear hx182_3
                  try clear hx182_4
                  try clear hx183_0
                  try clear hx183_1
                  try clear hx183_2
                  try clear hx183_3
                  try clear hx183_4
                  try clear hx185_0
                  try clear hx185_1
                  try clear hx185_2
                  try clear hx185_3
                  try clear hx185_4
                  try clear hx186_0
                  try clear hx186_1
                  try clear hx186_2
                  try clear hx186_3
                  try clear hx186_4
                  try clear p179
                  try clear p180
                  try clear p183
                  try clear p185
                  try clear p186
                  try clear q179
                  try clear q180
                  try clear q183
                  try clear q185
                  try clear q186
                  obtain ⟨kq, x107_77, rfl, HA, HJ77, BK176, BK177, HB⟩ := hcut
                  cases kq with
                  | zero => exact absurd HA.out (by simp [scrupleref03_order.j4])
                  | succ kj77 =>
                    have H := HA.out
                    clear HA
                    simp only [scrupleref03_order.j4] at H
                    by_cases c83 : x107_77 = true
                    · subst c83
                      have H1 : (some (-1)) = some r := by rw [if_pos rfl] at H; exact H
                      clear H
                      have H := H1
                      clear H1
                      obtain rfl := Option.some.inj H
                      simp only [Option.some.injEq, Prod.mk.injEq] at H
                      obtain ⟨rfl⟩ := H
                      go_wp2
                      go_ret
                      exact ⟨by first | rfl | (simp [errW_none, errW_some] <;> rfl) | (simp [*, errW_none, errW_some] <;> rfl), by repeat (first | (with_reducible first | exact HB.out | apply below_alloc | apply pw_below_drewN | apply below_drew1 | refine below_set ?_ GE176.out | refine below_set ?_ GE177.out) | exact HB.out)⟩
                    · replace c83 := Bool.eq_false_iff.mpr c83
                      subst c83
                      have H1 : (if x5_2 = 0 then (if (l0_3.length : Int) > (l1_3.length : Int) then (some 1) else (some x5_2)) else (some x5_2)) = some r := by rw [if_neg (show ¬ (false = true) by decide)] at H; exact H
                      clear H
                      have H := H1
                      clear H1
                      by_cases c84 : x5_2 = 0
                      · rw [if_pos c84] at H
                        have c84b0 : (x5_2 == 0) = true := beq_iff_eq.mpr c84
                        have c84b1 : (x5_2 != 0) = false := bne_eq_false_iff_eq.mpr c84
                        clear c84
                        by_cases c85 : (l0_3.length : Int) > (l1_3.length : Int)
                        · rw [if_pos c85] at H
                          have c85b0 : decide ((l1_3.length : Int) < (l0_3.length : Int)) = true := decide_eq_true c85
                          have c85b1 : decide (l1_3.length < l0_3.length) = true := decide_eq_true (Int.ofNat_lt.mp c85)
                          clear c85
                          obtain rfl := Option.some.inj H
                          simp only [Option.some.injEq, Prod.mk.injEq] at H
                          obtain ⟨rfl⟩ := H
                          have hnb86 := NB176_177.out
                          have hnc86 := NB177_176.out
                          have hcz87_0 : wc.cell? ⟨gb176, 0, none⟩ = some (.int .i64 a0_0) := (blk_cell BK176.out 0).trans rfl
                          have hcz87_1 : wc.cell? ⟨gb176, 1, none⟩ = some (.int .i64 a0_1) := (blk_cell BK176.out 1).trans rfl
                          have hcz87_2 : wc.cell? ⟨gb176, 2, none⟩ = some (.string a0_2) := (blk_cell BK176.out 2).trans rfl
                          have hcz87_3 : wc.cell? ⟨gb176, 3, none⟩ = some (.slice A0_3 l0_3.length c0_3) := (blk_cell BK176.out 3).trans rfl
                          have hcz87_4 : wc.cell? ⟨gb176, 4, none⟩ = some (.slice A0_4 l0_4.length c0_4) := (blk_cell BK176.out 4).trans rfl
                          have hfz87_0 := blk_frozen BK176.out 0
                          have hfz87_1 := blk_frozen BK176.out 1
                          have hfz87_2 := blk_frozen BK176.out 2
                          have hfz87_3 := blk_frozen BK176.out 3
                          have hfz87_4 := blk_frozen BK176.out 4
                          have hcz88_0 : wc.cell? ⟨gb177, 0, none⟩ = some (.int .i64 a1_0) := (blk_cell BK177.out 0).trans rfl
                          have hcz88_1 : wc.cell? ⟨gb177, 1, none⟩ = some (.int .i64 a1_1) := (blk_cell BK177.out 1).trans rfl
                          have hcz88_2 : wc.cell? ⟨gb177, 2, none⟩ = some (.string a1_2) := (blk_cell BK177.out 2).trans rfl
                          have hcz88_3 : wc.cell? ⟨gb177, 3, none⟩ = some (.slice A1_3 l1_3.length c1_3) := (blk_cell BK177.out 3).trans rfl
                          have hcz88_4 : wc.cell? ⟨gb177, 4, none⟩ = some (.slice A1_4 l1_4.length c1_4) := (blk_cell BK177.out 4).trans rfl
                          have hfz88_0 := blk_frozen BK177.out 0
                          have hfz88_1 := blk_frozen BK177.out 1
                          have hfz88_2 := blk_frozen BK177.out 2
                          have hfz88_3 := blk_frozen BK177.out 3
                          have hfz88_4 := blk_frozen BK177.out 4
                          go_wp2
                          go_ret
                          exact ⟨by first | rfl | (simp [errW_none, errW_some] <;> rfl) | (simp [*, errW_none, errW_some] <;> rfl), by repeat (first | (with_reducible first | exact HB.out | apply below_alloc | apply pw_below_drewN | apply below_drew1 | refine below_set ?_ GE176.out | refine below_set ?_ GE177.out) | exact HB.out)⟩
                        · rw [if_neg c85] at H
                          have c85b0 : decide ((l1_3.length : Int) < (l0_3.length : Int)) = false := decide_eq_false c85
                          have c85b1 : decide (l1_3.length < l0_3.length) = false := decide_eq_false (fun h => c85 (Int.ofNat_lt.mpr h))
                          clear c85
                          obtain rfl := Option.some.inj H
                          simp only [Option.some.injEq, Prod.mk.injEq] at H
                          obtain ⟨rfl⟩ := H
                          have hnb89 := NB176_177.out
                          have hnc89 := NB177_176.out
                          have hcz90_0 : wc.cell? ⟨gb176, 0, none⟩ = some (.int .i64 a0_0) := (blk_cell BK176.out 0).trans rfl
                          have hcz90_1 : wc.cell? ⟨gb176, 1, none⟩ = some (.int .i64 a0_1) := (blk_cell BK176.out 1).trans rfl
                          have hcz90_2 : wc.cell? ⟨gb176, 2, none⟩ = some (.string a0_2) := (blk_cell BK176.out 2).trans rfl
                          have hcz90_3 : wc.cell? ⟨gb176, 3, none⟩ = some (.slice A0_3 l0_3.length c0_3) := (blk_cell BK176.out 3).trans rfl
                          have hcz90_4 : wc.cell? ⟨gb176, 4, none⟩ = some (.slice A0_4 l0_4.length c0_4) := (blk_cell BK176.out 4).trans rfl
                          have hfz90_0 := blk_frozen BK176.out 0
                          have hfz90_1 := blk_frozen BK176.out 1
                          have hfz90_2 := blk_frozen BK176.out 2
                          have hfz90_3 := blk_frozen BK176.out 3
                          have hfz90_4 := blk_frozen BK176.out 4
                          have hcz91_0 : wc.cell? ⟨gb177, 0, none⟩ = some (.int .i64 a1_0) := (blk_cell BK177.out 0).trans rfl
                          have hcz91_1 : wc.cell? ⟨gb177, 1, none⟩ = some (.int .i64 a1_1) := (blk_cell BK177.out 1).trans rfl
                          have hcz91_2 : wc.cell? ⟨gb177, 2, none⟩ = some (.string a1_2) := (blk_cell BK177.out 2).trans rfl
                          have hcz91_3 : wc.cell? ⟨gb177, 3, none⟩ = some (.slice A1_3 l1_3.length c1_3) := (blk_cell BK177.out 3).trans rfl
                          have hcz91_4 : wc.cell? ⟨gb177, 4, none⟩ = some (.slice A1_4 l1_4.length c1_4) := (blk_cell BK177.out 4).trans rfl
                          have hfz91_0 := blk_frozen BK177.out 0
                          have hfz91_1 := blk_frozen BK177.out 1
                          have hfz91_2 := blk_frozen BK177.out 2
                          have hfz91_3 := blk_frozen BK177.out 3
                          have hfz91_4 := blk_frozen BK177.out 4
                          go_wp2
                          go_ret
                          exact ⟨by first | rfl | (simp [errW_none, errW_some] <;> rfl) | (simp [*, errW_none, errW_some] <;> rfl), by repeat (first | (with_reducible first | exact HB.out | apply below_alloc | apply pw_below_drewN | apply below_drew1 | refine below_set ?_ GE176.out | refine below_set ?_ GE177.out) | exact HB.out)⟩
                      · rw [if_neg c84] at H
                        have c84b0 : (x5_2 == 0) = false := beq_eq_false_iff_ne.mpr c84
                        have c84b1 : (x5_2 != 0) = true := bne_iff_ne.mpr c84
                        obtain rfl := Option.some.inj H
                        simp only [Option.some.injEq, Prod.mk.injEq] at H
                        obtain ⟨rfl⟩ := H
                        go_wp2
                        go_ret
                        exact ⟨by first | rfl | (simp [errW_none, errW_some] <;> rfl) | (simp [*, errW_none, errW_some] <;> rfl), by repeat (first | (with_reducible first | exact HB.out | apply below_alloc | apply pw_below_drewN | apply below_drew1 | refine below_set ?_ GE176.out | refine below_set ?_ GE177.out) | exact HB.out)⟩

end Go.Proofs.Ythjeakmndoknpaa.X
