/- Right, Weight and Depth of every value answer as the document's. -/
import Derived.Test.YthjeakmndoknpaaXxscruplelaw03ValueIs
import Derived.Test.YthjeakmndoknpaaValMeasure
set_option linter.unusedSimpArgs false
namespace Go.Proofs.Ythjeakmndoknpaa.X
open Go.RowKit Go.Proofs.YthjeakmndoknpaaW.PrintWords Go.Proofs.YthjeakmndoknpaaW.PrintLast Go.Proofs.YthjeakmndoknpaaW.PrintMore Go.Proofs.YthjeakmndoknpaaW

/-- The program's Right, Weight and Depth, and the document's. -/
theorem is_eq (x : S25) (hx : Val x) :
    ∃ (b : Bool) (W d : Int), Ev (fun k => value_Right.f k x.f0 x.f1 x.f2 x.f3 x.f4) b ∧ Ev (fun k => value_Weight.f k x.f0 x.f1 x.f2 x.f3 x.f4) W ∧ Ev (fun k => value_Depth.f k x.f0 x.f1 x.f2 x.f3 x.f4) d ∧
      Ev (fun k => scrupleref03_Right.f k x.f0 x.f1 x.f2 x.f3 x.f4) b ∧ Ev (fun k => scrupleref03_Weight.f k x.f0 x.f1 x.f2 x.f3 x.f4) W ∧ Ev (fun k => scrupleref03_Depth.f k x.f0 x.f1 x.f2 x.f3 x.f4) d ∧ (b = true → 0 < W ∧ W ≤ 2048 ∧ 0 < d ∧ d ≤ 8 ∧ Frm x) ∧ (b = false → W = 0 ∧ d = 0) := by
  rcases good x hx 0 0 0 (by omega) (by omega) (by omega) (by omega) (by omega) (by omega) with ⟨D', W', d, m, r, q, hD, hd, hD8, hW0, hW1, hF⟩ | ⟨D', W', m, r⟩
  · have eD : D' = d := by rw [hD, mx_eq, if_pos (by omega)]; omega
    have hm : Ev (fun k => value_measure.f k x.f0 x.f1 x.f2 x.f3 x.f4) (W', D') := Ev.bind m (by simpa using Ev.const)
    have hW : Ev (fun k => value_Weight.f k x.f0 x.f1 x.f2 x.f3 x.f4) W' := Ev.bind hm Ev.const
    have hrR : Ev (fun k => scrupleref03_Right.f k x.f0 x.f1 x.f2 x.f3 x.f4) true := Ev.bind r (by rw [decide_eq_true hW1]; exact Ev.const)
    refine ⟨true, W', d, Ev.bind hW ?_, hW, ?_, hrR, Ev.bind r ?_, Ev.bind hrR ?_, fun _ => ⟨by omega, hW1, by omega, by omega, hF⟩, (fun h => by cases h)⟩
    · rw [decide_eq_true (by omega)]; exact Ev.const
    · rw [← eD]; exact Ev.bind hm Ev.const
    · rw [if_neg (by omega)]; exact Ev.const
    · simp only [if_true]; exact Ev.bind q Ev.const
  · have hm : Ev (fun k => value_measure.f k x.f0 x.f1 x.f2 x.f3 x.f4) (0, 0) := Ev.bind m (by simpa using Ev.const)
    have hW : Ev (fun k => value_Weight.f k x.f0 x.f1 x.f2 x.f3 x.f4) 0 := Ev.bind hm Ev.const
    have hrR : Ev (fun k => scrupleref03_Right.f k x.f0 x.f1 x.f2 x.f3 x.f4) false := Ev.bind r (by rw [decide_eq_false (by omega)]; exact Ev.const)
    refine ⟨false, 0, 0, Ev.bind hW ?_, hW, Ev.bind hm Ev.const, hrR, Ev.bind r ?_, Ev.bind hrR ?_, (fun h => by cases h), fun _ => ⟨rfl, rfl⟩⟩
    · rw [decide_eq_false (by omega)]; exact Ev.const
    · rw [if_pos (by omega)]; exact Ev.const
    · simp only [Bool.false_eq_true, if_false]; exact Ev.const

theorem shown_ev : Ev (fun k => scruplelaw03_shown.f k) true := by
  have h : ∀ n, scruplelaw03_shown.f (n + 8) = some true := by
    intro n
    induction n with
    | zero => decide +kernel
    | succ n ih => exact scruplelaw03_shown.mono (n + 8) _ ih
  exact ⟨8, fun k hk => by obtain ⟨n, rfl⟩ : ∃ n, k = n + 8 := ⟨k - 8, by omega⟩; exact h n⟩
end Go.Proofs.Ythjeakmndoknpaa.X
namespace Go.Proofs.Ythjeakmndoknpaa.Pure
open Go.Proofs.Ythjeakmndoknpaa.X
theorem ValueIs (x : S25) (hx : Val x) : ∃ k, scruplelaw03_ValueIs.f k x.f0 x.f1 x.f2 x.f3 x.f4 = some true := by
  obtain ⟨b, W, d, h1, h2, h3, h4, h5, h6, _⟩ := is_eq x hx
  have h : Ev (fun k => scruplelaw03_ValueIs.f k x.f0 x.f1 x.f2 x.f3 x.f4) true := by
    unfold scruplelaw03_ValueIs.f
    refine Ev.bind shown_ev (Ev.bind h1 (Ev.bind h2 (Ev.bind h3 ?_)))
    simp only [if_true]
    refine Ev.bind h4 ?_
    simp only [BEq.rfl, if_true]
    refine Ev.bind h5 ?_
    simp only [if_true]
    refine Ev.bind h6 ?_
    simp only [BEq.rfl]
    exact Ev.const
  obtain ⟨K, hK⟩ := h
  exact ⟨K, hK K (Nat.le_refl K)⟩
end Go.Proofs.Ythjeakmndoknpaa.Pure
