/- The bytes of one number are no beginning of another's. No condition beyond the row's own. -/
import Derived.Test.YtainfemokjjipaaXxscruplelaw01NumApart
import Derived.Test.YtainfemokjjipaaNumLaw
namespace Go.Proofs.Ytainfemokjjipaa.Pure
open Go.RowKit Go.Proofs.Ytainfemokjjipaa.X Go.Proofs.Ytainfemokjjipaa.Pl Go.Proofs.YtainfemokjjipaaW.PrintWords

theorem begins_iff (a b : Int) (ha : 0 ≤ a ∧ a < 18446744073709551616) (hb : 0 ≤ b ∧ b < 18446744073709551616) : (putU b).take (putU a).length = putU a ↔ a = b := by
  constructor
  · intro h
    have e : putU a ++ (putU b).drop (putU a).length = putU b ++ [] := by
      rw [List.append_nil]
      conv => rhs; rw [← List.take_append_drop (putU a).length (putU b), h]
    exact (putU_inj a b _ _ ha.1 ha.2 hb.1 hb.2 e).1
  · rintro rfl
    exact List.take_length

theorem NumApart : scruplelaw01_NumApart.Pure := by
  intro a b wa wb
  have ha := lit_u64 wa
  have hb := lit_u64 wb
  have ta := putU_bytes a ha.1
  have tb := putU_bytes b hb.1
  refine ⟨100, ?_⟩
  unfold scruplelaw01_NumApart.f
  rw [shown_eq _ (by omega), PutUint_eq _ [] a (by omega) ha.1 ha.2 (by simp), PutUint_eq _ [] b (by omega) hb.1 hb.2 (by simp)]
  simp only [Option.bind_some, List.nil_append]
  by_cases hl : ((putU a).length : Int) ≤ ((putU b).length : Int)
  · rw [if_pos hl, if_pos (by omega), if_pos trivial, Int.toNat_natCast]
    congr 1
    rw [beq_iff_eq, Bool.eq_iff_iff, beq_iff_eq, beq_iff_eq, ← begins_iff a b ha hb]
    constructor
    · intro h
      exact str_inj (tb.take _) ta (toList_inj h)
    · intro h
      rw [h]
  · rw [if_neg hl, if_pos trivial]
    congr 1
    have hne : a ≠ b := by rintro rfl; omega
    simp [hne]
end Go.Proofs.Ytainfemokjjipaa.Pure
