/- What the helpers of the laws of layer 1 come to: lent lays eight marks behind the bytes, still finds bytes and marks as they were, shown is true. -/
import Derived.Test.YtainfemokjjipaaNumFns
import Derived.Test.YtainfemokjjipaaXxscruplelaw010
namespace Go.Proofs.Ytainfemokjjipaa.Pl
open Go.RowKit Go.Proofs.Ytainfemokjjipaa.X Go.Proofs.YtainfemokjjipaaW.PrintWords Go.Proofs.YtainfemokjjipaaW.PrintLast Go.Proofs.YtainfemokjjipaaW.PrintMore

theorem shown_eq (k : Nat) (hk : 24 ≤ k) : scruplelaw01_shown.f k = some true := by
  unfold scruplelaw01_shown.f
  rw [Uint_eq k hk [172, 2] (by intro c hc; simp at hc; omega) (by simp) 0]
  rfl
theorem lent_l0 (d : Nat) : ∀ (k : Nat) (x : List Int) (i : Nat), d < k → i + d = x.length → x.length ≤ 9223372036854775000 → scruplelaw01_lent.l0 k x i = some (x.take i ++ List.replicate d 77) := by
  induction d with
  | zero =>
    intro k x i hk hi hl
    obtain ⟨k, rfl⟩ : ∃ m, k = m + 1 := ⟨k - 1, by omega⟩
    simp only [scruplelaw01_lent.l0]
    rw [if_neg (by omega), List.take_of_length_le (by omega)]
    simp
  | succ d ih =>
    intro k x i hk hi hl
    obtain ⟨k, rfl⟩ : ∃ m, k = m + 1 := ⟨k - 1, by omega⟩
    simp only [scruplelaw01_lent.l0]
    rw [if_pos (by omega), if_pos (by omega), Int.toNat_natCast, w64 _ (by omega) (by omega)]
    have := ih k (x.set i 77) (i + 1) (by omega) (by simp; omega) (by simpa using hl)
    rw [show ((i : Int) + 1) = ((i + 1 : Nat) : Int) by omega, this]
    congr 1
    rw [List.take_succ_eq_append_getElem (by simp; omega), List.getElem_set_self, List.take_set_of_le (by omega), List.replicate_succ]
    simp
theorem lent_eq (k : Nat) (l : List Int) (hk : 10 ≤ k) (hl : l.length ≤ 140737488351232) : scruplelaw01_lent.f k l = some (l ++ List.replicate 8 77) := by
  unfold scruplelaw01_lent.f
  have e : wrap64 ((l.length : Int) + 8) = l.length + 8 := w64 _ (by omega) (by omega)
  have e2 : ((l.length : Int) + 8).toNat = l.length + 8 := by omega
  rw [e, e2, if_pos (by omega), if_pos (by omega)]
  simp only [Option.bind_some, List.length_replicate]
  rw [show min l.length (l.length + 8) = l.length by omega, List.take_of_length_le (Nat.le_refl _), List.drop_replicate, show l.length + 8 - l.length = 8 by omega]
  have := lent_l0 8 k (l ++ List.replicate 8 0) l.length (by omega) (by simp) (by simp; omega)
  rw [this]
  simp
theorem still_l0 (l : List Int) (hl : l.length ≤ 140737488351232) (d : Nat) : ∀ (k i : Nat), d < k → i + d = l.length + 8 → scruplelaw01_still.l0 k (l ++ List.replicate 8 77) l i = some true := by
  have hlen : (l ++ List.replicate 8 (77 : Int)).length = l.length + 8 := by simp
  induction d with
  | zero =>
    intro k i hk hi
    obtain ⟨k, rfl⟩ : ∃ m, k = m + 1 := ⟨k - 1, by omega⟩
    simp only [scruplelaw01_still.l0]
    rw [if_neg (by omega)]
  | succ d ih =>
    intro k i hk hi
    obtain ⟨k, rfl⟩ : ∃ m, k = m + 1 := ⟨k - 1, by omega⟩
    have next := ih k (i + 1) (by omega) (by omega)
    simp only [scruplelaw01_still.l0]
    rw [if_pos (by omega), w64 _ (by omega) (by omega)]
    by_cases h : (i : Int) < l.length
    · have e : rd (l ++ List.replicate 8 77) (i : Int) = rd l (i : Int) := by
        unfold rd
        rw [Int.toNat_natCast, List.getD_eq_getElem?_getD, List.getD_eq_getElem?_getD, List.getElem?_append_left (by omega)]
      rw [if_pos h, if_pos (by omega), e, if_pos rfl, if_neg (by omega)]
      exact next
    · have e : rd (l ++ List.replicate 8 77) (i : Int) = 77 := by
        unfold rd
        rw [Int.toNat_natCast, List.getD_eq_getElem?_getD, List.getElem?_append_right (by omega), List.getElem?_replicate, if_pos (by omega)]
        rfl
      rw [if_neg h, if_pos (by omega), if_pos (by omega), e, if_pos rfl]
      exact next
theorem still_eq (k : Nat) (l : List Int) (hk : l.length + 10 ≤ k) (hl : l.length ≤ 140737488351232) : scruplelaw01_still.f k (l ++ List.replicate 8 77) l = some true := by
  unfold scruplelaw01_still.f
  exact still_l0 l hl (l.length + 8) k 0 (by omega) (by omega)
end Go.Proofs.Ytainfemokjjipaa.Pl
