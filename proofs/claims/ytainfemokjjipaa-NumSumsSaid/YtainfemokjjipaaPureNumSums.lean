/- Sum of any list of numbers answers as the document's sum does: the sum and true, or 0 and false where one is negative or all together pass the greatest number. No condition beyond the row's own. -/
import Derived.Test.YtainfemokjjipaaPNumSumsx1
import Derived.Test.YtainfemokjjipaaWSized
namespace Go.Proofs.Ytainfemokjjipaa.Pure
open Go.RowKit Go.Proofs.Ytainfemokjjipaa.PNumSums Go.Proofs.YtainfemokjjipaaW.PrintWords Go.Proofs.YtainfemokjjipaaW.PrintLast

theorem rd_wf (l : List Int) (h : ∀ x ∈ l, (Lit.int .i64 x).wf = true) (i : Int) (h0 : 0 ≤ i) (h1 : i < l.length) : -9223372036854775808 ≤ rd l i ∧ rd l i ≤ 9223372036854775807 := by
  have hm : rd l i ∈ l := by
    unfold rd
    rw [List.getD_eq_getElem?_getD, List.getElem?_eq_getElem (by omega)]
    exact List.getElem_mem _
  have := h _ hm
  simp [Lit.wf, IntKind.min, IntKind.max, IntKind.signed, IntKind.bits] at this
  omega

theorem sums_same (l : List Int) (hl : l.length * 8 ≤ 140737488351232) (h : ∀ x ∈ l, (Lit.int .i64 x).wf = true) (d : Nat) :
    ∀ (k : Nat) (s i : Int), 0 ≤ s → s ≤ 9223372036854775807 → 0 ≤ i → i ≤ l.length → (l.length : Int) - i = d → d < k →
      ∃ r, num_Sum.l0 k s l (l.length : Int) i = some r ∧ scrupleref01_Sum.l0 k l 9223372036854775807 s i = some r := by
  induction d with
  | zero =>
    intro k s i hs0 hs1 h0 h1 hd hk
    obtain ⟨k, rfl⟩ : ∃ m, k = m + 1 := ⟨k - 1, by omega⟩
    refine ⟨(s, true), ?_, ?_⟩
    · simp only [num_Sum.l0]; rw [if_neg (by omega)]
    · simp only [scrupleref01_Sum.l0]; rw [if_neg (by omega)]
  | succ d ih =>
    intro k s i hs0 hs1 h0 h1 hd hk
    obtain ⟨k, rfl⟩ : ∃ m, k = m + 1 := ⟨k - 1, by omega⟩
    have hlt : i < (l.length : Int) := by omega
    obtain ⟨b0, b1⟩ := rd_wf l h i h0 hlt
    have ew : wrap64 (i + 1) = i + 1 := by unfold wrap64; omega
    have em : wrap64 (9223372036854775807 - s) = 9223372036854775807 - s := by unfold wrap64; omega
    by_cases c1 : rd l i < 0
    · refine ⟨(0, false), ?_, ?_⟩
      · simp only [num_Sum.l0]; rw [if_pos hlt, if_pos h0, if_pos hlt, if_pos c1]
      · simp only [scrupleref01_Sum.l0]; rw [if_pos hlt, if_pos h0, if_pos c1]
    · by_cases c2 : s + rd l i > 9223372036854775807
      · have c3 : wrap64 (s + rd l i) < s := by unfold wrap64; omega
        refine ⟨(0, false), ?_, ?_⟩
        · simp only [num_Sum.l0]; rw [if_pos hlt, if_pos h0, if_pos hlt, if_neg c1, if_pos c3]
        · simp only [scrupleref01_Sum.l0]; rw [if_pos hlt, if_pos h0, if_neg c1, em, if_pos (by omega)]
      · have c3 : wrap64 (s + rd l i) = s + rd l i := by unfold wrap64; omega
        obtain ⟨r, hr1, hr2⟩ := ih k (s + rd l i) (i + 1) (by omega) (by omega) (by omega) (by omega) (by omega) (by omega)
        refine ⟨r, ?_, ?_⟩
        · simp only [num_Sum.l0]; rw [if_pos hlt, if_pos h0, if_pos hlt, if_neg c1, c3, if_neg (by omega), ew]; exact hr1
        · simp only [scrupleref01_Sum.l0]; rw [if_pos hlt, if_pos h0, if_neg c1, em, if_neg (by omega), c3, ew]; exact hr2

theorem one_two (k : Nat) : num_Sum.f (k + 3) [1, 2] = some (3, true) := by
  have e0 : rd [1, 2] 0 = 1 := rfl
  have e1 : rd [1, 2] 1 = 2 := rfl
  have w0 : wrap64 (0 + 1) = 1 := by unfold wrap64; omega
  have w1 : wrap64 (1 + 1) = 2 := by unfold wrap64; omega
  have w2 : wrap64 (1 + 2) = 3 := by unfold wrap64; omega
  have hl : (([1, 2] : List Int).length : Int) = 2 := rfl
  unfold num_Sum.f
  rw [hl]
  simp only [num_Sum.l0, e0, w0]
  rw [if_pos (by omega), if_pos (by omega), if_pos (by rw [hl]; omega), if_neg (by omega), if_neg (by omega)]
  rw [if_pos (by omega), if_pos (by omega), if_pos (by rw [hl]; omega), e1, if_neg (by omega), w2, if_neg (by omega), w1, if_neg (by omega)]

theorem NumSums : scruplelaw01_NumSums.Pure := by
  intro l hm hl h
  obtain ⟨r, h1, h2⟩ := sums_same l hl h l.length (l.length + 3) 0 0 (by omega) (by omega) (by omega) (by omega) (by omega) (by omega)
  refine ⟨l.length + 3, ?_⟩
  have a1 : num_Sum.f (l.length + 3) l = some r := h1
  have a2 : scrupleref01_Sum.f (l.length + 3) l = some r := h2
  unfold scruplelaw01_NumSums.f
  rw [one_two, a1, a2]
  simp

end Go.Proofs.Ytainfemokjjipaa.Pure

/- The printed row names this lemma without its seat's namespace: laid here under the name by which the row looks for it. -/
namespace Go.Proofs.Ytainfemokjjipaa.PrintWords
open Go.ChangeShapes Go.WideShapes
theorem sized_ints {H : Type} {enc : TypeId × Value → H} {P : Program} {W : World} {base : Nat} {spare : Nat → Bool} {held : Bool} {t e : TypeId} {k : IntKind} {a : Option Addr} {len cap : Nat} {d : DataW H} {ps : List MemPlace} {ts : List TypeId} {ds : List (DataW H)} {j : Nat}
    (hsz : (DataW.weightsEach P ts ds).all (· ≤ reachBytes) = true) (ht : ts[j]? = some t) (hd : ds[j]? = some d) (hu : P.underlying t = some (.slice e)) (he : P.underlying e = some (.int k)) (hc : P.cellsOf e = 1) {B : Nat} (hB : P.bytesOf e = B)
    (h : DataW.Trod enc P W base spare held t (.slice a len cap) d ps) : len * B ≤ 140737488351232 :=
  Go.Proofs.YtainfemokjjipaaW.PrintWords.sized_ints hsz ht hd hu he hc hB h
end Go.Proofs.Ytainfemokjjipaa.PrintWords
