/- PutUint, PutInt and PutText lay the document's bytes behind what is handed in. Where arguments together are of bulk at most 1048576 (the second form's bound). -/
import Derived.Test.YtainfemokjjipaaXxscruplelaw01NumPuts
import Derived.Test.YtainfemokjjipaaNumLaw
import Derived.Test.YtainfemokjjipaaNumRef
namespace Go.Proofs.Ytainfemokjjipaa.Pure
open Go.RowKit Go.Proofs.Ytainfemokjjipaa.X Go.Proofs.Ytainfemokjjipaa.Pl Go.Proofs.YtainfemokjjipaaW.PrintWords

theorem puts_l0 (l : List Int) (n : Int) (s : ByteArray) (h0 : 0 ≤ n) (h1 : n < 18446744073709551616) (hl : l.length + s.size ≤ 1048576) (d : Nat) : ∀ (k : Nat) (x : List Int) (i : Nat), d + l.length + 40 < k → i + d = x.length → x.length ≤ l.length + 10 →
    scruplelaw01_NumPuts.l0 k l n s true (l ++ List.replicate 8 77) (l ++ putU n) (l ++ putU (zz (wrap64 n))) (l ++ putU (s.size : Int) ++ bytesOf s) x i = some true := by
  have hwr : -9223372036854775808 ≤ wrap64 n ∧ wrap64 n ≤ 9223372036854775807 := by rw [w64m]; omega
  induction d with
  | zero =>
    intro k x i hk hi hx
    obtain ⟨k, rfl⟩ : ∃ j, k = j + 1 := ⟨k - 1, by omega⟩
    unfold scruplelaw01_NumPuts.l0
    rw [if_neg (by omega), if_pos (by simp only [List.length_cons, List.length_nil]; omega), still_eq _ l (by omega) (by omega)]
    simp only [Option.bind_some, if_true]
    rw [rPutUint_eq _ l n (by omega) h0 h1 (by omega)]
    simp only [Option.bind_some, if_true]
    rw [rPutInt_eq _ l _ (by omega) hwr.1 hwr.2 (by omega)]
    simp only [Option.bind_some, if_true]
    rw [rPutText_eq _ l s (by omega) (by omega)]
    simp
  | succ d ih =>
    intro k x i hk hi hx
    obtain ⟨k, rfl⟩ : ∃ j, k = j + 1 := ⟨k - 1, by omega⟩
    unfold scruplelaw01_NumPuts.l0
    rw [if_pos (by omega), if_pos (by omega), w64 ((i : Int) + 1) (by omega) (by omega)]
    have := ih k (x.set ((i : Int)).toNat 9) (i + 1) (by omega) (by simp; omega) (by simp; omega)
    simpa using this

theorem NumPutsUp : scruplelaw01_NumPuts.PureUp := by
  intro l n s hm hl hw hn hs small
  have hn := lit_u64 hn
  have hwr : -9223372036854775808 ≤ wrap64 n ∧ wrap64 n ≤ 9223372036854775807 := by rw [w64m]; omega
  have p1 := putU_len n
  obtain ⟨K, hK⟩ : ∃ K : Nat, 2 * l.length + 100 ≤ K := ⟨_, Nat.le_refl _⟩
  refine ⟨K, ?_⟩
  unfold scruplelaw01_NumPuts.f
  rw [shown_eq _ (by omega), Option.bind_some, lent_eq _ l (by omega) (by omega), Option.bind_some]
  rw [if_pos (by omega), if_pos (by simp only [List.length_append]; omega), show (l ++ List.replicate 8 (77 : Int)).take ((l.length : Int) : Int).toNat = l by simp, Option.bind_some]
  rw [PutUint_eq _ l n (by omega) hn.1 hn.2 (by omega), Option.bind_some, PutInt_eq _ l _ (by omega) hwr.1 hwr.2 (by omega), Option.bind_some, PutText_eq _ l s (by omega) (by omega), Option.bind_some, Option.bind_some]
  have z := puts_l0 l n s hn.1 hn.2 small (l ++ putU n).length K (l ++ putU n) 0 (by simp only [List.length_append]; omega) (by omega) (by simp only [List.length_append]; omega)
  rw [Int.natCast_zero] at z
  exact z
end Go.Proofs.Ytainfemokjjipaa.Pure
