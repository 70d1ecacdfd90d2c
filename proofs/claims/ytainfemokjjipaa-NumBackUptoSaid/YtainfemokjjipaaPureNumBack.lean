/- What PutUint, PutInt and PutText lay behind bytes is read from there, whatever stands behind. Where arguments together are of bulk at most 1048576 (the second form's bound). -/
import Derived.Test.YtainfemokjjipaaXxscruplelaw01NumBack
import Derived.Test.YtainfemokjjipaaNumLaw
namespace Go.Proofs.Ytainfemokjjipaa.Pure
open Go.RowKit Go.Proofs.Ytainfemokjjipaa.X Go.Proofs.Ytainfemokjjipaa.Pl Go.Proofs.YtainfemokjjipaaW.PrintWords

/-- A number read where it was laid. -/
theorem at_laid (l rest : List Int) (n : Int) (h0 : 0 ≤ n) (h1 : n < 18446744073709551616) : uintAt (l ++ putU n ++ rest) l.length = (n, ((l.length + (putU n).length : Nat) : Int), 0) := by
  unfold uintAt
  rw [if_neg (by simp; omega), Int.toNat_natCast, List.append_assoc, List.drop_left, putU_read n rest h0 h1]
  simp [fin]

theorem NumBackUp : scruplelaw01_NumBack.PureUp := by
  intro l n s rest hm hl hw hn hs hm3 hl3 hw3 small
  have hb := Bytes.of hw
  have hb3 := Bytes.of hw3
  have hn := lit_u64 hn
  have hwr : -9223372036854775808 ≤ wrap64 n ∧ wrap64 n ≤ 9223372036854775807 := by rw [w64m]; omega
  have hz := zz_range (wrap64 n) hwr.1 hwr.2
  have p1 := putU_len n
  have p2 := putU_len (zz (wrap64 n))
  have p3 := putU_len (s.size : Int)
  have ba : ∀ x : Int, 0 ≤ x → ∀ t : List Int, Bytes t → Bytes (l ++ putU x ++ t) := fun x hx t ht => (hb.append (putU_bytes x hx)).append ht
  · refine ⟨100, ?_⟩
    unfold scruplelaw01_NumBack.f
    rw [shown_eq _ (by omega), PutUint_eq _ l n (by omega) hn.1 hn.2 (by omega), PutInt_eq _ l _ (by omega) hwr.1 hwr.2 (by omega), PutText_eq _ l s (by omega) (by omega)]
    simp only [Option.bind_some]
    rw [if_pos (by simp only [List.length_append]; omega), Uint_eq _ (by omega) _ (ba n hn.1 rest hb3) (by simp only [List.length_append]; omega), at_laid l rest n hn.1 hn.2]
    simp only [Option.bind_some]
    rw [if_pos (by simp only [List.length_append]; omega), Int_eq _ (by omega) _ (ba _ hz.1 rest hb3) (by simp only [List.length_append]; omega)]
    simp only [Option.bind_some]
    unfold intAt
    rw [at_laid l rest _ hz.1 hz.2, unzz_zz]
    have bt := ba (s.size : Int) (by omega) (bytesOf s ++ rest) ((bytes_of s).append hb3)
    rw [← List.append_assoc] at bt
    rw [if_pos (by simp only [List.length_append, bytesOf_len]; omega), Text_eq _ (by omega) _ bt (by simp only [List.length_append, bytesOf_len]; omega) _ _ (by omega) (by omega)]
    simp only [Option.bind_some]
    have ht : textAt (l ++ putU (s.size : Int) ++ bytesOf s ++ rest) l.length s.size = (s, ((l.length + (putU (s.size : Int)).length + s.size : Nat) : Int), 0) := by
      unfold textAt
      have hu := at_laid l (bytesOf s ++ rest) (s.size : Int) (by omega) (by omega)
      rw [← List.append_assoc] at hu
      rw [hu]
      simp only [if_true]
      rw [if_neg (by omega), if_neg (by simp only [List.length_append, bytesOf_len]; omega)]
      refine Prod.ext ?_ (Prod.ext (by simp) rfl)
      show strOfNums _ = s
      rw [show (((l.length + (putU (s.size : Int)).length : Nat) : Int) + (s.size : Int)).toNat = (l ++ putU (s.size : Int) ++ bytesOf s).length by simp only [List.length_append, bytesOf_len]; omega, List.take_left,
        show (((l.length + (putU (s.size : Int)).length : Nat) : Int)).toNat = (l ++ putU (s.size : Int)).length by simp only [List.length_append]; omega, List.drop_left, str_bytesOf]
    rw [ht]
    simp [bytesOf_len]
    omega
end Go.Proofs.Ytainfemokjjipaa.Pure
