/- Every Uint, Int and Text, at any place of any bytes, with any bound, answers as the document's; what was lent stays. No condition beyond the row's own. -/
import Derived.Test.YtainfemokjjipaaXxscruplelaw01NumReads
import Derived.Test.YtainfemokjjipaaNumRef
import Derived.Test.YtainfemokjjipaaNumLaw
namespace Go.Proofs.Ytainfemokjjipaa.Pure
open Go.RowKit Go.Proofs.Ytainfemokjjipaa.X Go.Proofs.Ytainfemokjjipaa.Pl

theorem NumReads : scruplelaw01_NumReads.Pure := by
  intro l a m hm hl hw ha hmost
  have hb := Bytes.of hw
  have hl1 : l.length ≤ 140737488351232 := by omega
  have hl2 : l.length ≤ 9223372036854775000 := by omega
  have hmo := lit_i64 hmost
  have et : (l ++ List.replicate 8 (77 : Int)).take ((l.length : Int) : Int).toNat = l := by simp
  refine ⟨l.length + 100, ?_⟩
  unfold scruplelaw01_NumReads.f
  rw [shown_eq _ (by omega), lent_eq _ l (by omega) hl1]
  simp only [Option.bind_some]
  rw [if_pos (by omega), if_pos (by simp; omega), et, Uint_eq _ (by omega) l hb hl2, rUint_eq _ (by omega) l hb hl2, Int_eq _ (by omega) l hb hl2, rInt_eq _ (by omega) l hb hl2, Text_eq _ (by omega) l hb hl2 a m hmo.1 hmo.2, rText_eq _ (by omega) l hb hl2 a m hmo.1 hmo.2, still_eq _ l (by omega) hl1]
  simp
end Go.Proofs.Ytainfemokjjipaa.Pure
