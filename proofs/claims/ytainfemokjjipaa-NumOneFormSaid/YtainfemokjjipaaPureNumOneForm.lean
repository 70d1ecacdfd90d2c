/- What is read as a number is written as the same bytes. -/
import Derived.Test.YtainfemokjjipaaXxscruplelaw01NumOneForm
import Derived.Test.YtainfemokjjipaaNumLaw
namespace Go.Proofs.Ytainfemokjjipaa.Pure
open Go.RowKit Go.Proofs.Ytainfemokjjipaa.X Go.Proofs.Ytainfemokjjipaa.Pl Go.Proofs.YtainfemokjjipaaW.PrintWords

theorem NumOneForm : scruplelaw01_NumOneForm.Pure := by
  intro l a hm hl hw ha
  have hb := Bytes.of hw
  have ha := lit_i64 ha
  refine ⟨100, ?_⟩
  unfold scruplelaw01_NumOneForm.f
  rw [shown_eq _ (by omega), Option.bind_some, Uint_eq _ (by omega) l hb (by omega), Option.bind_some]
  by_cases he : (uintAt l a).2.2 = 0
  · obtain ⟨h0, h1, h2, h3, h4⟩ := uintAt_ok l hb a he
    have hr := uintAt_range l hb a
    rw [if_pos he, Int_eq _ (by omega) l hb (by omega), Option.bind_some, if_pos rfl, if_pos h0, if_pos h1, if_pos h3, w64 _ (by omega) (by omega), if_pos (by omega), PutUint_eq _ _ _ (by omega) hr.1 hr.2 (by simp), Option.bind_some, if_pos h0, if_pos (by omega)]
    have e : (l.take ((uintAt l a).2.1 : Int).toNat).drop (a : Int).toNat = putU (uintAt l a).1 := by
      rw [List.drop_take, ← h4]
      congr 1
      omega
    rw [e, List.nil_append, if_pos rfl]
    have ez := unzz_range _ hr.1 hr.2
    have i1 : (intAt l a).1 = unzz (uintAt l a).1 := by unfold intAt; rfl
    have i2 : (intAt l a).2.1 = (uintAt l a).2.1 := by unfold intAt; rfl
    have i3 : (intAt l a).2.2 = (uintAt l a).2.2 := by unfold intAt; rfl
    rw [i3, if_pos he, i2, if_pos rfl, i1, PutInt_eq _ _ _ (by omega) ez.1 ez.2 (by simp), Option.bind_some, zz_unzz _ hr.1, List.nil_append]
    simp
  · obtain ⟨h1, h2⟩ := uintAt_err l a he
    rw [if_neg he, if_pos rfl, h1, h2, if_pos rfl]
    rfl
end Go.Proofs.Ytainfemokjjipaa.Pure
