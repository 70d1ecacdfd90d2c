/- Every IsName answers as the document's: both loops tell, of what stands behind a place, the same; the bounds are asked ahead in the one, at the end in the other. -/
import Derived.Test.YtmehfnikecmiiaaPModuleNamesx1
namespace Go.Proofs.Ytmehfnikecmiiaa.Pure
set_option linter.unusedSimpArgs false
open Go.RowKit Go.Proofs.Ytmehfnikecmiiaa.PModuleNames Go.Proofs.YtmehfnikecmiiaaW.PrintWords Go.Proofs.YtmehfnikecmiiaaW.PrintLast

def sign (c : Int) : Bool := decide (Go.bits .or .u8 c 32 ≥ 97) && decide (Go.bits .or .u8 c 32 ≤ 122) || decide (c = 95)

theorem letter_fin : ∀ n : Fin 256, scrupleref09_letter.f ((n.val : Nat) : Int) = some (sign ((n.val : Nat) : Int)) := by decide +kernel

theorem letter_eq (c : Int) (h0 : 0 ≤ c) (h1 : c ≤ 255) : scrupleref09_letter.f c = some (sign c) := by
  have h := letter_fin ⟨c.toNat, by omega⟩
  have e : ((c.toNat : Nat) : Int) = c := by omega
  simpa [e] using h

theorem both (x : ByteArray) (hx : x.size ≤ 140737488351232) : ∀ (d i : Nat), i + d = x.size → ∀ k, d < k →
    ∃ r : Bool, scrupleref09_IsName.l0 k x (i : Int) = some r
      ∧ module_IsName.l0 k x (x.size : Int) (i : Int) = some (r && !decide (x.toList = []) && decide ((x.size : Int) ≤ 20)) := by
  intro d
  induction d with
  | zero =>
    intro i hi k hk
    obtain ⟨k, rfl⟩ : ∃ j, k = j + 1 := ⟨k - 1, by omega⟩
    refine ⟨true, ?_, ?_⟩
    · rw [scrupleref09_IsName.l0, if_neg (by omega)]
    · rw [module_IsName.l0, if_neg (by omega)]
      by_cases h : x.toList = ([] : List UInt8)
      · simp [h]
      · simp [h]
  | succ d ih =>
    intro i hi k hk
    obtain ⟨k, rfl⟩ : ∃ j, k = j + 1 := ⟨k - 1, by omega⟩
    obtain ⟨r, hr, hm⟩ := ih (i + 1) (by omega) k (by omega)
    have ew : wrap64 ((i : Int) + 1) = ((i + 1 : Nat) : Int) := by unfold wrap64; omega
    obtain ⟨c0, c1⟩ := bt_range x (i : Int)
    rw [scrupleref09_IsName.l0, module_IsName.l0, letter_eq _ c0 c1, ew, hr, hm]
    simp only [Option.bind_some, show (i : Int) < (x.size : Int) from by omega, show (0 : Int) ≤ (i : Int) from by omega, if_true]
    generalize bt x (i : Int) = c at *
    unfold sign
    by_cases a : Go.bits .or .u8 c 32 ≥ 97
    · by_cases b : Go.bits .or .u8 c 32 ≤ 122
      · exact ⟨r, by simp [a, b], by simp [a, b]⟩
      · by_cases e : c = 95
        · exact ⟨r, by simp [a, b, e], by simp [a, b, e]⟩
        · by_cases f : (i : Int) = 0
          · exact ⟨false, by simp [a, b, e, f], by simp [a, b, e, f]⟩
          · by_cases g : c < 48
            · exact ⟨false, by simp [a, b, e, f, g], by simp [a, b, e, f, g]⟩
            · by_cases h : c > 57
              · exact ⟨false, by simp [a, b, e, f, g, h], by simp [a, b, e, f, g, h]⟩
              · exact ⟨r, by simp [a, b, e, g, h]; omega, by simp [a, b, e, g, h]; omega⟩
    · by_cases e : c = 95
      · exact ⟨r, by simp [a, e], by simp [a, e]⟩
      · by_cases f : (i : Int) = 0
        · exact ⟨false, by simp [a, e, f], by simp [a, e, f]⟩
        · by_cases g : c < 48
          · exact ⟨false, by simp [a, e, f, g], by simp [a, e, f, g]⟩
          · by_cases h : c > 57
            · exact ⟨false, by simp [a, e, f, g, h], by simp [a, e, f, g, h]⟩
            · exact ⟨r, by simp [a, e, g, h]; omega, by simp [a, e, g, h]; omega⟩

theorem ModuleNames : scruplelaw09_ModuleNames.Pure := by
  intro x hx
  refine ⟨x.size + 100, ?_⟩
  obtain ⟨r, hr, hm⟩ := both x hx x.size 0 (by omega) (x.size + 99) (by omega)
  obtain ⟨r', hr', hm'⟩ := both x hx x.size 0 (by omega) (x.size + 100) (by omega)
  have er : r' = r := by
    have h := (scrupleref09_IsName.mono_l (x.size + 99)).2 x 0
    rw [show (((0 : Nat) : Int)) = 0 from rfl] at hr hr'
    rw [hr, hr'] at h
    have := h _ rfl
    injection this
  subst er
  have head : module_IsName.f (x.size + 100) (⟨#[97, 49]⟩ : ByteArray) = some true := by
    have all : ∀ n, module_IsName.f (n + 5) (⟨#[97, 49]⟩ : ByteArray) = some true := by
      intro n
      induction n with
      | zero => decide +kernel
      | succ n h => exact (module_IsName.mono _ (n + 5)) _ h
    exact all (x.size + 95)
  unfold scruplelaw09_ModuleNames.f
  rw [head]
  simp only [Option.bind_some]
  unfold module_IsName.f scrupleref09_IsName.f
  rw [show (((0 : Nat) : Int)) = 0 from rfl] at hm' hr
  rw [hm']
  simp only [Option.bind_some, if_true]
  by_cases e : x.toList = ([] : List UInt8)
  · rw [if_pos e]; simp [scrupleref09_IsName.j0, e]
  · rw [if_neg e]
    rw [show x.size + 100 = (x.size + 99) + 1 from by omega, scrupleref09_IsName.j0, hr]
    by_cases g : (x.size : Int) > 20
    · simp [g, e]
    · simp [g, e]; omega
end Go.Proofs.Ytmehfnikecmiiaa.Pure
