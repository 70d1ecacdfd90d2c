/- What the document's functions of layer 1 (scrupleref01) come to, in the plain words of NumSpec: the same as the program's. -/
import Derived.Test.YtainfemokjjipaaNumFns
import Derived.Test.YtainfemokjjipaaXxscrupleref010
import Derived.Test.YtainfemokjjipaaXxscrupleref011
namespace Go.Proofs.Ytainfemokjjipaa.Pl
open Go.RowKit Go.Proofs.Ytainfemokjjipaa.X Go.Proofs.YtainfemokjjipaaW.PrintWords Go.Proofs.YtainfemokjjipaaW.PrintLast Go.Proofs.YtainfemokjjipaaW.PrintMore

theorem rputuint_l0 (d : Nat) : ∀ (k : Nat) (x : Int) (xs : List Int), d + 1 ≤ k → 0 ≤ x → x < 128 ^ (d + 1) → x < 18446744073709551616 → xs.length + d < 140737488355328 → scrupleref01_PutUint.l0 k x xs = some (xs ++ puts (d + 1) x) := by
  induction d with
  | zero =>
    intro k x xs hk h0 h1 h2 hl
    obtain ⟨k, rfl⟩ : ∃ m, k = m + 1 := ⟨k - 1, by omega⟩
    have : x < 128 := by simpa using h1
    simp only [scrupleref01_PutUint.l0, puts]
    rw [if_neg (by omega), if_pos (by omega), if_neg (by omega), show x % 256 = x by omega]
  | succ d ih =>
    intro k x xs hk h0 h1 h2 hl
    obtain ⟨k, rfl⟩ : ∃ m, k = m + 1 := ⟨k - 1, by omega⟩
    simp only [scrupleref01_PutUint.l0]
    conv => rhs; unfold puts
    by_cases c : x ≥ 128
    · rw [if_pos c, if_pos (by omega), if_pos c, Int.tdiv_eq_ediv_of_nonneg h0, Int.tmod_eq_emod_of_nonneg h0, u64w (x / 128) (by omega) (by omega), u64w (x % 128 + 128) (by omega) (by omega), ih k (x / 128) _ (by omega) (by omega) (by rw [pow_s] at h1; omega) (by omega) (by simp; omega), show (x % 128 + 128) % 256 = x % 128 + 128 by omega]
      simp
    · rw [if_neg c, if_pos (by omega), if_neg c, show x % 256 = x by omega]
theorem rPutUint_eq (k : Nat) (l : List Int) (n : Int) (hk : 10 ≤ k) (h0 : 0 ≤ n) (h1 : n < 18446744073709551616) (hl : l.length + 10 ≤ 140737488355328) : scrupleref01_PutUint.f k l n = some (l ++ putU n) := by
  unfold scrupleref01_PutUint.f
  rw [if_pos (by simp; omega), List.nil_append]
  exact rputuint_l0 9 k n l (by omega) h0 (by rw [pow10]; omega) h1 (by omega)
theorem rPutInt_eq (k : Nat) (l : List Int) (n : Int) (hk : 10 ≤ k) (h0 : -9223372036854775808 ≤ n) (h1 : n ≤ 9223372036854775807) (hl : l.length + 10 ≤ 140737488355328) : scrupleref01_PutInt.f k l n = some (l ++ putU (zz n)) := by
  have hz := zz_range n h0 h1
  unfold scrupleref01_PutInt.f
  by_cases c : n < 0
  · rw [if_pos c]
    have e : IntKind.u64.wrap ((IntKind.u64.wrap ((IntKind.u64.wrap (wrap64 (-(wrap64 (n + 1))))) * 2)) + 1) = zz n := by
      rw [w64 (n + 1) (by omega) (by omega), w64 (-(n + 1)) (by omega) (by omega), u64w (-(n + 1)) (by omega) (by omega), u64w (-(n + 1) * 2) (by omega) (by omega), u64w _ (by omega) (by omega)]
      unfold zz; rw [if_pos c]; omega
    rw [e, rPutUint_eq k l _ hk hz.1 hz.2 hl]; rfl
  · rw [if_neg c]
    have e : IntKind.u64.wrap ((IntKind.u64.wrap (n)) * 2) = zz n := by
      rw [u64w n (by omega) (by omega), u64w _ (by omega) (by omega)]
      unfold zz; rw [if_neg c]; omega
    rw [e, rPutUint_eq k l _ hk hz.1 hz.2 hl]; rfl
theorem rPutText_eq (k : Nat) (l : List Int) (s : ByteArray) (hk : 10 ≤ k) (hl : l.length + 10 + s.size < 140737488355328) : scrupleref01_PutText.f k l s = some (l ++ putU s.size ++ bytesOf s) := by
  have hp := putU_len (s.size : Int)
  unfold scrupleref01_PutText.f
  rw [u64w _ (by omega) (by omega), rPutUint_eq k l _ hk (by omega) (by omega) (by omega)]
  simp only [Option.bind_some]
  rw [if_pos (by simp only [List.length_append]; omega)]

theorem ruint_l0 (l : List Int) (hb : Bytes l) (a : Int) (ha0 : 0 ≤ a) (ha1 : a ≤ l.length) (hl : l.length ≤ 9223372036854775000) (d : Nat) : ∀ (k i : Nat) (n p : Int), i + d = 10 → 2 * d < k → 0 ≤ n → n < 128 ^ i → (i < 10 → p = 128 ^ i) → a + i ≤ l.length →
    scrupleref01_Uint.l0 k l a n p i = some (fin a (rdU d i (l.drop (a.toNat + i)) n)) := by
  induction d with
  | zero =>
    intro k i n p hi hk h0 h1 hp hai
    obtain ⟨k, rfl⟩ : ∃ m, k = m + 1 := ⟨k - 1, by omega⟩
    simp only [scrupleref01_Uint.l0]
    rw [if_neg (by omega)]
    rfl
  | succ d ih =>
    intro k i n p hi hk h0 h1 hp hai
    obtain ⟨k, rfl⟩ : ∃ m, k = m + 2 := ⟨k - 2, by omega⟩
    have hi9 : i ≤ 9 := by omega
    obtain rfl := hp (by omega)
    have ew : wrap64 ((l.length : Int) - a) = l.length - a := w64 _ (by omega) (by omega)
    by_cases he : a + i = l.length
    · simp only [scrupleref01_Uint.l0]
      rw [if_pos (by omega), ew, if_pos (by omega), List.drop_eq_nil_of_le (by omega)]
      rfl
    · have hlt : a.toNat + i < l.length := by omega
      have hc := hb l[a.toNat + i] (List.getElem_mem _)
      rw [List.drop_eq_getElem_cons hlt]
      generalize hcc : l[a.toNat + i] = c at hc ⊢
      have ea : wrap64 (a + (i : Int)) = ((a.toNat + i : Nat) : Int) := by rw [w64 _ (by omega) (by omega)]; omega
      have hr : rd l ((a.toNat + i : Nat) : Int) = c := by rw [rd_get l _ hlt, hcc]
      have J : ∀ b : Bool, b = decide ((d = 0 ∧ c > 1) ∨ (0 < i ∧ c = 0)) → scrupleref01_Uint.j2 (k + 1) l a n (128 ^ i) i c b = some (fin a (rdU (d + 1) i (c :: l.drop (a.toNat + i + 1)) n)) := by
        intro b hbt
        simp only [scrupleref01_Uint.j2, rdU]
        by_cases hbad : (d = 0 ∧ c > 1) ∨ (0 < i ∧ c = 0)
        · rw [if_pos (by rw [hbt]; simpa using hbad), if_pos hbad]; rfl
        · rw [if_neg (by rw [hbt]; simpa using hbad), if_neg hbad]
          have hlt2 : n + c % 128 * 128 ^ i < 18446744073709551616 ∧ n + c % 128 * 128 ^ i < 128 ^ (i + 1) := by
            have hm : c % 128 * 128 ^ i ≤ 127 * 128 ^ i := Int.mul_le_mul_of_nonneg_right (by omega) (Int.le_of_lt (pow_pos' i))
            refine ⟨?_, by rw [pow_s]; omega⟩
            by_cases e : i = 9
            · subst e
              have : ¬ (d = 0 ∧ c > 1) := fun z => hbad (.inl z)
              rw [pow9] at *
              omega
            · have hle : (128 : Int) ^ i ≤ 128 ^ 8 := by exact_mod_cast Nat.pow_le_pow_right (by decide) (show i ≤ 8 by omega)
              have e8 : (128 : Int) ^ 8 = 72057594037927936 := by decide
              omega
          have hn : 0 ≤ c % 128 * 128 ^ i := Int.mul_nonneg (by omega) (Int.le_of_lt (pow_pos' i))
          rw [Int.tmod_eq_emod_of_nonneg hc.1, u64w (c % 128 * 128 ^ i) hn (by omega), u64w _ (by omega) hlt2.1]
          by_cases h128 : c < 128
          · rw [if_pos h128, if_pos h128, show c % 128 = c by omega, ea, w64 _ (by omega) (by omega)]
            simp only [fin, if_true]
            rw [show (((a.toNat + i : Nat) : Int) + 1) = a + (↑i + 1) by omega]
          · rw [if_neg h128, if_neg h128]
            rw [show c % 128 = c - 128 by omega] at hlt2 hn ⊢
            rw [w64 ((i : Int) + 1) (by omega) (by omega)]
            exact ih k (i + 1) (n + (c - 128) * 128 ^ i) _ (by omega) (by omega) (by omega) hlt2.2 (fun hi2 => by
              have hle : (128 : Int) ^ i ≤ 128 ^ 8 := by exact_mod_cast Nat.pow_le_pow_right (by decide) (show i ≤ 8 by omega)
              have e8 : (128 : Int) ^ 8 = 72057594037927936 := by decide
              have := pow_pos' i
              rw [u64w _ (by omega) (by omega), pow_s, Int.mul_comm]) (by omega)
      have eq0 : (c == 0) = decide (c = 0) := by by_cases z : c = 0 <;> simp [z]
      simp only [scrupleref01_Uint.l0]
      rw [if_pos (by omega), ew, if_neg (by omega), ea, if_pos (by omega), if_pos (by omega), hr, u64w c hc.1 (by omega)]
      by_cases h9 : (i : Int) = 9
      · have hd : d = 0 := by omega
        rw [if_pos h9]
        by_cases h1' : c > 1
        · rw [if_pos h1']; exact J _ (by simp [hd, h1'])
        · rw [if_neg h1', if_pos (by omega)]
          refine J _ ?_
          rw [eq0]
          have : 0 < i := by omega
          simp [h1', this]
      · have hd : d ≠ 0 := by omega
        rw [if_neg h9]
        by_cases hp : (i : Int) > 0
        · rw [if_pos hp]
          refine J _ ?_
          rw [eq0]
          have : 0 < i := by omega
          simp [hd, this]
        · rw [if_neg hp]
          refine J _ ?_
          have : ¬ 0 < i := by omega
          simp [hd, this]
theorem rUint_eq (k : Nat) (hk : 24 ≤ k) (l : List Int) (hb : Bytes l) (hl : l.length ≤ 9223372036854775000) (a : Int) : scrupleref01_Uint.f k l a = some (uintAt l a) := by
  obtain ⟨k, rfl⟩ : ∃ m, k = m + 1 := ⟨k - 1, by omega⟩
  unfold scrupleref01_Uint.f uintAt
  by_cases h0 : a < 0
  · rw [if_pos h0, if_pos (.inl h0)]
    simp [scrupleref01_Uint.j0]
  · rw [if_neg h0]
    simp only [scrupleref01_Uint.j0]
    by_cases h1 : a > l.length
    · rw [if_pos (by simpa using h1), if_pos (.inr h1)]
    · rw [if_neg (by simpa using h1), if_neg (by omega)]
      have := ruint_l0 l hb a (by omega) (by omega) hl 10 k 0 0 1 rfl (by omega) (by omega) (by simp) (by simp) (by omega)
      simpa using this
theorem rInt_eq (k : Nat) (hk : 24 ≤ k) (l : List Int) (hb : Bytes l) (hl : l.length ≤ 9223372036854775000) (a : Int) : scrupleref01_Int.f k l a = some (intAt l a) := by
  have hr := uintAt_range l hb a
  have he := uintAt_err l a
  unfold scrupleref01_Int.f intAt
  rw [rUint_eq k hk l hb hl a]
  simp only [Option.bind_some]
  by_cases h : (uintAt l a).2.2 = 0
  · rw [if_pos h, h, Int.tmod_eq_emod_of_nonneg hr.1, Int.tdiv_eq_ediv_of_nonneg hr.1, u64w ((uintAt l a).1 / 2) (by omega) (by omega), w64 ((uintAt l a).1 / 2) (by omega) (by omega)]
    unfold unzz
    split
    · rw [w64 (-((uintAt l a).1 / 2)) (by omega) (by omega), w64 _ (by omega) (by omega)]
    · rfl
  · rw [if_neg h, (he h).1, (he h).2]
    rfl
theorem rText_eq (k : Nat) (hk : 24 ≤ k) (l : List Int) (hb : Bytes l) (hl : l.length ≤ 9223372036854775000) (a most : Int) (hm0 : -9223372036854775808 ≤ most) (hm1 : most ≤ 9223372036854775807) : scrupleref01_Text.f k l a most = some (textAt l a most) := by
  have e : scrupleref01_Text.f k l a most = num_Text.f k l a most := by
    have j : ∀ k l x y b, scrupleref01_Text.j0 k l x y b = num_Text.j0 k l x y b := by
      intro k l x y b
      cases k <;> rfl
    unfold scrupleref01_Text.f num_Text.f
    rw [rUint_eq k hk l hb hl a, Uint_eq k hk l hb hl a]
    simp only [j]
  rw [e, Text_eq k hk l hb hl a most hm0 hm1]
end Go.Proofs.Ytainfemokjjipaa.Pl
