/- What the program's functions of package num come to, in the plain words of NumSpec: for all bytes and numbers that Go's types let in, at lengths that memory allows. -/
import Derived.Test.YtainfemokjjipaaNumSpec
import Derived.Test.YtainfemokjjipaaXxnum0
import Derived.Test.YtainfemokjjipaaXxnum1
namespace Go.Proofs.Ytainfemokjjipaa.Pl
open Go.RowKit Go.Proofs.Ytainfemokjjipaa.X Go.Proofs.YtainfemokjjipaaW.PrintWords Go.Proofs.YtainfemokjjipaaW.PrintLast Go.Proofs.YtainfemokjjipaaW.PrintMore

theorem putuint_l0 (d : Nat) : ∀ (k : Nat) (x : Int) (xs : List Int), d + 1 ≤ k → 0 ≤ x → x < 128 ^ (d + 1) → xs.length + d < 140737488355328 → num_PutUint.l0 k x xs = some (xs ++ puts (d + 1) x) := by
  induction d with
  | zero =>
    intro k x xs hk h0 h1 hl
    obtain ⟨k, rfl⟩ : ∃ m, k = m + 1 := ⟨k - 1, by omega⟩
    have : x < 128 := by simpa using h1
    simp only [num_PutUint.l0, puts]
    rw [if_neg (by omega), if_pos (by omega), if_neg (by omega), show x % 256 = x by omega]
  | succ d ih =>
    intro k x xs hk h0 h1 hl
    obtain ⟨k, rfl⟩ : ∃ m, k = m + 1 := ⟨k - 1, by omega⟩
    simp only [num_PutUint.l0]
    conv => rhs; unfold puts
    by_cases c : x ≥ 128
    · rw [if_pos c, if_pos (by omega), if_pos c, or128 (x % 256) (by omega) (by omega), ih k (x / 128) _ (by omega) (by omega) (by rw [pow_s] at h1; omega) (by simp; omega), show x % 256 % 128 + 128 = x % 128 + 128 by omega]
      simp
    · rw [if_neg c, if_pos (by omega), if_neg c, show x % 256 = x by omega]

theorem fresh_eq (l : List Int) (hl : l.length ≤ 140737488355328) : num_fresh.f l = some l := by
  unfold num_fresh.f
  rw [w64 ((l.length : Int) + 10) (by omega) (by omega), if_pos (by omega), if_pos (by omega), if_pos (by omega)]
  simp

theorem PutUint_eq (k : Nat) (l : List Int) (n : Int) (hk : 10 ≤ k) (h0 : 0 ≤ n) (h1 : n < 18446744073709551616) (hl : l.length + 10 ≤ 140737488355328) : num_PutUint.f k l n = some (l ++ putU n) := by
  unfold num_PutUint.f
  rw [fresh_eq l (by omega)]
  simp only [Option.bind_some]
  exact putuint_l0 9 k n l (by omega) h0 (by rw [pow10]; omega) (by omega)
theorem PutInt_eq (k : Nat) (l : List Int) (n : Int) (hk : 10 ≤ k) (h0 : -9223372036854775808 ≤ n) (h1 : n ≤ 9223372036854775807) (hl : l.length + 10 ≤ 140737488355328) : num_PutInt.f k l n = some (l ++ putU (zz n)) := by
  have e : IntKind.u64.wrap (bits .xor .i64 (wrap64 (n * 2)) (n / 9223372036854775808)) = zz n := by
    unfold zz
    by_cases c : n < 0
    · rw [if_pos c, show n / 9223372036854775808 = -1 by omega, xor1 _ (by rw [w64m]; omega) (by rw [w64m]; omega), u64m, w64m]
      omega
    · rw [if_neg c, show n / 9223372036854775808 = 0 by omega, xor0 _ (by rw [w64m]; omega) (by rw [w64m]; omega), u64m, w64m]
      omega
  have hz := zz_range n h0 h1
  unfold num_PutInt.f
  rw [e, PutUint_eq k l _ hk hz.1 hz.2 hl]
  rfl
theorem PutText_eq (k : Nat) (l : List Int) (s : ByteArray) (hk : 10 ≤ k) (hl : l.length + 10 + s.size < 140737488355328) : num_PutText.f k l s = some (l ++ putU s.size ++ bytesOf s) := by
  have hp := putU_len (s.size : Int)
  unfold num_PutText.f
  rw [u64w _ (by omega) (by omega), PutUint_eq k l _ hk (by omega) (by omega) (by omega)]
  simp only [Option.bind_some]
  rw [if_pos (by simp only [List.length_append]; omega)]

/-- What a read ends in: the place behind it counts from where it began. -/
def fin (a : Int) (r : Int × Int × Int) : Int × Int × Int := (r.1, if r.2.2 = 0 then a + r.2.1 else 0, r.2.2)
def uintAt (l : List Int) (a : Int) : Int × Int × Int := if a < 0 ∨ a > l.length then (0, 0, 10) else fin a (rdU 10 0 (l.drop a.toNat) 0)

theorem rd_get (l : List Int) (i : Nat) (h : i < l.length) : rd l (i : Int) = l[i] := by
  unfold rd
  rw [Int.toNat_natCast, List.getD_eq_getElem?_getD, List.getElem?_eq_getElem h]
  rfl
theorem shl_pow (i : Nat) (x : Int) (hi : i ≤ 9) (h0 : 0 ≤ x) (h1 : x * 128 ^ i < 18446744073709551616) : shl .u64 x (wrap64 (7 * (i : Int))) = x * 128 ^ i := by
  rw [w64 _ (by omega) (by omega)]
  unfold shl
  rw [show min (7 * (i : Int)).toNat IntKind.u64.bits = 7 * i by simp [IntKind.bits]; omega]
  have e : (2 : Int) ^ (7 * i) = 128 ^ i := by rw [Int.pow_mul]; rfl
  rw [e, u64w _ (Int.mul_nonneg h0 (Int.le_of_lt (pow_pos' i))) h1]
/-- One byte more, as the code lays it in. -/
theorem or_byte (i : Nat) (n c : Int) (hi : i ≤ 9) (h0 : 0 ≤ n) (h1 : n < 128 ^ i) (hc0 : 0 ≤ c) (hc1 : c ≤ 255) (h9 : i = 9 → c ≤ 1) :
    bits .or .u64 n (shl .u64 (IntKind.u64.wrap (bits .and .u8 c 127)) (wrap64 (7 * (i : Int)))) = n + c % 128 * 128 ^ i := by
  have hlt : c % 128 * 128 ^ i < 18446744073709551616 := by
    by_cases e : i = 9
    · subst e; rw [pow9]; have := h9 rfl; omega
    · have hle : (128 : Int) ^ i ≤ 128 ^ 8 := by exact_mod_cast Nat.pow_le_pow_right (by decide) (show i ≤ 8 by omega)
      have e8 : (128 : Int) ^ 8 = 72057594037927936 := by decide
      have hm : c % 128 * 128 ^ i ≤ 128 * 128 ^ i := Int.mul_le_mul_of_nonneg_right (by omega) (Int.le_of_lt (pow_pos' i))
      omega
  have e : (2 : Int) ^ (7 * i) = 128 ^ i := by rw [Int.pow_mul]; rfl
  rw [and127 c hc0 (by omega), u64w _ (by omega) (by omega), shl_pow i _ hi (by omega) hlt]
  refine or_low (7 * i) n _ h0 (by rw [e]; exact h1) (Int.mul_nonneg (by omega) (Int.le_of_lt (pow_pos' i))) ?_ (by omega) (by omega)
  rw [e]
  exact Int.mul_emod_left _ _

theorem uint_l0 (l : List Int) (hb : Bytes l) (a : Int) (ha0 : 0 ≤ a) (ha1 : a ≤ 9223372036854775000) (d : Nat) : ∀ (k i : Nat) (n : Int), i + d = 10 → 2 * d < k → 0 ≤ n → n < 128 ^ i → i ≤ l.length →
    num_Uint.l0 k a l n i = some (fin a (rdU d i (l.drop i) n)) := by
  induction d with
  | zero =>
    intro k i n hi hk h0 h1 hl
    obtain ⟨k, rfl⟩ : ∃ m, k = m + 1 := ⟨k - 1, by omega⟩
    simp only [num_Uint.l0]
    rw [if_neg (by omega)]
    rfl
  | succ d ih =>
    intro k i n hi hk h0 h1 hl
    obtain ⟨k, rfl⟩ : ∃ m, k = m + 2 := ⟨k - 2, by omega⟩
    have hi9 : i ≤ 9 := by omega
    by_cases he : i = l.length
    · simp only [num_Uint.l0]
      rw [if_pos (by omega), if_pos (by omega), List.drop_eq_nil_of_le (by omega)]
      rfl
    · have hlt : i < l.length := by omega
      have hc := hb l[i] (List.getElem_mem _)
      rw [List.drop_eq_getElem_cons hlt]
      generalize hcc : l[i] = c at hc ⊢
      have hr : rd l (i : Int) = c := by rw [rd_get l i hlt, hcc]
      -- what is behind the test
      have J : ∀ b : Bool, b = decide ((d = 0 ∧ c > 1) ∨ (0 < i ∧ c = 0)) → num_Uint.j2 (k + 1) a l n i c i b = some (fin a (rdU (d + 1) i (c :: l.drop (i + 1)) n)) := by
        intro b hbt
        simp only [num_Uint.j2, rdU]
        by_cases hbad : (d = 0 ∧ c > 1) ∨ (0 < i ∧ c = 0)
        · rw [if_pos (by rw [hbt]; simpa using hbad), if_pos hbad]; rfl
        · rw [if_neg (by rw [hbt]; simpa using hbad), if_neg hbad, if_pos (by rw [w64 _ (by omega) (by omega)]; omega)]
          have h9 : i = 9 → c ≤ 1 := by
            rintro rfl
            have : ¬ (d = 0 ∧ c > 1) := fun z => hbad (.inl z)
            omega
          rw [or_byte i n c hi9 h0 h1 hc.1 hc.2 h9]
          by_cases h128 : c < 128
          · rw [if_pos h128, if_pos h128, show c % 128 = c by omega]
            simp only [fin, if_true]
            rw [w64 (a + i) (by omega) (by omega), w64 _ (by omega) (by omega)]
            rw [show a + ↑i + 1 = a + (↑i + 1) by omega]
          · rw [if_neg h128, if_neg h128, show c % 128 = c - 128 by omega, w64 _ (by omega) (by omega)]
            have := ih k (i + 1) (n + (c - 128) * 128 ^ i) (by omega) (by omega) (Int.add_nonneg h0 (Int.mul_nonneg (by omega) (Int.le_of_lt (pow_pos' i)))) ?_ (by omega)
            · exact this
            · rw [pow_s]
              have : (c - 128) * 128 ^ i ≤ 127 * 128 ^ i := Int.mul_le_mul_of_nonneg_right (by omega) (Int.le_of_lt (pow_pos' i))
              omega
      have eq0 : (c == 0) = decide (c = 0) := by by_cases z : c = 0 <;> simp [z]
      simp only [num_Uint.l0]
      rw [if_pos (by omega), if_neg (by omega), if_pos (by omega), if_pos (by omega), hr]
      by_cases h9 : (i : Int) = 9
      · have hd : d = 0 := by omega
        rw [if_pos h9]
        by_cases h1' : c > 1
        · rw [if_pos h1']; exact J _ (by simp [hd, h1'])
        · rw [if_neg h1', if_pos (by omega)]
          refine J _ ?_
          rw [eq0]
          have : 0 < i := by omega
          simp [h1', this]
      · have hd : d ≠ 0 := by omega
        rw [if_neg h9]
        by_cases hp : (i : Int) > 0
        · rw [if_pos hp]
          refine J _ ?_
          rw [eq0]
          have : 0 < i := by omega
          simp [hd, this]
        · rw [if_neg hp]
          refine J _ ?_
          have : ¬ 0 < i := by omega
          simp [hd, this]

theorem Uint_eq (k : Nat) (hk : 24 ≤ k) (l : List Int) (hb : Bytes l) (hl : l.length ≤ 9223372036854775000) (a : Int) : num_Uint.f k l a = some (uintAt l a) := by
  obtain ⟨k, rfl⟩ : ∃ m, k = m + 1 := ⟨k - 1, by omega⟩
  unfold num_Uint.f uintAt
  by_cases h0 : a < 0
  · rw [if_pos h0, if_pos (.inl h0)]
    simp [num_Uint.j0]
  · rw [if_neg h0]
    simp only [num_Uint.j0]
    by_cases h1 : a > l.length
    · rw [if_pos (by simpa using h1), if_pos (.inr h1)]
    · rw [if_neg (by simpa using h1), if_pos (by omega), if_pos (by omega), if_neg (by omega)]
      have := uint_l0 (l.drop a.toNat) (hb.drop _) a (by omega) (by omega) 10 k 0 0 rfl (by omega) (by omega) (by simp) (by omega)
      simpa using this

theorem rdU_range (d : Nat) : ∀ (i : Nat) (l : List Int) (n : Int), i + d = 10 → Bytes l → 0 ≤ n → n < 128 ^ i → 0 ≤ (rdU d i l n).1 ∧ (rdU d i l n).1 < 18446744073709551616 := by
  induction d with
  | zero => intro i l n _ _ _ _; simp [rdU]
  | succ d ih =>
    intro i l n hi hl h0 h1
    match l, hl with
    | [], _ => simp [rdU]
    | c :: t, hl =>
      have hc := hl c List.mem_cons_self
      simp only [rdU]
      split
      · simp
      · rename_i hbad
        have hlt : n + c % 128 * 128 ^ i < 18446744073709551616 ∧ n + c % 128 * 128 ^ i < 128 ^ (i + 1) := by
          have hm : c % 128 * 128 ^ i ≤ 127 * 128 ^ i := Int.mul_le_mul_of_nonneg_right (by omega) (Int.le_of_lt (pow_pos' i))
          refine ⟨?_, by rw [pow_s]; omega⟩
          by_cases e : i = 9
          · subst e
            have : ¬ (d = 0 ∧ c > 1) := fun z => hbad (.inl z)
            rw [pow9] at *
            omega
          · have hle : (128 : Int) ^ i ≤ 128 ^ 8 := by exact_mod_cast Nat.pow_le_pow_right (by decide) (show i ≤ 8 by omega)
            have e8 : (128 : Int) ^ 8 = 72057594037927936 := by decide
            omega
        have hn : 0 ≤ c % 128 * 128 ^ i := Int.mul_nonneg (by omega) (Int.le_of_lt (pow_pos' i))
        split
        · rw [show c % 128 = c by omega] at hlt hn
          exact ⟨by show 0 ≤ n + c * 128 ^ i; omega, hlt.1⟩
        · rw [show c % 128 = c - 128 by omega] at hlt hn
          exact ih (i + 1) t _ (by omega) (fun z hz => hl z (List.mem_cons_of_mem _ hz)) (by omega) hlt.2
theorem uintAt_range (l : List Int) (hb : Bytes l) (a : Int) : 0 ≤ (uintAt l a).1 ∧ (uintAt l a).1 < 18446744073709551616 := by
  unfold uintAt
  split
  · simp
  · exact rdU_range 10 0 _ 0 rfl (hb.drop _) (by omega) (by simp)
theorem uintAt_err (l : List Int) (a : Int) (h : (uintAt l a).2.2 ≠ 0) : (uintAt l a).1 = 0 ∧ (uintAt l a).2.1 = 0 := by
  unfold uintAt at h ⊢
  split
  · simp
  · rename_i h1
    rw [if_neg h1] at h
    rcases rdU_err 10 0 (l.drop a.toNat) 0 with e | e | e
    · exact absurd e h
    · rw [e]; simp [fin]
    · rw [e]; simp [fin]

def intAt (l : List Int) (a : Int) : Int × Int × Int := (unzz (uintAt l a).1, (uintAt l a).2.1, (uintAt l a).2.2)
theorem Int_eq (k : Nat) (hk : 24 ≤ k) (l : List Int) (hb : Bytes l) (hl : l.length ≤ 9223372036854775000) (a : Int) : num_Int.f k l a = some (intAt l a) := by
  have hr := uintAt_range l hb a
  unfold num_Int.f intAt
  rw [Uint_eq k hk l hb hl a]
  simp only [Option.bind_some]
  rw [and1 _ hr.1 hr.2, w64 ((uintAt l a).1 / 2) (by omega) (by omega), w64 ((uintAt l a).1 % 2) (by omega) (by omega), w64 (-((uintAt l a).1 % 2)) (by omega) (by omega)]
  congr 2
  unfold unzz
  by_cases h : (uintAt l a).1 % 2 = 1
  · rw [if_pos h, h, xor1 _ (by omega) (by omega)]
  · rw [if_neg h, show (uintAt l a).1 % 2 = 0 by omega]
    exact xor0 _ (by omega) (by omega)

def textAt (l : List Int) (a most : Int) : ByteArray × Int × Int :=
  let u := uintAt l a
  if u.2.2 = 0 then
    if most < 0 ∨ u.1 > most then (⟨#[]⟩, 0, 13)
    else if u.1 > l.length - u.2.1 then (⟨#[]⟩, 0, 11)
    else (strOfNums ((l.take (u.2.1 + u.1).toNat).drop u.2.1.toNat), u.2.1 + u.1, 0)
  else (⟨#[]⟩, 0, u.2.2)
theorem uintAt_ok (l : List Int) (hb : Bytes l) (a : Int) (h : (uintAt l a).2.2 = 0) : 0 ≤ a ∧ a < (uintAt l a).2.1 ∧ (uintAt l a).2.1 ≤ a + 10 ∧ (uintAt l a).2.1 ≤ l.length ∧ (l.drop a.toNat).take ((uintAt l a).2.1 - a).toNat = putU (uintAt l a).1 := by
  unfold uintAt at h ⊢
  split
  · rename_i h1; rw [if_pos h1] at h; simp at h
  · rename_i h1
    rw [if_neg h1] at h
    have h' : (rdU 10 0 (l.drop a.toNat) 0).2.2 = 0 := h
    obtain ⟨_, _, h4, h5, h6, h7⟩ := rdU_form (l.drop a.toNat) (hb.drop _) (rdU 10 0 (l.drop a.toNat) 0).1 (rdU 10 0 (l.drop a.toNat) 0).2.1 (Prod.ext rfl (Prod.ext rfl h'))
    rw [List.length_drop] at h7
    simp only [fin, h', if_true]
    refine ⟨by omega, by omega, by omega, by omega, ?_⟩
    rw [show a + (rdU 10 0 (l.drop a.toNat) 0).2.1 - a = (rdU 10 0 (l.drop a.toNat) 0).2.1 by omega]
    exact h4
theorem Text_eq (k : Nat) (hk : 24 ≤ k) (l : List Int) (hb : Bytes l) (hl : l.length ≤ 9223372036854775000) (a most : Int) (hm0 : -9223372036854775808 ≤ most) (hm1 : most ≤ 9223372036854775807) : num_Text.f k l a most = some (textAt l a most) := by
  have hr := uintAt_range l hb a
  unfold num_Text.f textAt
  rw [Uint_eq k hk l hb hl a]
  simp only [Option.bind_some]
  obtain ⟨k, rfl⟩ : ∃ m, k = m + 1 := ⟨k - 1, by omega⟩
  by_cases h : (uintAt l a).2.2 = 0
  · obtain ⟨h0, h1, h2, h3, _⟩ := uintAt_ok l hb a h
    rw [if_pos h, if_pos h]
    generalize uintAt l a = u at *
    have J : ∀ b : Bool, b = decide (most < 0 ∨ u.1 > most) → num_Text.j0 (k + 1) l u.1 u.2.1 b = some (if most < 0 ∨ u.1 > most then (⟨#[]⟩, 0, 13) else if u.1 > l.length - u.2.1 then (⟨#[]⟩, 0, 11) else (strOfNums ((l.take (u.2.1 + u.1).toNat).drop u.2.1.toNat), u.2.1 + u.1, 0)) := by
      intro b hbt
      simp only [num_Text.j0]
      by_cases hbad : most < 0 ∨ u.1 > most
      · rw [if_pos (by rw [hbt]; simpa using hbad), if_pos hbad]
      · rw [if_neg (by rw [hbt]; simpa using hbad), if_neg hbad, w64 ((l.length : Int) - u.2.1) (by omega) (by omega), u64w ((l.length : Int) - u.2.1) (by omega) (by omega)]
        by_cases h4 : u.1 > l.length - u.2.1
        · rw [if_pos h4, if_pos h4]
        · rw [if_neg h4, if_neg h4, w64 u.1 (by omega) (by omega), w64 (u.2.1 + u.1) (by omega) (by omega), if_pos (by omega), if_pos (by omega), if_pos (by omega)]
    by_cases h5 : most < 0
    · rw [if_pos h5]; exact J _ (by simp [h5])
    · rw [if_neg h5, u64w most (by omega) (by omega)]
      exact J _ (by simp [h5])
  · rw [if_neg h, if_neg h]
end Go.Proofs.Ytainfemokjjipaa.Pl
