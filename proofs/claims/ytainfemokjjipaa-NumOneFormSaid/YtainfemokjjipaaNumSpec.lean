/- Plain words on numbers as bytes: how they are written (puts), how they are read (rdU), that what is written is read and what is read is written so. No program in sight; no condition beyond the lemmas' hypotheses. -/
import Derived.Test.YtainfemokjjipaaXWords
import Derived.Laws.BitsLemmas
namespace Go.Proofs.Ytainfemokjjipaa.Pl
open Go.RowKit Go.Proofs.YtainfemokjjipaaW.PrintWords Go.Proofs.YtainfemokjjipaaW.PrintLast Go.Proofs.YtainfemokjjipaaW.PrintMore

/-! ### wraps -/
theorem u64m (x : Int) : IntKind.u64.wrap x = x % 18446744073709551616 := by simp [IntKind.wrap, IntKind.bits, IntKind.signed]
theorem u64w (x : Int) (h0 : 0 ≤ x) (h1 : x < 18446744073709551616) : IntKind.u64.wrap x = x := by rw [u64m]; omega
theorem u64w' (x : Int) (h0 : 0 ≤ x) (h1 : x < 2 ^ 64) : IntKind.u64.wrap x = x := u64w x h0 (by omega)
theorem w64 (x : Int) (h0 : -9223372036854775808 ≤ x) (h1 : x ≤ 9223372036854775807) : wrap64 x = x := by unfold wrap64; omega
theorem w64m (x : Int) : wrap64 x = (x + 9223372036854775808) % 18446744073709551616 - 9223372036854775808 := by unfold wrap64; omega
theorem lit_u64 {x : Int} (h : (Lit.int .u64 x).wf = true) : 0 ≤ x ∧ x < 18446744073709551616 := by
  simp [Lit.wf, IntKind.min, IntKind.max, IntKind.signed, IntKind.bits] at h; omega
theorem lit_i64 {x : Int} (h : (Lit.int .i64 x).wf = true) : -9223372036854775808 ≤ x ∧ x ≤ 9223372036854775807 := by
  simp [Lit.wf, IntKind.min, IntKind.max, IntKind.signed, IntKind.bits] at h; omega
theorem lit_u8 {x : Int} (h : (Lit.int .u8 x).wf = true) : 0 ≤ x ∧ x ≤ 255 := by
  simp [Lit.wf, IntKind.min, IntKind.max, IntKind.signed, IntKind.bits] at h; omega

/-! ### bits -/
theorem or128 (x : Int) (h0 : 0 ≤ x) (h1 : x < 256) : bits .or .u8 x 128 = x % 128 + 128 := by
  obtain ⟨a, rfl⟩ := Int.eq_ofNat_of_zero_le h0
  have h := (bits_nat .u8 8 (by decide) wraps_u8 a 128 (by omega) (by omega)).2
  have e : a ||| 128 = a % 128 + 128 := by
    rcases Nat.lt_or_ge a 128 with ha | ha
    · have := Nat.two_pow_add_eq_or_of_lt (i := 7) (b := a) (by omega) 1
      rw [Nat.or_comm]
      simp at this
      omega
    · obtain ⟨b, rfl⟩ : ∃ b, a = 128 + b := ⟨a - 128, by omega⟩
      have := Nat.two_pow_add_eq_or_of_lt (i := 7) (b := b) (by omega) 1
      simp at this
      rw [this, Nat.or_assoc, Nat.or_comm b 128, ← Nat.or_assoc, Nat.or_self, ← this]
      omega
  rw [e] at h
  rw [show (128 : Int) = ((128 : Nat) : Int) from rfl, h]
  omega
theorem and127 (x : Int) (h0 : 0 ≤ x) (h1 : x < 256) : bits .and .u8 x 127 = x % 128 := by
  have h := bits_mask .u8 8 (by decide) wraps_u8 7 (by decide) x h0 (by omega)
  simpa using h
theorem and1 (x : Int) (h0 : 0 ≤ x) (h1 : x < 18446744073709551616) : bits .and .u64 x 1 = x % 2 := by
  have h := bits_mask .u64 64 (by decide) u64w' 1 (by decide) x h0 (by omega)
  simpa using h
theorem or_low (i : Nat) (n y : Int) (h0 : 0 ≤ n) (h1 : n < 2 ^ i) (h2 : 0 ≤ y) (h3 : y % 2 ^ i = 0) (h4 : y < 2 ^ 64) (hi : i ≤ 64) : bits .or .u64 n y = n + y := by
  have hn : n < 2 ^ 64 := by
    have : (2 : Int) ^ i ≤ 2 ^ 64 := by exact_mod_cast Nat.pow_le_pow_right (by decide) hi
    omega
  obtain ⟨a, rfl⟩ := Int.eq_ofNat_of_zero_le h0
  obtain ⟨b, rfl⟩ := Int.eq_ofNat_of_zero_le h2
  have ha : a < 2 ^ 64 := by exact_mod_cast hn
  have hb : b < 2 ^ 64 := by exact_mod_cast h4
  have e := bits_join .u64 64 (by decide) u64w' i (b : Int) (a : Int) h2 h3 h4 h0 h1 hn
  have e1 := (bits_nat .u64 64 (by decide) u64w' a b ha hb).2
  have e2 := (bits_nat .u64 64 (by decide) u64w' b a hb ha).2
  rw [e1, Nat.or_comm, ← e2, e]
  omega
theorem xor0 (x : Int) (h0 : -9223372036854775808 ≤ x) (h1 : x ≤ 9223372036854775807) : bits .xor .i64 x 0 = x := by
  have z : BitVec.ofInt 64 x ^^^ BitVec.ofInt 64 0 = BitVec.ofInt 64 x := by simp
  have e : bits .xor .i64 x 0 = IntKind.i64.wrap ((BitVec.ofInt 64 x).toNat) := by
    show IntKind.i64.wrap ((BitVec.ofInt 64 x ^^^ BitVec.ofInt 64 0).toNat : Int) = _
    rw [z]
  rw [e, IntKind.wrap_i64, BitVec.toNat_ofInt]
  omega
theorem xor1 (x : Int) (h0 : -9223372036854775808 ≤ x) (h1 : x ≤ 9223372036854775807) : bits .xor .i64 x (-1) = -x - 1 := by
  have e : bits .xor .i64 x (-1) = IntKind.i64.wrap ((~~~ (BitVec.ofInt 64 x)).toNat) := by
    have z : BitVec.ofInt 64 x ^^^ BitVec.ofInt 64 (-1) = ~~~ (BitVec.ofInt 64 x) := by
      rw [show BitVec.ofInt 64 (-1) = BitVec.allOnes 64 by decide, BitVec.xor_allOnes]
    show IntKind.i64.wrap ((BitVec.ofInt 64 x ^^^ BitVec.ofInt 64 (-1)).toNat : Int) = _
    rw [z]
  rw [e, IntKind.wrap_i64, BitVec.toNat_not, BitVec.toNat_ofInt]
  omega

/-! ### how a number is written, and read -/
def puts : Nat → Int → List Int
  | 0, _ => []
  | f + 1, n => if n ≥ 128 then (n % 128 + 128) :: puts f (n / 128) else [n]
def rdU : Nat → Nat → List Int → Int → Int × Int × Int
  | 0, _, _, _ => (0, 0, 12)
  | _ + 1, _, [], _ => (0, 0, 11)
  | f + 1, i, c :: t, n => if (f = 0 ∧ c > 1) ∨ (0 < i ∧ c = 0) then (0, 0, 12) else if c < 128 then (n + c * 128 ^ i, i + 1, 0) else rdU f (i + 1) t (n + (c - 128) * 128 ^ i)
/-- The bytes of a number from 0 on. -/
def putU (n : Int) : List Int := puts 10 n
/-- All are bytes. -/
def Bytes (l : List Int) : Prop := ∀ c ∈ l, 0 ≤ c ∧ c ≤ 255

theorem Bytes.of {l : List Int} (h : ∀ x ∈ l, (Lit.int .u8 x).wf = true) : Bytes l := fun c hc => lit_u8 (h c hc)
theorem Bytes.nil : Bytes [] := fun _ h => by simp at h
theorem Bytes.append {a b : List Int} (ha : Bytes a) (hb : Bytes b) : Bytes (a ++ b) := fun c hc => (List.mem_append.1 hc).elim (ha c) (hb c)
theorem Bytes.drop {a : List Int} (ha : Bytes a) (n : Nat) : Bytes (a.drop n) := fun c hc => ha c (List.mem_of_mem_drop hc)
theorem Bytes.take {a : List Int} (ha : Bytes a) (n : Nat) : Bytes (a.take n) := fun c hc => ha c (List.mem_of_mem_take hc)

theorem puts_len (f : Nat) : ∀ n, (puts f n).length ≤ f ∧ (0 < f → 0 < (puts f n).length) := by
  induction f with
  | zero => intro n; simp [puts]
  | succ f ih =>
    intro n
    unfold puts
    have := ih (n / 128)
    split
    · simp; omega
    · simp
theorem puts_bytes (f : Nat) : ∀ n, 0 ≤ n → Bytes (puts f n) := by
  induction f with
  | zero => intro n _; exact Bytes.nil
  | succ f ih =>
    intro n h0
    unfold puts
    split
    · intro c hc
      rcases List.mem_cons.1 hc with rfl | hc
      · omega
      · exact ih (n / 128) (by omega) c hc
    · intro c hc
      obtain rfl := List.mem_singleton.1 hc
      omega

theorem pow_pos' (i : Nat) : (0 : Int) < 128 ^ i := Int.pow_pos (by decide)
theorem pow_s (i : Nat) : (128 : Int) ^ (i + 1) = 128 * 128 ^ i := by rw [Int.pow_succ]; omega
theorem pow10 : (128 : Int) ^ 10 = 1180591620717411303424 := by decide
theorem pow9 : (128 : Int) ^ 9 = 9223372036854775808 := by decide

/-- What is written is read, whatever stands behind. -/
theorem rd_puts (rest : List Int) (d : Nat) : ∀ (i : Nat) (n acc : Int), i + d = 10 → 0 ≤ n → n * 128 ^ i < 18446744073709551616 → (0 < i → 0 < n) →
    rdU d i (puts d n ++ rest) acc = (acc + n * 128 ^ i, ((i + (puts d n).length : Nat) : Int), 0) := by
  induction d with
  | zero =>
    intro i n acc hi h0 hb hp
    obtain rfl : i = 10 := by omega
    have := hp (by omega)
    rw [pow10] at hb
    omega
  | succ d ih =>
    intro i n acc hi h0 hb hp
    unfold puts
    by_cases hn : n ≥ 128
    · rw [if_pos hn, List.cons_append]
      have hd : d ≠ 0 := by
        rintro rfl
        obtain rfl : i = 9 := by omega
        rw [pow9] at hb
        omega
      simp only [rdU]
      have e : n / 128 * 128 ^ (i + 1) + n % 128 * 128 ^ i = n * 128 ^ i := by
        rw [pow_s, ← Int.mul_assoc, ← Int.add_mul, Int.ediv_mul_add_emod]
      have hq : 0 ≤ n % 128 * 128 ^ i := Int.mul_nonneg (by omega) (Int.le_of_lt (pow_pos' i))
      rw [if_neg (by omega), if_neg (by omega)]
      have := ih (i + 1) (n / 128) (acc + (n % 128 + 128 - 128) * 128 ^ i) (by omega) (by omega) (by omega) (by omega)
      rw [this]
      refine Prod.ext ?_ (Prod.ext ?_ rfl)
      · show acc + (n % 128 + 128 - 128) * 128 ^ i + n / 128 * 128 ^ (i + 1) = acc + n * 128 ^ i
        rw [← e, show n % 128 + 128 - 128 = n % 128 by omega]
        omega
      · simp; omega
    · rw [if_neg hn]
      simp only [List.singleton_append, rdU]
      have h9 : ¬ ((d = 0 ∧ n > 1) ∨ (0 < i ∧ n = 0)) := by
        rintro (⟨rfl, h1⟩ | ⟨h1, h2⟩)
        · obtain rfl : i = 9 := by omega
          rw [pow9] at hb
          omega
        · have := hp h1; omega
      rw [if_neg h9, if_pos (by omega)]
      simp

theorem putU_read (n : Int) (rest : List Int) (h0 : 0 ≤ n) (h1 : n < 18446744073709551616) : rdU 10 0 (putU n ++ rest) 0 = (n, ((putU n).length : Int), 0) := by
  have := rd_puts rest 10 0 n 0 rfl h0 (by simpa using h1) (by omega)
  simpa [putU] using this

/-- What is read is written as the same bytes. -/
theorem rd_form (d : Nat) : ∀ (i : Nat) (l : List Int) (acc : Int) (v m : Int), i + d = 10 → Bytes l → rdU d i l acc = (v, m, 0) →
    ∃ n : Int, 0 ≤ n ∧ v = acc + n * 128 ^ i ∧ n * 128 ^ i < 18446744073709551616 ∧ (0 < i → 0 < n) ∧ l.take (m.toNat - i) = puts d n ∧ (i : Int) < m ∧ m ≤ 10 ∧ m ≤ i + l.length := by
  induction d with
  | zero => intro i l acc v m _ _ h; simp [rdU] at h
  | succ d ih =>
    intro i l acc v m hi hl h
    match l, hl, h with
    | [], _, h => simp [rdU] at h
    | c :: t, hl, h =>
      have hc := hl c (List.mem_cons_self)
      simp only [rdU] at h
      by_cases h1 : (d = 0 ∧ c > 1) ∨ (0 < i ∧ c = 0)
      · rw [if_pos h1] at h; simp at h
      · rw [if_neg h1] at h
        by_cases h2 : c < 128
        · rw [if_pos h2] at h
          simp only [Prod.mk.injEq, and_true] at h
          obtain ⟨rfl, rfl⟩ := h
          refine ⟨c, hc.1, rfl, ?_, by omega, ?_, by omega, by omega, by simp; omega⟩
          · by_cases h9 : i = 9
            · subst h9
              rw [pow9]
              have : ¬ (d = 0 ∧ c > 1) := fun z => h1 (.inl z)
              omega
            · have hle : (128 : Int) ^ i ≤ 128 ^ 8 := by exact_mod_cast Nat.pow_le_pow_right (by decide) (show i ≤ 8 by omega)
              have e8 : (128 : Int) ^ 8 = 72057594037927936 := by decide
              have hm : c * 128 ^ i ≤ 128 * 128 ^ i := Int.mul_le_mul_of_nonneg_right (by omega) (Int.le_of_lt (pow_pos' i))
              omega
          · rw [show ((i : Int) + 1).toNat - i = 1 by omega]
            simp [puts]; omega
        · rw [if_neg h2] at h
          obtain ⟨n, hn0, hv, hb, hp, ht, hm1, hm2, hm3⟩ := ih (i + 1) t _ v m (by omega) (fun z hz => hl z (List.mem_cons_of_mem _ hz)) h
          have hpn := hp (by omega)
          have e : (n * 128 + (c - 128)) * 128 ^ i = n * 128 ^ (i + 1) + (c - 128) * 128 ^ i := by rw [pow_s, Int.add_mul, Int.mul_assoc]
          refine ⟨n * 128 + (c - 128), by omega, ?_, ?_, by omega, ?_, by omega, hm2, by simp; omega⟩
          · rw [e, hv]; omega
          · have hlt : (c - 128) * 128 ^ i < 128 ^ (i + 1) := by
              rw [pow_s]
              exact Int.mul_lt_mul_of_pos_right (by omega) (pow_pos' i)
            by_cases hi8 : i + 1 ≤ 9
            · -- n * 128^(i+1) is a multiple of 128^(i+1), below 2^64, so one more still fits
              have hd : (128 : Int) ^ (i + 1) ∣ 18446744073709551616 := by
                have : (128 : Int) ^ (i + 1) ∣ 128 ^ 9 := by exact_mod_cast Nat.pow_dvd_pow 128 hi8
                exact Int.dvd_trans this (by rw [pow9]; exact ⟨2, by decide⟩)
              obtain ⟨q, hq⟩ := hd
              rw [e]
              have hnq : n < q := by
                rcases Int.lt_or_le n q with z | z
                · exact z
                · have := Int.mul_le_mul_of_nonneg_left z (Int.le_of_lt (pow_pos' (i + 1)))
                  rw [Int.mul_comm] at this
                  rw [Int.mul_comm (128 ^ (i + 1)) n] at this
                  rw [Int.mul_comm] at hq
                  omega
              have hstep : 128 ^ (i + 1) * (n + 1) ≤ 128 ^ (i + 1) * q := Int.mul_le_mul_of_nonneg_left (by omega) (Int.le_of_lt (pow_pos' (i + 1)))
              rw [Int.mul_add, Int.mul_one, Int.mul_comm (128 ^ (i + 1)) n] at hstep
              omega
            · obtain rfl : i = 9 := by omega
              rw [pow10] at hb
              omega
          · rw [show m.toNat - i = (m.toNat - (i + 1)) + 1 by omega, List.take_succ_cons, ht]
            conv => rhs; unfold puts
            rw [if_pos (by omega)]
            congr 1
            · omega
            · congr 1; omega

theorem rdU_form (l : List Int) (hl : Bytes l) (v m : Int) (h : rdU 10 0 l 0 = (v, m, 0)) : 0 ≤ v ∧ v < 18446744073709551616 ∧ l.take m.toNat = putU v ∧ 0 < m ∧ m ≤ 10 ∧ m ≤ l.length := by
  obtain ⟨n, h0, hv, hb, _, ht, h1, h2, h3⟩ := rd_form 10 0 l 0 v m rfl hl h
  obtain rfl : v = n := by simpa using hv
  simp at hb
  exact ⟨h0, hb, by simpa [putU] using ht, by omega, h2, by omega⟩
theorem rdU_err (d : Nat) : ∀ (i : Nat) (l : List Int) (acc : Int), (rdU d i l acc).2.2 = 0 ∨ rdU d i l acc = (0, 0, 11) ∨ rdU d i l acc = (0, 0, 12) := by
  induction d with
  | zero => intro i l acc; exact .inr (.inr rfl)
  | succ d ih =>
    intro i l acc
    match l with
    | [] => exact .inr (.inl rfl)
    | c :: t =>
      simp only [rdU]
      split
      · exact .inr (.inr rfl)
      · split
        · exact .inl rfl
        · exact ih _ _ _
/-- No number's bytes begin another's. -/
theorem putU_inj (n m : Int) (a b : List Int) (h0 : 0 ≤ n) (h1 : n < 18446744073709551616) (h2 : 0 ≤ m) (h3 : m < 18446744073709551616) (h : putU n ++ a = putU m ++ b) : n = m ∧ a = b := by
  have e1 := putU_read n a h0 h1
  have e2 := putU_read m b h2 h3
  rw [h, e2] at e1
  simp only [Prod.mk.injEq] at e1
  obtain ⟨rfl, _⟩ := e1
  exact ⟨rfl, List.append_cancel_left h⟩
theorem putU_len (n : Int) : 0 < (putU n).length ∧ (putU n).length ≤ 10 := ⟨(puts_len 10 n).2 (by omega), (puts_len 10 n).1⟩
theorem putU_bytes (n : Int) (h : 0 ≤ n) : Bytes (putU n) := puts_bytes 10 n h

/-- A number with a sign, as one from 0 on; and back. -/
def zz (n : Int) : Int := if n < 0 then -2 * n - 1 else 2 * n
def unzz (m : Int) : Int := if m % 2 = 1 then -(m / 2) - 1 else m / 2
theorem zz_range (n : Int) (h0 : -9223372036854775808 ≤ n) (h1 : n ≤ 9223372036854775807) : 0 ≤ zz n ∧ zz n < 18446744073709551616 := by unfold zz; split <;> omega
theorem unzz_zz (n : Int) : unzz (zz n) = n := by unfold zz unzz; split <;> split <;> omega
theorem zz_unzz (m : Int) (h : 0 ≤ m) : zz (unzz m) = m := by unfold zz unzz; split <;> split <;> omega
theorem unzz_range (m : Int) (h0 : 0 ≤ m) (h1 : m < 18446744073709551616) : -9223372036854775808 ≤ unzz m ∧ unzz m ≤ 9223372036854775807 := by unfold unzz; split <;> omega

/-- A text's bytes, as numbers. -/
theorem bytes_of (s : ByteArray) : Bytes (bytesOf s) := by
  intro c hc
  simp only [bytesOf, List.mem_map] at hc
  obtain ⟨b, _, rfl⟩ := hc
  have := b.toNat_lt
  omega
theorem str_data (l : List Int) : (strOfNums l).data.toList = l.map fun n => UInt8.ofNat n.toNat := by simp [strOfNums]
theorem str_bytesOf (s : ByteArray) : strOfNums (bytesOf s) = s := by
  apply ByteArray.ext
  apply Array.ext'
  rw [str_data]
  unfold bytesOf
  rw [List.map_map]
  conv => rhs; rw [← List.map_id s.data.toList]
  apply List.map_congr_left
  intro b _
  simp
theorem bytesOf_str (l : List Int) (h : Bytes l) : bytesOf (strOfNums l) = l := by
  unfold bytesOf
  rw [str_data, List.map_map]
  conv => rhs; rw [← List.map_id l]
  apply List.map_congr_left
  intro c hc
  have := h c hc
  simp
  omega
theorem str_inj {a b : List Int} (ha : Bytes a) (hb : Bytes b) (h : strOfNums a = strOfNums b) : a = b := by
  rw [← bytesOf_str a ha, ← bytesOf_str b hb, h]
theorem toList_inj {a b : ByteArray} (h : a.toList = b.toList) : a = b := by
  rw [ByteArray.toList_eq, ByteArray.toList_eq] at h
  exact ByteArray.ext (Array.ext' h)
theorem str_size (l : List Int) : (strOfNums l).size = l.length := by
  show (strOfNums l).data.size = l.length
  rw [← Array.length_toList, str_data, List.length_map]
theorem bytesOf_len (s : ByteArray) : (bytesOf s).length = s.size := bytesOf_length s
end Go.Proofs.Ytainfemokjjipaa.Pl
