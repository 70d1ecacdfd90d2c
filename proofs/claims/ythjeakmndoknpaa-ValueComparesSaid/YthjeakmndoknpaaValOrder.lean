/- Of two right values: the program's Compare and the document's answer alike; of a value and itself: 0. -/
import Derived.Test.YthjeakmndoknpaaXxscruplelaw03ValueCompares
import Derived.Test.YthjeakmndoknpaaValIs
set_option linter.unusedSimpArgs false
set_option linter.unusedVariables false
namespace Go.Proofs.Ythjeakmndoknpaa.X
open Go.RowKit Go.Proofs.YthjeakmndoknpaaW.PrintWords Go.Proofs.YthjeakmndoknpaaW.PrintLast Go.Proofs.YthjeakmndoknpaaW.PrintMore Go.Proofs.YthjeakmndoknpaaW

theorem cmpB : ∀ (x y : List UInt8), Lib.compareBytes x y = if Op.bytesLess x y = true then -1 else if Op.bytesLess y x = true then 1 else 0
  | [], [] => by simp [Lib.compareBytes, Op.bytesLess]
  | [], _ :: _ => by simp [Lib.compareBytes, Op.bytesLess]
  | _ :: _, [] => by simp [Lib.compareBytes, Op.bytesLess]
  | a :: x, b :: y => by
    have ih := cmpB x y
    simp only [Lib.compareBytes, Op.bytesLess]
    by_cases h1 : a < b
    · simp [h1]
    · by_cases h2 : b < a
      · have h3 : (a == b) = false := by
          rw [beq_eq_false_iff_ne]; rintro rfl; exact h1 h2
        simp [h1, h2, h3]
      · obtain rfl : a = b := by
          rw [UInt8.lt_iff_toNat_lt] at *
          exact UInt8.toNat_inj.1 (by omega)
        simp [h1, ih]
theorem bl_irrefl : ∀ x : List UInt8, Op.bytesLess x x = false
  | [] => rfl
  | a :: x => by
    have h : ¬ a < a := by rw [UInt8.lt_iff_toNat_lt]; omega
    simp [Op.bytesLess, h, bl_irrefl x]
/-- The order of texts. -/
def tx (a b : ByteArray) : Int := if Op.bytesLess a.toList b.toList = true then -1 else if Op.bytesLess b.toList a.toList = true then 1 else 0
theorem tx_self (a : ByteArray) : tx a a = 0 := by unfold tx; rw [bl_irrefl]; rfl
theorem texts_eq (a b : ByteArray) : scrupleref03_texts.f a b = some (tx a b) := by
  unfold scrupleref03_texts.f tx
  split
  · rfl
  · split <;> rfl
theorem Compare_eq (a b : ByteArray) : strings_Compare.f a b = some (tx a b) := by
  unfold strings_Compare.f
  simp only [bytealg_CompareString.f, Option.bind_some]
  rw [cmpB, ← Lib.toList_data, ← Lib.toList_data]
  rfl
/-- The order of numbers. -/
def sg (a b : Int) : Int := if a < b then -1 else if a > b then 1 else 0
theorem cmpi (a b : Int) : cmp_Compare_int.f a b = some (sg a b) := by
  unfold cmp_Compare_int.f cmp_isNaN_int.f sg
  simp
  split
  · rfl
  · split <;> rfl
theorem cmpi64 (a b : Int) : cmp_Compare_int64.f a b = some (sg a b) := by
  unfold cmp_Compare_int64.f cmp_isNaN_int64.f sg
  simp
  split
  · rfl
  · split <;> rfl
theorem or2 (a b : Int) : Ev (fun k => cmp_Or_int.f k [a, b]) (if a = 0 then b else a) := by
  refine ⟨3, fun k hk => ?_⟩
  obtain ⟨k, rfl⟩ : ∃ j, k = j + 3 := ⟨k - 3, by omega⟩
  by_cases h : a = 0 <;> by_cases h' : b = 0 <;> simp [cmp_Or_int.f, cmp_Or_int.l0, rd, wrap64, h, h']
theorem or3 (a b c : Int) : Ev (fun k => cmp_Or_int.f k [a, b, c]) (if a = 0 then (if b = 0 then c else b) else a) := by
  refine ⟨4, fun k hk => ?_⟩
  obtain ⟨k, rfl⟩ : ∃ j, k = j + 4 := ⟨k - 4, by omega⟩
  by_cases h : a = 0 <;> by_cases h' : b = 0 <;> by_cases h'' : c = 0 <;> simp [cmp_Or_int.f, cmp_Or_int.l0, rd, wrap64, h, h', h'']

section
variable (f0 f1 : Int) (f2 : ByteArray) (f3 : List S25) (f4 : List ByteArray) (g0 g1 : Int) (g2 : ByteArray) (g3 : List S25) (g4 : List ByteArray)
/-- Where it is decided, or one list ends. -/
theorem end_eq (c : Int) (i : Nat) (h : c ≠ 0 ∨ ¬ ((i : Int) < (f3.length : Int) ∧ (i : Int) < (g3.length : Int))) :
    Ev (fun k => value_order.l0 k c (i : Int) f0 f1 f2 f3 f4 g0 g1 g2 g3 g4) (if c = 0 then sg f3.length g3.length else c) ∧
    Ev (fun k => scrupleref03_order.l0 k c (i : Int) f0 f1 f2 f3 f4 g0 g1 g2 g3 g4) (if c = 0 then sg f3.length g3.length else c) := by
  have hj1 : Ev (fun k => value_order.j1 k c (i : Int) false f0 f1 f2 f3 f4 g0 g1 g2 g3 g4) (if c = 0 then sg f3.length g3.length else c) := by
    refine Ev.step (h := fun k => (cmp_Or_int.f k [c, sg f3.length g3.length]).bind fun t => some t) (Ev.bind (or2 _ _) Ev.const) (fun k => ?_)
    rw [value_order.j1, if_neg (by simp), cmpi]; rfl
  have hj3 : Ev (fun k => scrupleref03_order.j3 k c (i : Int) false f0 f1 f2 f3 f4 g0 g1 g2 g3 g4) (if c = 0 then sg f3.length g3.length else c) := by
    by_cases hc : c = 0
    · refine Ev.step (h := fun k => scrupleref03_order.j4 k c (decide ((f3.length : Int) < (g3.length : Int))) f0 f1 f2 f3 f4 g0 g1 g2 g3 g4) ?_ (fun k => by rw [scrupleref03_order.j3, if_neg (by simp), if_pos hc])
      refine Ev.step Ev.const (fun k => ?_)
      rw [scrupleref03_order.j4, if_pos hc]
      unfold sg
      by_cases h1 : (f3.length : Int) < (g3.length : Int)
      · simp [h1, hc]
      · by_cases h2 : (f3.length : Int) > (g3.length : Int)
        · simp only [decide_eq_false h1, Bool.false_eq_true, if_false, if_neg h1, if_pos h2, if_pos hc]
        · simp only [decide_eq_false h1, Bool.false_eq_true, if_false, if_neg h1, if_neg h2, if_pos hc, hc]; rfl
    · refine Ev.step (h := fun k => scrupleref03_order.j4 k c false f0 f1 f2 f3 f4 g0 g1 g2 g3 g4) ?_ (fun k => by rw [scrupleref03_order.j3, if_neg (by simp), if_neg hc])
      exact Ev.step Ev.const (fun k => by rw [scrupleref03_order.j4, if_neg (by simp), if_neg hc, if_neg hc])
  constructor
  · refine Ev.step hj1 (fun k => ?_)
    rw [value_order.l0]
    by_cases hc : c = 0
    · rw [if_pos hc]
      by_cases h1 : (i : Int) < (f3.length : Int)
      · rw [if_pos h1, decide_eq_false (fun h2 => h.elim (fun q => q hc) (fun q => q ⟨h1, h2⟩))]
      · rw [if_neg h1]
    · rw [if_neg hc]
  · refine Ev.step hj3 (fun k => ?_)
    rw [scrupleref03_order.l0]
    by_cases h1 : (i : Int) < (f3.length : Int)
    · rw [if_pos h1]
      by_cases h2 : (i : Int) < (g3.length : Int)
      · rw [if_pos h2]
        have hc : c ≠ 0 := h.elim id (fun q => absurd ⟨h1, h2⟩ q)
        have : (c == 0) = false := by simpa using hc
        rw [this]
      · rw [if_neg h2]
    · rw [if_neg h1]

/-- Both loops, from a place on, while all before is the same. -/
theorem ord_loop (P : S25 → S25 → Prop) (hP : ∀ a b, P a b → ∃ r, Ev (fun k => value_order.f k a.f0 a.f1 a.f2 a.f3 a.f4 b.f0 b.f1 b.f2 b.f3 b.f4) r ∧ Ev (fun k => scrupleref03_order.f k a.f0 a.f1 a.f2 a.f3 a.f4 b.f0 b.f1 b.f2 b.f3 b.f4) r)
    (h3 : f3.length ≤ 9223372036854775807) (hk : f0 = 5 → f4.length = f3.length ∧ g4.length = g3.length)
    (hall : ∀ i : Nat, i < f3.length → i < g3.length → P (rd_T25 f3 (i : Int)) (rd_T25 g3 (i : Int))) :
    ∀ (rem i : Nat), i + rem = f3.length → ∀ c : Int, ∃ r, Ev (fun k => value_order.l0 k c (i : Int) f0 f1 f2 f3 f4 g0 g1 g2 g3 g4) r ∧ Ev (fun k => scrupleref03_order.l0 k c (i : Int) f0 f1 f2 f3 f4 g0 g1 g2 g3 g4) r := by
  intro rem
  induction rem with
  | zero =>
    intro i hi c
    exact ⟨_, end_eq f0 f1 f2 f3 f4 g0 g1 g2 g3 g4 c i (Or.inr (by omega))⟩
  | succ rem ih =>
    intro i hi c
    by_cases hc : c = 0
    case neg => exact ⟨_, end_eq f0 f1 f2 f3 f4 g0 g1 g2 g3 g4 c i (Or.inl hc)⟩
    by_cases hlen : (i : Int) < (g3.length : Int)
    case neg => exact ⟨_, end_eq f0 f1 f2 f3 f4 g0 g1 g2 g3 g4 c i (Or.inr (by omega))⟩
    have h1 : (i : Int) < (f3.length : Int) := by omega
    have p : (0 : Int) ≤ (i : Int) := by omega
    have ei : wrap64 ((i : Int) + 1) = ((i + 1 : Nat) : Int) := by rw [w64 _ (by omega) (by omega)]; omega
    have e1 : ∀ k, value_order.l0 (k + 1) c (i : Int) f0 f1 f2 f3 f4 g0 g1 g2 g3 g4 = value_order.j1 k c (i : Int) true f0 f1 f2 f3 f4 g0 g1 g2 g3 g4 := fun k => by
      rw [value_order.l0, if_pos hc, if_pos h1, decide_eq_true hlen]
    have e2 : ∀ k, scrupleref03_order.l0 (k + 1) c (i : Int) f0 f1 f2 f3 f4 g0 g1 g2 g3 g4 = scrupleref03_order.j3 k c (i : Int) true f0 f1 f2 f3 f4 g0 g1 g2 g3 g4 := fun k => by
      have : (c == 0) = true := by simpa using hc
      rw [scrupleref03_order.l0, if_pos h1, if_pos hlen, this]
    obtain ⟨r0, m0, q0⟩ := hP _ _ (hall i (by omega) (by omega))
    obtain ⟨r, m, q⟩ := ih (i + 1) (by omega) r0
    by_cases k5 : f0 = 5
    · obtain ⟨hk1, hk2⟩ := hk k5
      have a4 : (i : Int) < (f4.length : Int) := by omega
      have b4 : (i : Int) < (g4.length : Int) := by omega
      by_cases ht : tx (rdOf ByteArray.empty f4 (i : Int)) (rdOf ByteArray.empty g4 (i : Int)) = 0
      · refine ⟨r, Ev.step (Ev.step (Ev.bind (F := fun k t => value_order.l0 k t ((i + 1 : Nat) : Int) f0 f1 f2 f3 f4 g0 g1 g2 g3 g4) m0 m) (fun k => ?_)) e1, Ev.step (Ev.step (Ev.bind (F := fun k t => scrupleref03_order.l0 k t ((i + 1 : Nat) : Int) f0 f1 f2 f3 f4 g0 g1 g2 g3 g4) q0 q) (fun k => ?_)) e2⟩
        · rw [value_order.j1, if_pos rfl, if_pos k5, if_pos p, if_pos a4, if_pos b4, Compare_eq, ht, Option.bind_some, if_pos rfl, if_pos h1, if_pos hlen, ei]
        · rw [scrupleref03_order.j3, if_pos rfl, if_pos k5, if_pos p, if_pos a4, if_pos b4, texts_eq, ht, Option.bind_some, if_pos rfl, if_pos h1, if_pos hlen, ei]
      · obtain ⟨r', m', q'⟩ := ih (i + 1) (by omega) (tx (rdOf ByteArray.empty f4 (i : Int)) (rdOf ByteArray.empty g4 (i : Int)))
        refine ⟨r', Ev.step (Ev.step m' (fun k => ?_)) e1, Ev.step (Ev.step q' (fun k => ?_)) e2⟩
        · rw [value_order.j1, if_pos rfl, if_pos k5, if_pos p, if_pos a4, if_pos b4, Compare_eq, Option.bind_some, if_neg ht, ei]
        · rw [scrupleref03_order.j3, if_pos rfl, if_pos k5, if_pos p, if_pos a4, if_pos b4, texts_eq, Option.bind_some, if_neg ht, ei]
    · refine ⟨r, Ev.step (Ev.step (Ev.bind (F := fun k t => value_order.l0 k t ((i + 1 : Nat) : Int) f0 f1 f2 f3 f4 g0 g1 g2 g3 g4) m0 m) (fun k => ?_)) e1, Ev.step (Ev.step (Ev.bind (F := fun k t => scrupleref03_order.l0 k t ((i + 1 : Nat) : Int) f0 f1 f2 f3 f4 g0 g1 g2 g3 g4) q0 q) (fun k => ?_)) e2⟩
      · rw [value_order.j1, if_pos rfl, if_neg k5, if_pos hc, if_pos p, if_pos h1, if_pos hlen, ei]
      · rw [scrupleref03_order.j3, if_pos rfl, if_neg k5, if_pos hc, if_pos p, if_pos h1, if_pos hlen, ei]
end

theorem ord_eq (x : S25) (hx : Frm x) : ∀ y, Val x → Val y → Frm y → ∃ r, Ev (fun k => value_order.f k x.f0 x.f1 x.f2 x.f3 x.f4 y.f0 y.f1 y.f2 y.f3 y.f4) r ∧ Ev (fun k => scrupleref03_order.f k x.f0 x.f1 x.f2 x.f3 x.f4 y.f0 y.f1 y.f2 y.f3 y.f4) r := by
  induction hx with
  | mk x hf _ ih =>
  intro y vx vy fy
  have lx3 : x.f3.length ≤ 9223372036854775807 ∧ x.f4.length ≤ 9223372036854775807 ∧ ∀ z ∈ x.f3, Val z := by cases vx; exact ⟨by assumption, by assumption, by assumption⟩
  have ly3 : y.f3.length ≤ 9223372036854775807 ∧ y.f4.length ≤ 9223372036854775807 ∧ ∀ z ∈ y.f3, Val z := by cases vy; exact ⟨by assumption, by assumption, by assumption⟩
  obtain ⟨hfy, ky⟩ : value_form.b y.f0 y.f1 y.f2 y.f3.length y.f4.length = true ∧ ∀ z ∈ y.f3, Frm z := by cases fy; exact ⟨by assumption, by assumption⟩
  have hor := or3 (sg x.f0 y.f0) (sg x.f1 y.f1) (tx x.f2 y.f2)
  generalize hc : (if sg x.f0 y.f0 = 0 then (if sg x.f1 y.f1 = 0 then tx x.f2 y.f2 else sg x.f1 y.f1) else sg x.f0 y.f0) = c at hor
  have hm : ∀ k, value_order.f (k + 1) x.f0 x.f1 x.f2 x.f3 x.f4 y.f0 y.f1 y.f2 y.f3 y.f4 = (cmp_Or_int.f k [sg x.f0 y.f0, sg x.f1 y.f1, tx x.f2 y.f2]).bind fun t => value_order.l0 k t ((0 : Nat) : Int) x.f0 x.f1 x.f2 x.f3 x.f4 y.f0 y.f1 y.f2 y.f3 y.f4 := fun k => by
    rw [value_order.f, cmpi, cmpi64, Compare_eq]; rfl
  have done : ∀ r, Ev (fun k => value_order.l0 k c ((0 : Nat) : Int) x.f0 x.f1 x.f2 x.f3 x.f4 y.f0 y.f1 y.f2 y.f3 y.f4) r → Ev (fun k => value_order.f k x.f0 x.f1 x.f2 x.f3 x.f4 y.f0 y.f1 y.f2 y.f3 y.f4) r := fun r h => Ev.step (Ev.bind hor h) hm
  have unequal : c ≠ 0 → Ev (fun k => value_order.f k x.f0 x.f1 x.f2 x.f3 x.f4 y.f0 y.f1 y.f2 y.f3 y.f4) c := fun h => by
    have z := (end_eq x.f0 x.f1 x.f2 x.f3 x.f4 y.f0 y.f1 y.f2 y.f3 y.f4 c 0 (Or.inl h)).1
    rw [if_neg h] at z
    exact done c z
  by_cases k0 : x.f0 < y.f0
  · have e : c = -1 := by rw [← hc]; simp [sg, k0]
    refine ⟨-1, by rw [← e]; exact unequal (by omega), ?_⟩
    refine Ev.step (h := fun k => scrupleref03_order.j0 k true x.f0 x.f1 x.f2 x.f3 x.f4 y.f0 y.f1 y.f2 y.f3 y.f4) ?_ (fun k => by rw [scrupleref03_order.f, if_pos k0])
    exact Ev.step Ev.const (fun k => by rw [scrupleref03_order.j0, if_pos rfl])
  by_cases k1 : x.f0 > y.f0
  · have e : c = 1 := by rw [← hc]; simp [sg, k0, k1]
    refine ⟨1, by rw [← e]; exact unequal (by omega), ?_⟩
    refine Ev.step (h := fun k => scrupleref03_order.j0 k false x.f0 x.f1 x.f2 x.f3 x.f4 y.f0 y.f1 y.f2 y.f3 y.f4) ?_ (fun k => by rw [scrupleref03_order.f, if_neg k0, if_neg (by omega)])
    exact Ev.step Ev.const (fun k => by rw [scrupleref03_order.j0, if_neg (by simp), if_pos k1])
  have k2 : x.f0 = y.f0 := by omega
  by_cases n0 : x.f1 < y.f1
  · have e : c = -1 := by rw [← hc]; simp [sg, k0, k1, n0]
    refine ⟨-1, by rw [← e]; exact unequal (by omega), ?_⟩
    refine Ev.step (h := fun k => scrupleref03_order.j0 k true x.f0 x.f1 x.f2 x.f3 x.f4 y.f0 y.f1 y.f2 y.f3 y.f4) ?_ (fun k => by rw [scrupleref03_order.f, if_neg k0, if_pos k2, decide_eq_true n0])
    exact Ev.step Ev.const (fun k => by rw [scrupleref03_order.j0, if_pos rfl])
  by_cases n1 : x.f1 > y.f1
  · have e : c = 1 := by rw [← hc]; simp [sg, k0, k1, n0, n1]
    refine ⟨1, by rw [← e]; exact unequal (by omega), ?_⟩
    refine Ev.step (h := fun k => scrupleref03_order.j0 k false x.f0 x.f1 x.f2 x.f3 x.f4 y.f0 y.f1 y.f2 y.f3 y.f4) ?_ (fun k => by rw [scrupleref03_order.f, if_neg k0, if_pos k2, decide_eq_false n0])
    exact Ev.step Ev.const (fun k => by rw [scrupleref03_order.j0, if_neg (by simp), if_neg k1, if_pos k2, if_pos n1])
  have e : c = tx x.f2 y.f2 := by rw [← hc]; simp [sg, k0, k1, n0, n1]
  have hq : ∀ r, Ev (fun k => scrupleref03_order.l0 k c ((0 : Nat) : Int) x.f0 x.f1 x.f2 x.f3 x.f4 y.f0 y.f1 y.f2 y.f3 y.f4) r → Ev (fun k => scrupleref03_order.f k x.f0 x.f1 x.f2 x.f3 x.f4 y.f0 y.f1 y.f2 y.f3 y.f4) r := fun r h => by
    refine Ev.step (h := fun k => scrupleref03_order.j0 k false x.f0 x.f1 x.f2 x.f3 x.f4 y.f0 y.f1 y.f2 y.f3 y.f4) ?_ (fun k => by rw [scrupleref03_order.f, if_neg k0, if_pos k2, decide_eq_false n0])
    refine Ev.step (h := fun k => scrupleref03_order.j1 k x.f0 x.f1 x.f2 x.f3 x.f4 y.f0 y.f1 y.f2 y.f3 y.f4) ?_ (fun k => by rw [scrupleref03_order.j0, if_neg (by simp), if_neg k1, if_pos k2, if_neg n1])
    exact Ev.step h (fun k => by rw [scrupleref03_order.j1, texts_eq, Option.bind_some, e]; rfl)
  have mem : ∀ (l : List S25) (i : Nat), i < l.length → rd_T25 l (i : Int) ∈ l := fun l i hl => by
    unfold rd_T25
    rw [show ((i : Int)).toNat = i from by omega, List.getD_eq_getElem?_getD, List.getElem?_eq_getElem hl]
    exact List.getElem_mem hl
  obtain ⟨r, m, q⟩ := ord_loop x.f0 x.f1 x.f2 x.f3 x.f4 y.f0 y.f1 y.f2 y.f3 y.f4 (fun a b => a ∈ x.f3 ∧ Val a ∧ Val b ∧ Frm b) (fun a b ⟨h1, h2, h3, h4⟩ => ih a h1 b h2 h3 h4) lx3.1
    (fun h => ⟨(form_len lx3.1 lx3.2.1 hf).1 h, (form_len ly3.1 ly3.2.1 hfy).1 (by omega)⟩)
    (fun i h1 h2 => ⟨mem _ _ h1, lx3.2.2 _ (mem _ _ h1), ly3.2.2 _ (mem _ _ h2), ky _ (mem _ _ h2)⟩) x.f3.length 0 (by omega) c
  exact ⟨r, done r m, hq r q⟩

theorem Ev.uniq {α : Type} {g : Nat → Option α} {a b : α} (h : Ev g a) (h' : Ev g b) : a = b := by
  obtain ⟨K, hK⟩ := h
  obtain ⟨L, hL⟩ := h'
  have := (hK (K + L) (by omega)).symm.trans (hL (K + L) (by omega))
  exact Option.some.inj this

theorem self_loop (f0 f1 : Int) (f2 : ByteArray) (f3 : List S25) (f4 : List ByteArray) (hP : ∀ a ∈ f3, Ev (fun k => value_order.f k a.f0 a.f1 a.f2 a.f3 a.f4 a.f0 a.f1 a.f2 a.f3 a.f4) 0)
    (h3 : f3.length ≤ 9223372036854775807) (hk : f0 = 5 → f4.length = f3.length) :
    ∀ (rem i : Nat), i + rem = f3.length → Ev (fun k => value_order.l0 k 0 (i : Int) f0 f1 f2 f3 f4 f0 f1 f2 f3 f4) 0 := by
  intro rem
  induction rem with
  | zero =>
    intro i hi
    have z := (end_eq f0 f1 f2 f3 f4 f0 f1 f2 f3 f4 0 i (Or.inr (by omega))).1
    have e : sg (f3.length : Int) (f3.length : Int) = 0 := by unfold sg; rw [if_neg (by omega), if_neg (by omega)]
    rw [if_pos rfl, e] at z
    exact z
  | succ rem ih =>
    intro i hi
    have h1 : (i : Int) < (f3.length : Int) := by omega
    have p : (0 : Int) ≤ (i : Int) := by omega
    have ei : wrap64 ((i : Int) + 1) = ((i + 1 : Nat) : Int) := by rw [w64 _ (by omega) (by omega)]; omega
    have hmem : rd_T25 f3 (i : Int) ∈ f3 := by
      have hl : i < f3.length := by omega
      unfold rd_T25
      rw [show ((i : Int)).toNat = i from by omega, List.getD_eq_getElem?_getD, List.getElem?_eq_getElem hl]
      exact List.getElem_mem hl
    have e1 : ∀ k, value_order.l0 (k + 1) 0 (i : Int) f0 f1 f2 f3 f4 f0 f1 f2 f3 f4 = value_order.j1 k 0 (i : Int) true f0 f1 f2 f3 f4 f0 f1 f2 f3 f4 := fun k => by
      rw [value_order.l0, if_pos rfl, if_pos h1, decide_eq_true h1]
    refine Ev.step (Ev.step (Ev.bind (F := fun k t => value_order.l0 k t ((i + 1 : Nat) : Int) f0 f1 f2 f3 f4 f0 f1 f2 f3 f4) (hP _ hmem) (ih (i + 1) (by omega))) (fun k => ?_)) e1
    by_cases k5 : f0 = 5
    · have a4 : (i : Int) < (f4.length : Int) := by have := hk k5; omega
      rw [value_order.j1, if_pos rfl, if_pos k5, if_pos p, if_pos a4, if_pos a4, Compare_eq, tx_self, Option.bind_some, if_pos rfl, if_pos h1, if_pos h1, ei]
    · rw [value_order.j1, if_pos rfl, if_neg k5, if_pos rfl, if_pos p, if_pos h1, if_pos h1, ei]

theorem ord_self (x : S25) (hx : Frm x) : Val x → Ev (fun k => value_order.f k x.f0 x.f1 x.f2 x.f3 x.f4 x.f0 x.f1 x.f2 x.f3 x.f4) 0 := by
  induction hx with
  | mk x hf _ ih =>
  intro vx
  have lx3 : x.f3.length ≤ 9223372036854775807 ∧ x.f4.length ≤ 9223372036854775807 ∧ ∀ z ∈ x.f3, Val z := by cases vx; exact ⟨by assumption, by assumption, by assumption⟩
  have s0 : sg x.f0 x.f0 = 0 := by unfold sg; rw [if_neg (by omega), if_neg (by omega)]
  have s1 : sg x.f1 x.f1 = 0 := by unfold sg; rw [if_neg (by omega), if_neg (by omega)]
  have hor := or3 (sg x.f0 x.f0) (sg x.f1 x.f1) (tx x.f2 x.f2)
  rw [s0, s1, tx_self, if_pos rfl, if_pos rfl] at hor
  refine Ev.step (Ev.bind (F := fun k t => value_order.l0 k t ((0 : Nat) : Int) x.f0 x.f1 x.f2 x.f3 x.f4 x.f0 x.f1 x.f2 x.f3 x.f4) hor (self_loop x.f0 x.f1 x.f2 x.f3 x.f4 (fun a ha => ih a ha (lx3.2.2 a ha)) lx3.1 (form_len lx3.1 lx3.2.1 hf).1 x.f3.length 0 (by omega))) (fun k => ?_)
  rw [value_order.f, cmpi, cmpi64, Compare_eq, s0, s1, tx_self]; rfl

/-- Compare of any two values: the program's and the document's. -/
theorem compare_eq (x y : S25) (vx : Val x) (vy : Val y) : ∃ r, Ev (fun k => value_Compare.f k x.f0 x.f1 x.f2 x.f3 x.f4 y.f0 y.f1 y.f2 y.f3 y.f4) r ∧ Ev (fun k => scrupleref03_Compare.f k x.f0 x.f1 x.f2 x.f3 x.f4 y.f0 y.f1 y.f2 y.f3 y.f4) r := by
  obtain ⟨a, _, _, a1, _, _, a2, _, _, ta, _⟩ := is_eq x vx
  obtain ⟨b, _, _, b1, _, _, b2, _, _, tb, _⟩ := is_eq y vy
  cases a with
  | false =>
    refine ⟨0, ?_, ?_⟩
    · unfold value_Compare.f; refine Ev.bind a1 ?_; simp only [Bool.false_eq_true, if_false]; exact Ev.const
    · unfold scrupleref03_Compare.f; refine Ev.bind a2 (Ev.bind b2 ?_); simp only [Bool.false_eq_true, if_false]; exact Ev.const
  | true =>
  cases b with
  | false =>
    refine ⟨0, ?_, ?_⟩
    · unfold value_Compare.f; refine Ev.bind a1 ?_; simp only [if_true]; refine Ev.bind b1 ?_; simp only [Bool.false_eq_true, if_false]; exact Ev.const
    · unfold scrupleref03_Compare.f; refine Ev.bind a2 (Ev.bind b2 ?_); simp only [if_true, Bool.false_eq_true, if_false]; exact Ev.const
  | true =>
    obtain ⟨r, m, q⟩ := ord_eq x (ta rfl).2.2.2.2 y vx vy (tb rfl).2.2.2.2
    refine ⟨r, ?_, ?_⟩
    · unfold value_Compare.f; refine Ev.bind a1 ?_; simp only [if_true]; refine Ev.bind b1 ?_; simp only [if_true]; exact Ev.bind m Ev.const
    · unfold scrupleref03_Compare.f; refine Ev.bind a2 (Ev.bind b2 ?_); simp only [if_true]; exact Ev.bind q Ev.const
theorem compare_self (x : S25) (vx : Val x) : Ev (fun k => value_Compare.f k x.f0 x.f1 x.f2 x.f3 x.f4 x.f0 x.f1 x.f2 x.f3 x.f4) 0 := by
  obtain ⟨a, _, _, a1, _, _, _, _, _, ta, _⟩ := is_eq x vx
  unfold value_Compare.f
  refine Ev.bind a1 ?_
  cases a with
  | false => simp only [Bool.false_eq_true, if_false]; exact Ev.const
  | true =>
    simp only [if_true]
    refine Ev.bind a1 ?_
    simp only [if_true]
    exact Ev.bind (ord_self x (ta rfl).2.2.2.2 vx) Ev.const
end Go.Proofs.Ythjeakmndoknpaa.X
namespace Go.Proofs.Ythjeakmndoknpaa.Pure
open Go.Proofs.Ythjeakmndoknpaa.X
theorem ValueCompares (x : S25) (hx : Val x) (y : S25) (hy : Val y) : ∃ k, scruplelaw03_ValueCompares.f k x.f0 x.f1 x.f2 x.f3 x.f4 y.f0 y.f1 y.f2 y.f3 y.f4 = some true := by
  obtain ⟨r, m, q⟩ := compare_eq x y hx hy
  obtain ⟨r', m', q'⟩ := compare_eq y x hy hx
  have h : Ev (fun k => scruplelaw03_ValueCompares.f k x.f0 x.f1 x.f2 x.f3 x.f4 y.f0 y.f1 y.f2 y.f3 y.f4) true := by
    unfold scruplelaw03_ValueCompares.f
    refine Ev.bind shown_ev (Ev.bind m (Ev.bind m' (Ev.bind (compare_self x hx) ?_)))
    simp only [if_true]
    refine Ev.bind q ?_
    simp only [if_true]
    refine Ev.bind q' ?_
    simp only [if_true]
    exact Ev.const
  obtain ⟨K, hK⟩ := h
  exact ⟨K, hK K (Nat.le_refl K)⟩
end Go.Proofs.Ythjeakmndoknpaa.Pure
