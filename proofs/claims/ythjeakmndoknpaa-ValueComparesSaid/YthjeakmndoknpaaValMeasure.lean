/- Of every value: the program's measure and the document's weighed and deep answer alike: the same weight and depth, or both refuse. -/
import Derived.Test.YthjeakmndoknpaaXxvaluemeasure
import Derived.Test.YthjeakmndoknpaaXxscrupleref032
import Derived.Test.YthjeakmndoknpaaValOpen
set_option linter.unusedSimpArgs false
set_option linter.unusedVariables false
namespace Go.Proofs.Ythjeakmndoknpaa.X
open Go.RowKit Go.Proofs.YthjeakmndoknpaaW.PrintWords Go.Proofs.YthjeakmndoknpaaW.PrintLast Go.Proofs.YthjeakmndoknpaaW.PrintMore Go.Proofs.YthjeakmndoknpaaW

/-- With rounds enough, g tells r. -/
def Ev {α : Type} (g : Nat → Option α) (r : α) : Prop := ∃ K, ∀ k, K ≤ k → g k = some r
theorem Ev.step {α : Type} {g h : Nat → Option α} {r : α} (p : Ev h r) (e : ∀ k, g (k + 1) = h k) : Ev g r := by
  obtain ⟨K, hK⟩ := p
  refine ⟨K + 1, fun k hk => ?_⟩
  obtain ⟨k, rfl⟩ : ∃ j, k = j + 1 := ⟨k - 1, by omega⟩
  rw [e, hK k (by omega)]
theorem Ev.bind {α β : Type} {g : Nat → Option α} {F : Nat → α → Option β} {a : α} {r : β} (p : Ev g a) (q : Ev (fun k => F k a) r) : Ev (fun k => (g k).bind (F k)) r := by
  obtain ⟨K, hK⟩ := p
  obtain ⟨L, hL⟩ := q
  exact ⟨K + L, fun k hk => by show (g k).bind (F k) = some r; rw [hK k (by omega)]; exact hL k (by omega)⟩
theorem Ev.const {α : Type} {r : α} : Ev (fun _ => some r) r := ⟨0, fun _ _ => rfl⟩
theorem Ev.congr {α : Type} {g h : Nat → Option α} {r : α} (p : Ev h r) (e : ∀ k, g k = h k) : Ev g r := by
  obtain ⟨K, hK⟩ := p
  exact ⟨K, fun k hk => (e k).trans (hK k hk)⟩
theorem w64 (x : Int) (h0 : -9223372036854775808 ≤ x) (h1 : x ≤ 9223372036854775807) : wrap64 x = x := by unfold wrap64; omega
theorem mx_eq (a b : Int) : mx a b = if a < b then b else a := rfl
theorem mn_eq (a b : Int) : mn a b = if b < a then b else a := rfl

theorem plain_eq (f0 f1 : Int) (f2 : ByteArray) (f3 : List S25) (f4 : List ByteArray) (h3 : f3.length ≤ 9223372036854775807) (h4 : f4.length ≤ 9223372036854775807) :
    scrupleref03_plain.f f0 f1 f2 f3 f4 = some (value_form.b f0 f1 f2 f3.length f4.length) := by
  have e : (wrap64 ((f3.length : Int) + (f4.length : Int)) == 0) = (((f3.length : Int) == 0) && ((f4.length : Int) == 0)) := by
    rw [Bool.eq_iff_iff]
    simp only [beq_iff_eq, Bool.and_eq_true]
    unfold wrap64
    omega
  unfold scrupleref03_plain.f value_form.b
  rw [e]
  generalize (f3.length : Int) = n3
  generalize (f4.length : Int) = n4
  by_cases k0 : f0 = 0
  · subst k0; by_cases a : f1 = 0 <;> by_cases b : f2.toList = [] <;> by_cases c : n3 = 0 <;> simp [a, b, c]
  by_cases k1 : f0 = 1
  · subst k1; by_cases a : f1 = 0 <;> by_cases a' : f1 = 1 <;> by_cases b : f2.toList = [] <;> by_cases c : n3 = 0 <;> simp [a, a', b, c]
  by_cases k2 : f0 = 2
  · subst k2; by_cases b : f2.toList = [] <;> by_cases c : n3 = 0 <;> simp [b, c]
  by_cases k3 : f0 = 3
  · subst k3; by_cases a : f1 = 0 <;> by_cases c : n3 = 0 <;> simp [a, c]
  by_cases k4 : f0 = 4
  · subst k4; by_cases a : f1 = 0 <;> by_cases b : f2.toList = [] <;> simp [a, b]
  by_cases k5 : f0 = 5
  · subst k5; by_cases a : f1 = 0 <;> by_cases b : f2.toList = [] <;> by_cases c : n4 = n3 <;> simp [a, b, c]
  · simp [k0, k1, k2, k3, k4, k5]
/-- What a form that may be says of the lengths. -/
theorem form_len {f0 f1 : Int} {f2 : ByteArray} {n3 n4 : Nat} (h3 : n3 ≤ 9223372036854775807) (h4 : n4 ≤ 9223372036854775807) (h : value_form.b f0 f1 f2 n3 n4 = true) :
    (f0 = 5 → n4 = n3) ∧ (f0 ≠ 3 → f2.toList = []) ∧ (f0 = 3 → n3 = 0) := by
  have e : (wrap64 ((n3 : Int) + (n4 : Int)) == 0) = (((n3 : Int) == 0) && ((n4 : Int) == 0)) := by
    rw [Bool.eq_iff_iff]
    simp only [beq_iff_eq, Bool.and_eq_true]
    unfold wrap64
    omega
  unfold value_form.b at h
  rw [e] at h
  refine ⟨fun q => ?_, fun q => ?_, fun q => ?_⟩
  · subst q
    simp at h
    omega
  · by_cases k0 : f0 = 0
    · subst k0; simp at h; simp [h]
    by_cases k1 : f0 = 1
    · subst k1; simp at h; simp [h]
    by_cases k2 : f0 = 2
    · subst k2; simp at h; simp [h]
    by_cases k4 : f0 = 4
    · subst k4; simp at h; simp [h]
    by_cases k5 : f0 = 5
    · subst k5; simp at h; simp [h]
    · simp [k0, k1, k2, q, k4, k5] at h
  · subst q
    simp at h
    omega

/-- Formed, all the way down. -/
inductive Frm : S25 → Prop
  | mk (x : S25) (h : value_form.b x.f0 x.f1 x.f2 x.f3.length x.f4.length = true) (k : ∀ y ∈ x.f3, Frm y) : Frm x
/-- Of one value, at every depth and weight so far: both tell the same, or both refuse. -/
def Good (x : S25) : Prop := ∀ ar D W : Int, 0 ≤ ar → ar ≤ 8 → 0 ≤ D → D ≤ 8 → 0 ≤ W → W ≤ 4096 →
  (∃ D' W' d : Int, Ev (fun k => value_measure.w k x.f0 x.f1 x.f2 x.f3 x.f4 ar D W) (true, D', W') ∧ Ev (fun k => scrupleref03_weighed.f k x.f0 x.f1 x.f2 x.f3 x.f4 ar W) W' ∧
    Ev (fun k => scrupleref03_deep.f k x.f0 x.f1 x.f2 x.f3 x.f4) d ∧ D' = mx D (ar + d) ∧ 1 ≤ d ∧ D' ≤ 8 ∧ W < W' ∧ W' ≤ 2048 ∧ Frm x) ∨
  (∃ D' W' : Int, Ev (fun k => value_measure.w k x.f0 x.f1 x.f2 x.f3 x.f4 ar D W) (false, D', W') ∧ Ev (fun k => scrupleref03_weighed.f k x.f0 x.f1 x.f2 x.f3 x.f4 ar W) 2049)

theorem loop_eq (f0 f1 : Int) (f2 : ByteArray) (f3 : List S25) (f4 : List ByteArray) (hg : ∀ y ∈ f3, Good y) (h3 : f3.length ≤ 9223372036854775807) (h45 : f0 = 5 → f4.length = f3.length)
    (h4 : ∀ s ∈ f4, s.size ≤ 9223372036854775807) (ar D0 : Int) (ha : 0 ≤ ar) (hb : ar ≤ 7) (hd0 : 0 ≤ D0) :
    ∀ (rem i : Nat), i + rem = f3.length → ∀ D W e : Int, D = mx D0 (ar + 1 + e) → D ≤ 8 → 0 ≤ e → 0 ≤ W → W ≤ 2048 →
    (∃ D' W' d : Int, Ev (fun k => value_measure.l k f0 f1 f2 f3 f4 ar D W (i : Int)) (true, D', W') ∧ Ev (fun k => scrupleref03_weighed.l0 k ar 2049 W (i : Int) f0 f1 f2 f3 f4) W' ∧
      Ev (fun k => scrupleref03_deep.l0 k e (i : Int) f0 f1 f2 f3 f4) d ∧ D' = mx D0 (ar + d) ∧ 1 ≤ d ∧ D' ≤ 8 ∧ W ≤ W' ∧ W' ≤ 2048 ∧ ∀ y ∈ f3.drop i, Frm y) ∨
    (∃ D' W' : Int, Ev (fun k => value_measure.l k f0 f1 f2 f3 f4 ar D W (i : Int)) (false, D', W') ∧ Ev (fun k => scrupleref03_weighed.l0 k ar 2049 W (i : Int) f0 f1 f2 f3 f4) 2049) := by
  intro rem
  induction rem with
  | zero =>
    intro i hi D W e hD hD8 he hW0 hW1
    left
    have c : ¬ ((i : Int) < (f3.length : Int)) := by omega
    have he8 : e ≤ 8 := by rw [hD, mx_eq] at hD8; split at hD8 <;> omega
    refine ⟨D, W, e + 1, ?_, ?_, ?_, ?_, by omega, hD8, by omega, hW1, fun y hy => by rw [List.drop_eq_nil_of_le (by omega)] at hy; simp at hy⟩
    · exact Ev.step Ev.const (fun k => by rw [value_measure.l, if_neg c, decide_eq_true hW1])
    · refine Ev.step (h := fun k => scrupleref03_weighed.j3 k ar 2049 W (i : Int) false f0 f1 f2 f3 f4) ?_ (fun k => by rw [scrupleref03_weighed.l0, if_neg c])
      exact Ev.step Ev.const (fun k => by rw [scrupleref03_weighed.j3, if_neg (by simp), if_neg (by omega)])
    · exact Ev.step Ev.const (fun k => by rw [scrupleref03_deep.l0, if_neg c, w64 _ (by omega) (by omega)])
    · rw [hD, show ar + 1 + e = ar + (e + 1) from by omega]
  | succ rem ih =>
    intro i hi D W e hD hD8 he hW0 hW1
    have c : (i : Int) < (f3.length : Int) := by omega
    have p : (0 : Int) ≤ (i : Int) := by omega
    have ei : wrap64 ((i : Int) + 1) = ((i + 1 : Nat) : Int) := by rw [w64 _ (by omega) (by omega)]; omega
    have ea : wrap64 (ar + 1) = ar + 1 := w64 _ (by omega) (by omega)
    have hD0' : 0 ≤ D := by rw [hD, mx_eq]; split <;> omega
    have hmem : rd_T25 f3 (i : Int) ∈ f3 := by
      have hl : i < f3.length := by omega
      unfold rd_T25
      rw [show ((i : Int)).toNat = i from by omega, List.getD_eq_getElem?_getD, List.getElem?_eq_getElem hl]
      exact List.getElem_mem hl
    have hgx := hg _ hmem
    have hdrop : Frm (rd_T25 f3 (i : Int)) → (∀ y ∈ f3.drop (i + 1), Frm y) → ∀ y ∈ f3.drop i, Frm y := by
      intro h1 h2 y hy
      have hl : i < f3.length := by omega
      rw [List.drop_eq_getElem_cons hl] at hy
      rcases List.mem_cons.1 hy with rfl | hy
      · have e : rd_T25 f3 (i : Int) = f3[i] := by
          unfold rd_T25
          rw [show ((i : Int)).toNat = i from by omega, List.getD_eq_getElem?_getD, List.getElem?_eq_getElem hl]; rfl
        rwa [e] at h1
      · exact h2 y hy
    generalize hx : rd_T25 f3 (i : Int) = x at hgx hdrop
    -- the child, at a weight V
    have child : ∀ V : Int, 0 ≤ V → V ≤ 4096 → W ≤ V →
        (∃ D' W' d : Int, Ev (fun k => (value_measure.w k x.f0 x.f1 x.f2 x.f3 x.f4 (ar + 1) D V).bind fun r => if r.1 = true then value_measure.l k f0 f1 f2 f3 f4 ar r.2.1 r.2.2 ((i + 1 : Nat) : Int) else some (false, r.2.1, r.2.2)) (true, D', W') ∧
          Ev (fun k => (scrupleref03_weighed.f k x.f0 x.f1 x.f2 x.f3 x.f4 (ar + 1) V).bind fun t => scrupleref03_weighed.l0 k ar 2049 t ((i + 1 : Nat) : Int) f0 f1 f2 f3 f4) W' ∧
          Ev (fun k => (scrupleref03_deep.f k x.f0 x.f1 x.f2 x.f3 x.f4).bind fun t => scrupleref03_deep.l0 k (mx e t) ((i + 1 : Nat) : Int) f0 f1 f2 f3 f4) d ∧ D' = mx D0 (ar + d) ∧ 1 ≤ d ∧ D' ≤ 8 ∧ W ≤ W' ∧ W' ≤ 2048 ∧ ∀ y ∈ f3.drop i, Frm y) ∨
        (∃ D' W' : Int, Ev (fun k => (value_measure.w k x.f0 x.f1 x.f2 x.f3 x.f4 (ar + 1) D V).bind fun r => if r.1 = true then value_measure.l k f0 f1 f2 f3 f4 ar r.2.1 r.2.2 ((i + 1 : Nat) : Int) else some (false, r.2.1, r.2.2)) (false, D', W') ∧
          Ev (fun k => (scrupleref03_weighed.f k x.f0 x.f1 x.f2 x.f3 x.f4 (ar + 1) V).bind fun t => scrupleref03_weighed.l0 k ar 2049 t ((i + 1 : Nat) : Int) f0 f1 f2 f3 f4) 2049) := by
      intro V hV0 hV1 hWV
      rcases hgx (ar + 1) D V (by omega) (by omega) hD0' hD8 hV0 hV1 with ⟨D1, W1, d1, m1, r1, q1, hD1, hd1, hD18, hW1', hW18, F1⟩ | ⟨D1, W1, m1, r1⟩
      · have hD1' : D1 = mx D0 (ar + 1 + mx e d1) := by
          rw [hD1, hD]; simp only [mx_eq]; repeat' split <;> omega
        rcases ih (i + 1) (by omega) D1 W1 (mx e d1) hD1' hD18 (by rw [mx_eq]; split <;> omega) (by omega) hW18 with ⟨D2, W2, d2, m2, r2, q2, hD2, hd2, hD28, hW2, hW28, F2⟩ | ⟨D2, W2, m2, r2⟩
        · left
          exact ⟨D2, W2, d2, Ev.bind m1 (by simpa using m2), Ev.bind r1 r2, Ev.bind q1 q2, hD2, hd2, hD28, by omega, hW28, hdrop F1 F2⟩
        · right
          exact ⟨D2, W2, Ev.bind m1 (by simpa using m2), Ev.bind r1 r2⟩
      · right
        refine ⟨D1, W1, Ev.bind m1 (by simpa using Ev.const), Ev.bind r1 ?_⟩
        by_cases c' : ((i + 1 : Nat) : Int) < (f3.length : Int)
        · refine Ev.step (h := fun k => scrupleref03_weighed.j3 k ar 2049 2049 ((i + 1 : Nat) : Int) false f0 f1 f2 f3 f4) ?_ (fun k => by rw [scrupleref03_weighed.l0, if_pos c']; rfl)
          exact Ev.step Ev.const (fun k => by rw [scrupleref03_weighed.j3, if_neg (by simp), if_pos (by omega)])
        · refine Ev.step (h := fun k => scrupleref03_weighed.j3 k ar 2049 2049 ((i + 1 : Nat) : Int) false f0 f1 f2 f3 f4) ?_ (fun k => by rw [scrupleref03_weighed.l0, if_neg c'])
          exact Ev.step Ev.const (fun k => by rw [scrupleref03_weighed.j3, if_neg (by simp), if_pos (by omega)])
    have hdeep : ∀ k, scrupleref03_deep.l0 (k + 1) e (i : Int) f0 f1 f2 f3 f4 = (scrupleref03_deep.f k x.f0 x.f1 x.f2 x.f3 x.f4).bind fun t => scrupleref03_deep.l0 k (mx e t) ((i + 1 : Nat) : Int) f0 f1 f2 f3 f4 := fun k => by
      rw [scrupleref03_deep.l0, if_pos c, if_pos p, ei, hx]
    have hl0 : ∀ k, scrupleref03_weighed.l0 (k + 1) ar 2049 W (i : Int) f0 f1 f2 f3 f4 = scrupleref03_weighed.j3 k ar 2049 W (i : Int) true f0 f1 f2 f3 f4 := fun k => by
      rw [scrupleref03_weighed.l0, if_pos c, decide_eq_true (by omega)]
    by_cases k5 : f0 = 5
    · have q4 : (i : Int) < (f4.length : Int) := by have := h45 k5; omega
      have hki : rdOf ByteArray.empty f4 (i : Int) ∈ f4 := by
        have hl : i < f4.length := by omega
        unfold rdOf
        rw [show ((i : Int)).toNat = i from by omega, List.getD_eq_getElem?_getD, List.getElem?_eq_getElem hl]
        exact List.getElem_mem hl
      have hks := h4 _ hki
      by_cases g1 : 32 < ((rdOf ByteArray.empty f4 (i : Int)).size : Int)
      · right
        refine ⟨D, W, Ev.step Ev.const (fun k => by rw [value_measure.l, if_pos c, if_pos p, if_pos k5, if_pos q4, if_pos g1]), ?_⟩
        refine Ev.step ?_ hl0
        exact Ev.step Ev.const (fun k => by rw [scrupleref03_weighed.j3, if_pos rfl, if_pos k5, if_pos p, if_pos q4, if_pos (by omega)])
      have es : wrap64 (wrap64 (W + 1) + ((rdOf ByteArray.empty f4 (i : Int)).size : Int)) = W + 1 + ((rdOf ByteArray.empty f4 (i : Int)).size : Int) := by
        rw [w64 (W + 1) (by omega) (by omega), w64 _ (by omega) (by omega)]
      have et : wrap64 (W + wrap64 (1 + ((rdOf ByteArray.empty f4 (i : Int)).size : Int))) = W + 1 + ((rdOf ByteArray.empty f4 (i : Int)).size : Int) := by
        rw [w64 (1 + ((rdOf ByteArray.empty f4 (i : Int)).size : Int)) (by omega) (by omega), w64 _ (by omega) (by omega)]; omega
      by_cases g2 : (0 : Int) < (i : Int)
      · have ej : wrap64 ((i : Int) - 1) = (i : Int) - 1 := w64 _ (by omega) (by omega)
        cases g3 : Op.bytesLess ((rdOf ByteArray.empty f4 ((i : Int) - 1)).toList) ((rdOf ByteArray.empty f4 (i : Int)).toList) with
        | false =>
          right
          refine ⟨D, W, Ev.step Ev.const (fun k => by rw [value_measure.l, if_pos c, if_pos p, if_pos k5, if_pos q4, if_neg g1, if_pos ⟨g2, g3⟩]), ?_⟩
          refine Ev.step ?_ hl0
          exact Ev.step Ev.const (fun k => by rw [scrupleref03_weighed.j3, if_pos rfl, if_pos k5, if_pos p, if_pos q4, if_neg (by omega), if_pos (by omega), ej, if_pos (by omega), if_pos (by omega), if_neg (by simp [g3])])
        | true =>
          have hm : ∀ k, value_measure.l (k + 1) f0 f1 f2 f3 f4 ar D W (i : Int) = (value_measure.w k x.f0 x.f1 x.f2 x.f3 x.f4 (ar + 1) D (W + 1 + ((rdOf ByteArray.empty f4 (i : Int)).size : Int))).bind fun r => if r.1 = true then value_measure.l k f0 f1 f2 f3 f4 ar r.2.1 r.2.2 ((i + 1 : Nat) : Int) else some (false, r.2.1, r.2.2) := fun k => by
            rw [value_measure.l, if_pos c, if_pos p, if_pos k5, if_pos q4, if_neg g1, if_neg (by simp [g3]), hx, ea, et, ei]
          have hj : ∀ k, scrupleref03_weighed.j3 (k + 1) ar 2049 W (i : Int) true f0 f1 f2 f3 f4 = (scrupleref03_weighed.f k x.f0 x.f1 x.f2 x.f3 x.f4 (ar + 1) (W + 1 + ((rdOf ByteArray.empty f4 (i : Int)).size : Int))).bind fun t => scrupleref03_weighed.l0 k ar 2049 t ((i + 1 : Nat) : Int) f0 f1 f2 f3 f4 := fun k => by
            rw [scrupleref03_weighed.j3, if_pos rfl, if_pos k5, if_pos p, if_pos q4, if_neg (by omega), if_pos (by omega), ej, if_pos (by omega), if_pos (by omega), if_pos g3, if_pos c, hx, ea, es, ei]
          rcases child (W + 1 + ((rdOf ByteArray.empty f4 (i : Int)).size : Int)) (by omega) (by omega) (by omega) with ⟨D', W', d, a1, a2, a3, a4⟩ | ⟨D', W', a1, a2⟩
          · exact Or.inl ⟨D', W', d, Ev.step a1 hm, Ev.step (Ev.step a2 hj) hl0, Ev.step a3 hdeep, a4⟩
          · exact Or.inr ⟨D', W', Ev.step a1 hm, Ev.step (Ev.step a2 hj) hl0⟩
      · have hm : ∀ k, value_measure.l (k + 1) f0 f1 f2 f3 f4 ar D W (i : Int) = (value_measure.w k x.f0 x.f1 x.f2 x.f3 x.f4 (ar + 1) D (W + 1 + ((rdOf ByteArray.empty f4 (i : Int)).size : Int))).bind fun r => if r.1 = true then value_measure.l k f0 f1 f2 f3 f4 ar r.2.1 r.2.2 ((i + 1 : Nat) : Int) else some (false, r.2.1, r.2.2) := fun k => by
          rw [value_measure.l, if_pos c, if_pos p, if_pos k5, if_pos q4, if_neg g1, if_neg (fun h => g2 h.1), hx, ea, et, ei]
        have hj : ∀ k, scrupleref03_weighed.j3 (k + 1) ar 2049 W (i : Int) true f0 f1 f2 f3 f4 = (scrupleref03_weighed.f k x.f0 x.f1 x.f2 x.f3 x.f4 (ar + 1) (W + 1 + ((rdOf ByteArray.empty f4 (i : Int)).size : Int))).bind fun t => scrupleref03_weighed.l0 k ar 2049 t ((i + 1 : Nat) : Int) f0 f1 f2 f3 f4 := fun k => by
          rw [scrupleref03_weighed.j3, if_pos rfl, if_pos k5, if_pos p, if_pos q4, if_neg (by omega), if_neg (by omega), if_pos c, hx, ea, es, ei]
        rcases child (W + 1 + ((rdOf ByteArray.empty f4 (i : Int)).size : Int)) (by omega) (by omega) (by omega) with ⟨D', W', d, a1, a2, a3, a4⟩ | ⟨D', W', a1, a2⟩
        · exact Or.inl ⟨D', W', d, Ev.step a1 hm, Ev.step (Ev.step a2 hj) hl0, Ev.step a3 hdeep, a4⟩
        · exact Or.inr ⟨D', W', Ev.step a1 hm, Ev.step (Ev.step a2 hj) hl0⟩
    · have hm : ∀ k, value_measure.l (k + 1) f0 f1 f2 f3 f4 ar D W (i : Int) = (value_measure.w k x.f0 x.f1 x.f2 x.f3 x.f4 (ar + 1) D W).bind fun r => if r.1 = true then value_measure.l k f0 f1 f2 f3 f4 ar r.2.1 r.2.2 ((i + 1 : Nat) : Int) else some (false, r.2.1, r.2.2) := fun k => by
        rw [value_measure.l, if_pos c, if_pos p, if_neg k5, hx, ea, ei]
      have hj : ∀ k, scrupleref03_weighed.j3 (k + 1) ar 2049 W (i : Int) true f0 f1 f2 f3 f4 = (scrupleref03_weighed.f k x.f0 x.f1 x.f2 x.f3 x.f4 (ar + 1) W).bind fun t => scrupleref03_weighed.l0 k ar 2049 t ((i + 1 : Nat) : Int) f0 f1 f2 f3 f4 := fun k => by
        rw [scrupleref03_weighed.j3, if_pos rfl, if_neg k5, if_pos p, if_pos c, hx, ea, ei]
      rcases child W hW0 (by omega) (by omega) with ⟨D', W', d, a1, a2, a3, a4⟩ | ⟨D', W', a1, a2⟩
      · exact Or.inl ⟨D', W', d, Ev.step a1 hm, Ev.step (Ev.step a2 hj) hl0, Ev.step a3 hdeep, a4⟩
      · exact Or.inr ⟨D', W', Ev.step a1 hm, Ev.step (Ev.step a2 hj) hl0⟩

theorem length_toList_ (b : ByteArray) : b.toList.length = b.size := by
  rw [Lib.toList_data]; simp
theorem good (x : S25) (hx : Val x) : Good x := by
  induction hx with
  | mk x a0 b0 a1 b1 h2 h3 h4 k4 _ ih =>
  intro ar D W ha0 ha1 hD0 hD1 hW0 hW1
  have ea : wrap64 (ar + 1) = ar + 1 := w64 _ (by omega) (by omega)
  have ew : wrap64 (W + wrap64 (1 + mn (x.f2.size : Int) 2048)) = W + 1 + mn (x.f2.size : Int) 2048 := by
    have hm : 0 ≤ mn (x.f2.size : Int) 2048 ∧ mn (x.f2.size : Int) 2048 ≤ 2048 := by rw [mn_eq]; split <;> omega
    rw [w64 (1 + mn (x.f2.size : Int) 2048) (by omega) (by omega), w64 _ (by omega) (by omega)]; omega
  have hpl : ∀ k, scrupleref03_weighed.f (k + 1) x.f0 x.f1 x.f2 x.f3 x.f4 ar W = (if value_form.b x.f0 x.f1 x.f2 x.f3.length x.f4.length = true then (if ar ≥ 8 then (scrupleref03_weighed.j0 k ar W 2049 true x.f0 x.f1 x.f2 x.f3 x.f4) else (scrupleref03_weighed.j0 k ar W 2049 (decide (W > 2048)) x.f0 x.f1 x.f2 x.f3 x.f4)) else (scrupleref03_weighed.j0 k ar W 2049 true x.f0 x.f1 x.f2 x.f3 x.f4)) := fun k => by
    rw [scrupleref03_weighed.f, plain_eq _ _ _ _ _ h3 h4]; rfl
  have hno : Ev (fun k => scrupleref03_weighed.j0 k ar W 2049 true x.f0 x.f1 x.f2 x.f3 x.f4) 2049 := Ev.step Ev.const (fun k => by rw [scrupleref03_weighed.j0, if_pos rfl])
  -- refused by the form
  cases hf : value_form.b x.f0 x.f1 x.f2 x.f3.length x.f4.length with
  | false =>
    right
    refine ⟨mx D (ar + 1), W + 1 + mn (x.f2.size : Int) 2048, Ev.step Ev.const (fun k => ?_), Ev.step hno (fun k => by rw [hpl, hf, if_neg (by simp)])⟩
    rw [value_measure.w, ea, ew]
    split
    · rfl
    · split
      · rfl
      · rw [value_form.f, hf]; rfl
  | true =>
  obtain ⟨q5, q3, q30⟩ := form_len h3 h4 hf
  by_cases hd : 8 < mx D (ar + 1)
  · have : ar ≥ 8 := by rw [mx_eq] at hd; split at hd <;> omega
    right
    exact ⟨_, _, Ev.step Ev.const (fun k => by rw [value_measure.w, ea, ew, if_pos hd]), Ev.step hno (fun k => by rw [hpl, hf, if_pos rfl, if_pos this])⟩
  have ha7 : ar ≤ 7 := by rw [mx_eq] at hd; split at hd <;> omega
  by_cases hW2 : W > 2048
  · right
    have hm : 0 ≤ mn (x.f2.size : Int) 2048 := by rw [mn_eq]; split <;> omega
    exact ⟨_, _, Ev.step Ev.const (fun k => by rw [value_measure.w, ea, ew, if_neg hd, if_pos (by omega)]), Ev.step hno (fun k => by rw [hpl, hf, if_pos rfl, if_neg (by omega), decide_eq_true hW2])⟩
  have hfw : ∀ k, scrupleref03_weighed.f (k + 1) x.f0 x.f1 x.f2 x.f3 x.f4 ar W = scrupleref03_weighed.j0 k ar W 2049 false x.f0 x.f1 x.f2 x.f3 x.f4 := fun k => by
    rw [hpl, hf, if_pos rfl, if_neg (by omega), decide_eq_false hW2]
  have hm : 0 ≤ mn (x.f2.size : Int) 2048 ∧ mn (x.f2.size : Int) 2048 ≤ 2048 := by rw [mn_eq]; split <;> omega
  by_cases hs : x.f0 = 3 ∧ (x.f2.size : Int) > 2048
  · right
    have e2 : mn (x.f2.size : Int) 2048 = 2048 := by rw [mn_eq, if_pos (by omega)]
    exact ⟨_, _, Ev.step Ev.const (fun k => by rw [value_measure.w, ea, ew, if_neg hd, if_pos (by omega)]), Ev.step (Ev.step Ev.const (fun k => by rw [scrupleref03_weighed.j0, if_neg (by simp), if_pos hs.1, if_pos hs.2])) hfw⟩
  have hj0 : ∀ k, scrupleref03_weighed.j0 (k + 1) ar W 2049 false x.f0 x.f1 x.f2 x.f3 x.f4 = scrupleref03_weighed.j1 k ar 2049 (W + 1 + mn (x.f2.size : Int) 2048) x.f0 x.f1 x.f2 x.f3 x.f4 := fun k => by
    by_cases k3 : x.f0 = 3
    · have hs2 : ¬ (x.f2.size : Int) > 2048 := fun h => hs ⟨k3, h⟩
      rw [scrupleref03_weighed.j0, if_neg (by simp), if_pos k3, if_neg hs2, w64 (W + 1) (by omega) (by omega), w64 _ (by omega) (by omega)]
      rw [mn_eq, if_neg (by omega)]
    · have h0 : x.f2.size = 0 := by
        have := q3 k3
        rw [← length_toList_]
        rw [this]; rfl
      rw [scrupleref03_weighed.j0, if_neg (by simp), if_neg k3, w64 (W + 1) (by omega) (by omega)]
      rw [mn_eq, if_neg (by omega), h0]
      simp
  have hj1 : ∀ k, scrupleref03_weighed.j1 (k + 1) ar 2049 (W + 1 + mn (x.f2.size : Int) 2048) x.f0 x.f1 x.f2 x.f3 x.f4 = scrupleref03_weighed.l0 k ar 2049 (W + 1 + mn (x.f2.size : Int) 2048) ((0 : Nat) : Int) x.f0 x.f1 x.f2 x.f3 x.f4 := fun k => by
    rw [scrupleref03_weighed.j1]; rfl
  generalize hV : W + 1 + mn (x.f2.size : Int) 2048 = V at *
  by_cases hV2 : 2048 < V
  · right
    refine ⟨_, _, Ev.step Ev.const (fun k => by rw [value_measure.w, ea, ew, if_neg hd, if_pos hV2]), Ev.step (Ev.step (Ev.step ?_ hj1) hj0) hfw⟩
    refine Ev.step (h := fun k => scrupleref03_weighed.j3 k ar 2049 V ((0 : Nat) : Int) false x.f0 x.f1 x.f2 x.f3 x.f4) ?_ (fun k => ?_)
    · exact Ev.step Ev.const (fun k => by rw [scrupleref03_weighed.j3, if_neg (by simp), if_pos (by omega)])
    · rw [scrupleref03_weighed.l0]
      split
      · rw [decide_eq_false (by omega)]
      · rfl
  have hmw : ∀ k, value_measure.w (k + 1) x.f0 x.f1 x.f2 x.f3 x.f4 ar D W = value_measure.l k x.f0 x.f1 x.f2 x.f3 x.f4 ar (mx D (ar + 1)) V ((0 : Nat) : Int) := fun k => by
    rw [value_measure.w, ea, ew, if_neg hd, if_neg hV2, value_form.f, hf]; rfl
  have hdp : ∀ k, scrupleref03_deep.f (k + 1) x.f0 x.f1 x.f2 x.f3 x.f4 = scrupleref03_deep.l0 k 0 ((0 : Nat) : Int) x.f0 x.f1 x.f2 x.f3 x.f4 := fun k => by
    rw [scrupleref03_deep.f]; rfl
  rcases loop_eq x.f0 x.f1 x.f2 x.f3 x.f4 ih h3 q5 k4 ar D ha0 ha7 hD0 x.f3.length 0 (by omega) (mx D (ar + 1)) V 0 (by simp) (by omega) (by omega) (by omega) (by omega) with ⟨D', W', d, a1, a2, a3, a4, a5, a6, a7, a8, a9⟩ | ⟨D', W', a1, a2⟩
  · exact Or.inl ⟨D', W', d, Ev.step a1 hmw, Ev.step (Ev.step (Ev.step a2 hj1) hj0) hfw, Ev.step a3 hdp, a4, a5, a6, by omega, a8, Frm.mk x hf (by simpa using a9)⟩
  · exact Or.inr ⟨D', W', Ev.step a1 hmw, Ev.step (Ev.step (Ev.step a2 hj1) hj0) hfw⟩
end Go.Proofs.Ythjeakmndoknpaa.X
