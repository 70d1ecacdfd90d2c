/- A value that comes in (a struct, nested in itself) is read whole: the print's kind and the bounds of all its parts. -/
import Derived.Test.YthjeakmndoknpaaXx0
import Derived.Lib.SmallJoins
namespace Go.Proofs.Ythjeakmndoknpaa.X
open Go.ChangeShapes Go.WideShapes Go.ChangeAt Go.RowKit Go.Proofs.YthjeakmndoknpaaW.PrintWords Go.Proofs.YthjeakmndoknpaaW

/-- Bounds of a value's parts, all the way down. -/
inductive Val : S25 → Prop
  | mk (x : S25) (a0 : -9223372036854775808 ≤ x.f0) (b0 : x.f0 ≤ 9223372036854775807) (a1 : -9223372036854775808 ≤ x.f1) (b1 : x.f1 ≤ 9223372036854775807)
      (h2 : x.f2.size ≤ 9223372036854775807) (h3 : x.f3.length ≤ 9223372036854775807) (h4 : x.f4.length ≤ 9223372036854775807)
      (k4 : ∀ s ∈ x.f4, s.size ≤ 9223372036854775807) (k3 : ∀ y ∈ x.f3, Val y) : Val x

theorem mapM_at {α β : Type} {f : α → Option β} : ∀ {l : List α} {r : List β}, l.mapM f = some r → r.length = l.length ∧ ∀ (i : Nat) (x : α), l[i]? = some x → f x = r[i]?
  | [], r, h => by
    simp at h; subst h; exact ⟨rfl, fun i x hx => by simp at hx⟩
  | a :: l, r, h => by
    simp only [List.mapM_cons, Option.bind_eq_bind, Option.pure_def, Option.bind_eq_some_iff] at h
    obtain ⟨y, hy, ys, hys, h⟩ := h
    obtain rfl := Option.some.inj h
    obtain ⟨h1, h2⟩ := mapM_at hys
    refine ⟨by simp [h1], fun i x hx => ?_⟩
    cases i with
    | zero => simp at hx; subst hx; simpa using hy
    | succ i => simp at hx; simpa using h2 i x hx

theorem wf_i64 {n : Int} (h : (Lit.int .i64 n).wf = true) : -9223372036854775808 ≤ n ∧ n ≤ 9223372036854775807 := by
  have h1 : (decide (IntKind.i64.min ≤ n) && decide (n ≤ IntKind.i64.max)) = true := h
  have e0 : IntKind.i64.min = -9223372036854775808 := by decide
  have e1 : IntKind.i64.max = 9223372036854775807 := by decide
  rw [e0, e1] at h1
  simpa using h1
theorem cells_at {w : World} {a : Addr} {n : Nat} {cs : List Value} (h : w.cells? 0 a n = some cs) : cs.length = n ∧ ∀ (i : Nat) (u : Value), cs[i]? = some u → w.cell? (a.add i) = some u := by
  unfold World.cells? at h
  rw [if_pos (Nat.zero_le _)] at h
  obtain ⟨h1, h2⟩ := mapM_at h
  rw [List.length_range] at h1
  refine ⟨h1, fun i u hu => ?_⟩
  have hi : i < n := by have := (List.getElem?_eq_some_iff.1 hu).1; omega
  rw [h2 i i (by simp [hi]), hu]

theorem choose_list {α β : Type} (p : Nat → α → Prop) : ∀ (n : Nat), (∀ i, i < n → ∃ x, p i x) → ∃ xs : List α, xs.length = n ∧ ∀ (i : Nat) (x : α), xs[i]? = some x → p i x
  | 0, _ => ⟨[], rfl, fun i x h => by simp at h⟩
  | n + 1, h => by
    obtain ⟨xs, hl, hx⟩ := choose_list (β := β) p n (fun i hi => h i (by omega))
    obtain ⟨y, hy⟩ := h n (by omega)
    refine ⟨xs ++ [y], by simp [hl], fun i x hq => ?_⟩
    by_cases hi : i < n
    · rw [List.getElem?_append_left (by omega)] at hq
      exact hx i x hq
    · rw [List.getElem?_append_right (by omega)] at hq
      have : i - xs.length = 0 := by
        have := (List.getElem?_eq_some_iff.1 hq).1
        simp at this; omega
      rw [this] at hq
      simp at hq
      subst hq
      obtain rfl : i = n := by omega
      exact hy

section
variable {H : Type} {enc : TypeId × Value → H} {P : Program} {w : World} {held : Bool} {spare : Nat → Bool}
theorem row_open {α : Type} (d : Kd α) (good : α → Prop) {t e : TypeId} (ht : P.underlying t = some (.slice e)) (hsz : P.cellsOf e = d.sz) (fuel : Nat)
    (hel : ∀ n, n < fuel → ∀ cs y, DataW.trod enc P w 0 spare held n e cs = some y → ∃ x, d.K w x cs ∧ good x) {cs : List Value} {y : DataW H × List MemPlace} (h : DataW.trod enc P w 0 spare held fuel t cs = some y) :
    ∃ A xs c, cs = [.slice A xs.length c] ∧ xs.length ≤ c ∧ xs.length ≤ 9223372036854775807 ∧ d.C w A xs.length xs ∧ ∀ x ∈ xs, good x := by
  rcases DataW.trod_slice ht h with ⟨rfl, _⟩ | ⟨a, len, cap, elems, rest, n, rfl, rfl, _, _, hlc, hcm, hlen, hel0, _, _⟩
  · exact ⟨none, [], 0, rfl, Nat.le_refl _, by simp, ⟨rfl, by simp, fun h => absurd h (by simp)⟩, fun x hx => by simp at hx⟩
  · obtain ⟨xs, hxl, hx⟩ := choose_list (β := Unit) (fun i (x : α) => good x ∧ ∃ c, c.length = d.sz ∧ d.K w x c ∧ ∀ (j : Nat) (u : Value), c[j]? = some u → w.cell? (a.add (i * d.sz + j)) = some u) len (fun i hi => by
      have h1 := hel0 i hi
      have hi2 : i < elems.length := by omega
      rw [List.getElem?_eq_getElem hi2] at h1
      obtain ⟨c, hc, hy⟩ := Option.bind_eq_some_iff.mp h1
      obtain ⟨x, hK, hg⟩ := hel n (by omega) c _ hy
      obtain ⟨c1, c2⟩ := cells_at hc
      refine ⟨x, hg, c, by omega, hK, fun j u hu => ?_⟩
      have := c2 j u hu
      rw [hsz] at this
      rwa [Addr.add_add] at this)
    have hM : maxLen = 9223372036854775807 := by decide
    refine ⟨some a, xs, cap, by rw [hxl], by omega, by omega, ⟨rfl, by omega, fun _ => ⟨a, rfl, fun j p hp => ?_⟩⟩, fun x hq => ?_⟩
    · obtain ⟨_, c, h1, h2, h3⟩ := hx j p hp
      exact ⟨c, h1, h2, h3⟩
    · obtain ⟨j, hj, rfl⟩ := List.getElem_of_mem hq
      exact (hx j _ (List.getElem?_eq_getElem hj)).1
end

section
variable {H : Type} {enc : TypeId × Value → H} {w : World} {held : Bool} {spare : Nat → Bool}
set_option maxRecDepth 100000 in
theorem val_open : ∀ (fuel : Nat) (cs : List Value) (y : DataW H × List MemPlace), DataW.trod enc Try.prog w 0 spare held fuel 25 cs = some y → ∃ x, k25.K w x cs ∧ Val x := by
  intro fuel
  induction fuel using Nat.strongRecOn with
  | _ fuel ih =>
  intro cs y h
  obtain ⟨xs, n, rfl, rfl, hl, hxs, hf⟩ := DataW.trod_struct Try.underlying25 h
  have hl5 : cs.length = 5 := hl
  obtain ⟨c0, c1, c2, c3, c4, rfl⟩ : ∃ c0 c1 c2 c3 c4, cs = [c0, c1, c2, c3, c4] := by
    match cs, hl5 with
    | [c0, c1, c2, c3, c4], _ => exact ⟨c0, c1, c2, c3, c4, rfl⟩
  have hx : xs.length = 5 := hxs
  obtain ⟨y0, y1, y2, y3, y4, rfl⟩ : ∃ c0 c1 c2 c3 c4, xs = [c0, c1, c2, c3, c4] := by
    match xs, hx with
    | [c0, c1, c2, c3, c4], _ => exact ⟨c0, c1, c2, c3, c4, rfl⟩
  have g0 := hf 0 _ rfl
  have g1 := hf 1 _ rfl
  have g2 := hf 2 _ rfl
  have g3 := hf 3 _ rfl
  have g4 := hf 4 _ rfl
  clear hf
  have e0 : DataW.trod enc Try.prog w 0 spare held n 3 [c0] = some y0 := g0
  have e1 : DataW.trod enc Try.prog w 0 spare held n 2 [c1] = some y1 := g1
  have e2 : DataW.trod enc Try.prog w 0 spare held n 9 [c2] = some y2 := g2
  have e3 : DataW.trod enc Try.prog w 0 spare held n 22 [c3] = some y3 := g3
  have e4 : DataW.trod enc Try.prog w 0 spare held n 23 [c4] = some y4 := g4
  obtain ⟨n0, p0, _, w0⟩ := DataW.trod_int Try.underlying3 e0
  obtain ⟨n1, p1, _, w1⟩ := DataW.trod_int Try.underlying2 e1
  obtain ⟨s2, p2, _, w2⟩ := DataW.trod_string Try.underlying9 e2
  obtain ⟨A3, xs3, k3, p3, l3, m3, C3, V3⟩ := row_open k25 Val Try.underlying22 (by kernel_rfl) n (fun m hm cs y hy => ih m (by omega) cs y hy) e3
  obtain ⟨A4, xs4, k4, p4, l4, m4, C4, V4⟩ := row_open Kd.string (fun s => s.size ≤ 9223372036854775807) Try.underlying23 (by kernel_rfl) n (fun m hm cs y hy => by
    obtain ⟨s, q, _, z⟩ := DataW.trod_string Try.underlying9 hy
    exact ⟨s, q, z⟩) e4
  cases p0; cases p1; cases p2; cases p3; cases p4
  refine ⟨⟨n0, n1, s2, xs3, xs4⟩, k25_mk w ⟨n0, n1, s2, xs3, xs4⟩ l3 C3 l4 C4, Val.mk _ ?_ ?_ ?_ ?_ w2 m3 m4 V4 V3⟩
  all_goals (have z0 := wf_i64 w0; have z1 := wf_i64 w1; dsimp only; omega)
end
end Go.Proofs.Ythjeakmndoknpaa.X
