/- PlTakes: texts of this claim, one behind the other. -/
import Derived.Test.YtnkbobblnhaclaaXx0
import Derived.Lib.SmallJoins
import Derived.Test.YtnkbobblnhaclaaXWords
import Derived.Laws.BitsLemmas
import Derived.Test.YtnkbobblnhaclaaXxnum0
import Derived.Test.YtnkbobblnhaclaaXxscrupleref010
import Derived.Test.YtnkbobblnhaclaaXxscruplelaw04same
set_option linter.unusedVariables false
set_option linter.unusedSimpArgs false
/- A value that comes in (a struct, nested in itself) is read whole: the print's kind and the bounds of all its parts. -/
namespace Go.Proofs.Ytnkbobblnhaclaa.X
open Go.ChangeShapes Go.WideShapes Go.ChangeAt Go.RowKit Go.Proofs.YtnkbobblnhaclaaW.PrintWords Go.Proofs.YtnkbobblnhaclaaW

/-- Bounds of a value's parts, all the way down. -/
inductive Val : S25 → Prop
  | mk (x : S25) (a0 : -9223372036854775808 ≤ x.f0) (b0 : x.f0 ≤ 9223372036854775807) (a1 : -9223372036854775808 ≤ x.f1) (b1 : x.f1 ≤ 9223372036854775807)
      (h2 : x.f2.size ≤ 9223372036854775807) (h3 : x.f3.length ≤ 9223372036854775807) (h4 : x.f4.length ≤ 9223372036854775807)
      (k4 : ∀ s ∈ x.f4, s.size ≤ 9223372036854775807) (k3 : ∀ y ∈ x.f3, Val y) : Val x

theorem mapM_at {α β : Type} {f : α → Option β} : ∀ {l : List α} {r : List β}, l.mapM f = some r → r.length = l.length ∧ ∀ (i : Nat) (x : α), l[i]? = some x → f x = r[i]?
  | [], r, h => by
    simp at h; subst h; exact ⟨rfl, fun i x hx => by simp at hx⟩
  | a :: l, r, h => by
    simp only [List.mapM_cons, Option.bind_eq_bind, Option.pure_def, Option.bind_eq_some_iff] at h
    obtain ⟨y, hy, ys, hys, h⟩ := h
    obtain rfl := Option.some.inj h
    obtain ⟨h1, h2⟩ := mapM_at hys
    refine ⟨by simp [h1], fun i x hx => ?_⟩
    cases i with
    | zero => simp at hx; subst hx; simpa using hy
    | succ i => simp at hx; simpa using h2 i x hx

theorem wf_i64 {n : Int} (h : (Lit.int .i64 n).wf = true) : -9223372036854775808 ≤ n ∧ n ≤ 9223372036854775807 := by
  have h1 : (decide (IntKind.i64.min ≤ n) && decide (n ≤ IntKind.i64.max)) = true := h
  have e0 : IntKind.i64.min = -9223372036854775808 := by decide
  have e1 : IntKind.i64.max = 9223372036854775807 := by decide
  rw [e0, e1] at h1
  simpa using h1
theorem cells_at {w : World} {a : Addr} {n : Nat} {cs : List Value} (h : w.cells? 0 a n = some cs) : cs.length = n ∧ ∀ (i : Nat) (u : Value), cs[i]? = some u → w.cell? (a.add i) = some u := by
  unfold World.cells? at h
  rw [if_pos (Nat.zero_le _)] at h
  obtain ⟨h1, h2⟩ := mapM_at h
  rw [List.length_range] at h1
  refine ⟨h1, fun i u hu => ?_⟩
  have hi : i < n := by have := (List.getElem?_eq_some_iff.1 hu).1; omega
  rw [h2 i i (by simp [hi]), hu]

theorem choose_list {α β : Type} (p : Nat → α → Prop) : ∀ (n : Nat), (∀ i, i < n → ∃ x, p i x) → ∃ xs : List α, xs.length = n ∧ ∀ (i : Nat) (x : α), xs[i]? = some x → p i x
  | 0, _ => ⟨[], rfl, fun i x h => by simp at h⟩
  | n + 1, h => by
    obtain ⟨xs, hl, hx⟩ := choose_list (β := β) p n (fun i hi => h i (by omega))
    obtain ⟨y, hy⟩ := h n (by omega)
    refine ⟨xs ++ [y], by simp [hl], fun i x hq => ?_⟩
    by_cases hi : i < n
    · rw [List.getElem?_append_left (by omega)] at hq
      exact hx i x hq
    · rw [List.getElem?_append_right (by omega)] at hq
      have : i - xs.length = 0 := by
        have := (List.getElem?_eq_some_iff.1 hq).1
        simp at this; omega
      rw [this] at hq
      simp at hq
      subst hq
      obtain rfl : i = n := by omega
      exact hy

section
variable {H : Type} {enc : TypeId × Value → H} {P : Program} {w : World} {held : Bool} {spare : Nat → Bool}
theorem row_open {α : Type} (d : Kd α) (good : α → Prop) {t e : TypeId} (ht : P.underlying t = some (.slice e)) (hsz : P.cellsOf e = d.sz) (fuel : Nat)
    (hel : ∀ n, n < fuel → ∀ cs y, DataW.trod enc P w 0 spare held n e cs = some y → ∃ x, d.K w x cs ∧ good x) {cs : List Value} {y : DataW H × List MemPlace} (h : DataW.trod enc P w 0 spare held fuel t cs = some y) :
    ∃ A xs c, cs = [.slice A xs.length c] ∧ xs.length ≤ c ∧ xs.length ≤ 9223372036854775807 ∧ d.C w A xs.length xs ∧ ∀ x ∈ xs, good x := by
  rcases DataW.trod_slice ht h with ⟨rfl, _⟩ | ⟨a, len, cap, elems, rest, n, rfl, rfl, _, _, hlc, hcm, hlen, hel0, _, _⟩
  · exact ⟨none, [], 0, rfl, Nat.le_refl _, by simp, ⟨rfl, by simp, fun h => absurd h (by simp)⟩, fun x hx => by simp at hx⟩
  · obtain ⟨xs, hxl, hx⟩ := choose_list (β := Unit) (fun i (x : α) => good x ∧ ∃ c, c.length = d.sz ∧ d.K w x c ∧ ∀ (j : Nat) (u : Value), c[j]? = some u → w.cell? (a.add (i * d.sz + j)) = some u) len (fun i hi => by
      have h1 := hel0 i hi
      have hi2 : i < elems.length := by omega
      rw [List.getElem?_eq_getElem hi2] at h1
      obtain ⟨c, hc, hy⟩ := Option.bind_eq_some_iff.mp h1
      obtain ⟨x, hK, hg⟩ := hel n (by omega) c _ hy
      obtain ⟨c1, c2⟩ := cells_at hc
      refine ⟨x, hg, c, by omega, hK, fun j u hu => ?_⟩
      have := c2 j u hu
      rw [hsz] at this
      rwa [Addr.add_add] at this)
    have hM : maxLen = 9223372036854775807 := by decide
    refine ⟨some a, xs, cap, by rw [hxl], by omega, by omega, ⟨rfl, by omega, fun _ => ⟨a, rfl, fun j p hp => ?_⟩⟩, fun x hq => ?_⟩
    · obtain ⟨_, c, h1, h2, h3⟩ := hx j p hp
      exact ⟨c, h1, h2, h3⟩
    · obtain ⟨j, hj, rfl⟩ := List.getElem_of_mem hq
      exact (hx j _ (List.getElem?_eq_getElem hj)).1
end

section
variable {H : Type} {enc : TypeId × Value → H} {w : World} {held : Bool} {spare : Nat → Bool}
set_option maxRecDepth 100000 in
theorem val_open : ∀ (fuel : Nat) (cs : List Value) (y : DataW H × List MemPlace), DataW.trod enc Try.prog w 0 spare held fuel 25 cs = some y → ∃ x, k25.K w x cs ∧ Val x := by
  intro fuel
  induction fuel using Nat.strongRecOn with
  | _ fuel ih =>
  intro cs y h
  obtain ⟨xs, n, rfl, rfl, hl, hxs, hf⟩ := DataW.trod_struct Try.underlying25 h
  have hl5 : cs.length = 5 := hl
  obtain ⟨c0, c1, c2, c3, c4, rfl⟩ : ∃ c0 c1 c2 c3 c4, cs = [c0, c1, c2, c3, c4] := by
    match cs, hl5 with
    | [c0, c1, c2, c3, c4], _ => exact ⟨c0, c1, c2, c3, c4, rfl⟩
  have hx : xs.length = 5 := hxs
  obtain ⟨y0, y1, y2, y3, y4, rfl⟩ : ∃ c0 c1 c2 c3 c4, xs = [c0, c1, c2, c3, c4] := by
    match xs, hx with
    | [c0, c1, c2, c3, c4], _ => exact ⟨c0, c1, c2, c3, c4, rfl⟩
  have g0 := hf 0 _ rfl
  have g1 := hf 1 _ rfl
  have g2 := hf 2 _ rfl
  have g3 := hf 3 _ rfl
  have g4 := hf 4 _ rfl
  clear hf
  have e0 : DataW.trod enc Try.prog w 0 spare held n 3 [c0] = some y0 := g0
  have e1 : DataW.trod enc Try.prog w 0 spare held n 2 [c1] = some y1 := g1
  have e2 : DataW.trod enc Try.prog w 0 spare held n 9 [c2] = some y2 := g2
  have e3 : DataW.trod enc Try.prog w 0 spare held n 22 [c3] = some y3 := g3
  have e4 : DataW.trod enc Try.prog w 0 spare held n 23 [c4] = some y4 := g4
  obtain ⟨n0, p0, _, w0⟩ := DataW.trod_int Try.underlying3 e0
  obtain ⟨n1, p1, _, w1⟩ := DataW.trod_int Try.underlying2 e1
  obtain ⟨s2, p2, _, w2⟩ := DataW.trod_string Try.underlying9 e2
  obtain ⟨A3, xs3, k3, p3, l3, m3, C3, V3⟩ := row_open k25 Val Try.underlying22 (by kernel_rfl) n (fun m hm cs y hy => ih m (by omega) cs y hy) e3
  obtain ⟨A4, xs4, k4, p4, l4, m4, C4, V4⟩ := row_open Kd.string (fun s => s.size ≤ 9223372036854775807) Try.underlying23 (by kernel_rfl) n (fun m hm cs y hy => by
    obtain ⟨s, q, _, z⟩ := DataW.trod_string Try.underlying9 hy
    exact ⟨s, q, z⟩) e4
  cases p0; cases p1; cases p2; cases p3; cases p4
  refine ⟨⟨n0, n1, s2, xs3, xs4⟩, k25_mk w ⟨n0, n1, s2, xs3, xs4⟩ l3 C3 l4 C4, Val.mk _ ?_ ?_ ?_ ?_ w2 m3 m4 V4 V3⟩
  all_goals (have z0 := wf_i64 w0; have z1 := wf_i64 w1; dsimp only; omega)
end
end Go.Proofs.Ytnkbobblnhaclaa.X

/- A value's weight, by its parts. -/
namespace Go.Proofs.Ytnkbobblnhaclaa.X
open Go.RowKit Go.Proofs.YtnkbobblnhaclaaW.PrintWords Go.Proofs.YtnkbobblnhaclaaW
theorem mem_lt {x y : S25} (h : y ∈ x.f3) : SizeOf.sizeOf y < SizeOf.sizeOf x := by
  have h1 := List.sizeOf_lt_of_mem h
  have h2 : SizeOf.sizeOf x.f3 < SizeOf.sizeOf x := by cases x; simp; omega
  omega
def wt (x : S25) : Nat := 1 + x.f2.size + (x.f3.map fun y => wt y).sum + (x.f4.map fun s => 1 + s.size).sum
termination_by SizeOf.sizeOf x
decreasing_by exact mem_lt (by assumption)
theorem wt_eq (x : S25) : wt x = 1 + x.f2.size + (x.f3.map wt).sum + (x.f4.map fun s => 1 + s.size).sum := by rw [wt]
/-- What the parts from number i on weigh, the keys of a record with them. -/
def wrest (f0 : Int) (f3 : List S25) (f4 : List ByteArray) (i : Nat) : Nat := ((f3.drop i).map wt).sum + (if f0 = 5 then ((f4.drop i).map fun s => 1 + s.size).sum else 0)
theorem wrest_end (f0 : Int) (f3 : List S25) (f4 : List ByteArray) (i : Nat) (h : f3.length ≤ i) (h4 : f0 = 5 → f4.length = f3.length) : wrest f0 f3 f4 i = 0 := by
  unfold wrest
  rw [List.drop_eq_nil_of_le h]
  split
  · rename_i h5
    rw [List.drop_eq_nil_of_le (by rw [h4 h5]; exact h)]; rfl
  · rfl
theorem wrest_succ (f0 : Int) (f3 : List S25) (f4 : List ByteArray) (i : Nat) (h : i < f3.length) (h4 : f0 = 5 → f4.length = f3.length) :
    wrest f0 f3 f4 i = wt (rd_T25 f3 (i : Int)) + (if f0 = 5 then 1 + (rdOf ByteArray.empty f4 (i : Int)).size else 0) + wrest f0 f3 f4 (i + 1) := by
  unfold wrest
  have e : rd_T25 f3 (i : Int) = f3[i] := by
    unfold rd_T25
    rw [show ((i : Int)).toNat = i from by omega, List.getD_eq_getElem?_getD, List.getElem?_eq_getElem h]; rfl
  rw [List.drop_eq_getElem_cons h, List.map_cons, List.sum_cons, e]
  split
  · rename_i h5
    have h' : i < f4.length := by rw [h4 h5]; exact h
    have e' : rdOf ByteArray.empty f4 (i : Int) = f4[i] := by
      unfold rdOf
      rw [show ((i : Int)).toNat = i from by omega, List.getD_eq_getElem?_getD, List.getElem?_eq_getElem h']; rfl
    rw [List.drop_eq_getElem_cons h', List.map_cons, List.sum_cons, e']
    omega
  · omega
end Go.Proofs.Ytnkbobblnhaclaa.X

/- A value that comes in is read whole, with what the row's bound on bytes says of all its parts. -/
namespace Go.Proofs.Ytnkbobblnhaclaa.X
open Go.ChangeShapes Go.WideShapes Go.ChangeAt Go.RowKit Go.Proofs.YtnkbobblnhaclaaW.PrintWords Go.Proofs.YtnkbobblnhaclaaW

/-- No part is greater than the bytes that a row may reach. -/
inductive Siz : S25 → Prop
  | mk (x : S25) (h2 : x.f2.size ≤ 140737488351232) (h3 : x.f3.length * 80 ≤ 140737488351232) (h4 : x.f4.length * 16 ≤ 140737488351232) (k4 : ∀ s ∈ x.f4, s.size ≤ 140737488351232) (k3 : ∀ y ∈ x.f3, Siz y) : Siz x
def Fits {H : Type} (P : Program) (t : TypeId) (d : DataW H) : Prop := ∀ n ∈ d.weights P t, n ≤ 140737488351232
section
variable {H : Type} {enc : TypeId × Value → H} {P : Program} {w : World} {held : Bool} {spare : Nat → Bool}
theorem weights_all {e : TypeId} : ∀ {l : List (DataW H)} {d : DataW H}, d ∈ l → ∀ n ∈ d.weights P e, n ∈ DataW.weightsAll P e l
  | a :: l, d, hd, n, hn => by
    simp only [DataW.weightsAll, List.mem_append]
    rcases List.mem_cons.1 hd with rfl | hd
    · exact .inl hn
    · exact .inr (weights_all hd n hn)
theorem row_size {α : Type} (d : Kd α) (good : α → DataW H → Prop) {t e : TypeId} (ht : P.underlying t = some (.slice e)) (hsz : P.cellsOf e = d.sz) (fuel : Nat)
    (hel : ∀ n, n < fuel → ∀ cs y, DataW.trod enc P w 0 spare held n e cs = some y → ∃ x, d.K w x cs ∧ good x y.1) {cs : List Value} {y : DataW H × List MemPlace} (h : DataW.trod enc P w 0 spare held fuel t cs = some y) :
    ∃ A xs c, cs = [.slice A xs.length c] ∧ xs.length ≤ c ∧ xs.length ≤ 9223372036854775807 ∧ d.C w A xs.length xs ∧ (∀ x ∈ xs, ∃ z : DataW H, good x z ∧ (Fits P t y.1 → Fits P e z)) ∧ (Fits P t y.1 → xs.length * P.bytesOf e ≤ 140737488351232) := by
  rcases DataW.trod_slice ht h with ⟨rfl, _⟩ | ⟨a, len, cap, elems, rest, n, rfl, rfl, rfl, _, hlc, hcm, hlen, hel0, _, _⟩
  · exact ⟨none, [], 0, rfl, Nat.le_refl _, by simp, ⟨rfl, by simp, fun h => absurd h (by simp)⟩, fun x hx => by simp at hx, fun _ => by simp⟩
  · have hfit : ∀ z : DataW H, z ∈ elems.map (·.1) → Fits P t (DataW.slice (elems.map (·.1)) (rest.map (·.1))) → Fits P e z := fun z hz hf n hn => by
      refine hf n ?_
      simp only [DataW.weights, ht, List.mem_cons, List.mem_append]
      exact .inr (.inl (weights_all hz n hn))
    obtain ⟨xs, hxl, hx⟩ := choose_list (β := Unit) (fun i (x : α) => (∃ z : DataW H, good x z ∧ (Fits P t (DataW.slice (elems.map (·.1)) (rest.map (·.1))) → Fits P e z)) ∧ ∃ c, c.length = d.sz ∧ d.K w x c ∧ ∀ (j : Nat) (u : Value), c[j]? = some u → w.cell? (a.add (i * d.sz + j)) = some u) len (fun i hi => by
      have h1 := hel0 i hi
      have hi2 : i < elems.length := by omega
      rw [List.getElem?_eq_getElem hi2] at h1
      obtain ⟨c, hc, hy⟩ := Option.bind_eq_some_iff.mp h1
      obtain ⟨x, hK, hg⟩ := hel n (by omega) c _ hy
      obtain ⟨c1, c2⟩ := cells_at hc
      refine ⟨x, ⟨_, hg, hfit _ (List.mem_map.2 ⟨_, List.getElem_mem hi2, rfl⟩)⟩, c, by omega, hK, fun j u hu => ?_⟩
      have := c2 j u hu
      rw [hsz] at this
      rwa [Addr.add_add] at this)
    have hM : maxLen = 9223372036854775807 := by decide
    refine ⟨some a, xs, cap, by rw [hxl], by omega, by omega, ⟨rfl, by omega, fun _ => ⟨a, rfl, fun j p hp => ?_⟩⟩, fun x hq => ?_, fun hf => ?_⟩
    · obtain ⟨_, c, h1, h2, h3⟩ := hx j p hp
      exact ⟨c, h1, h2, h3⟩
    · obtain ⟨j, hj, rfl⟩ := List.getElem_of_mem hq
      exact (hx j _ (List.getElem?_eq_getElem hj)).1
    · have := hf (((elems.map (·.1)).length + (rest.map (·.1)).length) * P.bytesOf e) (by simp only [DataW.weights, ht]; exact List.mem_cons_self)
      rw [hxl, ← hlen]
      refine Nat.le_trans (Nat.mul_le_mul_right _ ?_) this
      simp
end
section
variable {H : Type} {enc : TypeId × Value → H} {w : World} {held : Bool} {spare : Nat → Bool}
set_option maxRecDepth 100000 in
theorem val_size : ∀ (fuel : Nat) (cs : List Value) (y : DataW H × List MemPlace), DataW.trod enc Try.prog w 0 spare held fuel 25 cs = some y → ∃ x, k25.K w x cs ∧ Val x ∧ (Fits Try.prog 25 y.1 → Siz x) := by
  intro fuel
  induction fuel using Nat.strongRecOn with
  | _ fuel ih =>
  intro cs y h
  obtain ⟨xs, n, rfl, rfl, hl, hxs, hf⟩ := DataW.trod_struct Try.underlying25 h
  have hl5 : cs.length = 5 := hl
  obtain ⟨c0, c1, c2, c3, c4, rfl⟩ : ∃ c0 c1 c2 c3 c4, cs = [c0, c1, c2, c3, c4] := by
    match cs, hl5 with
    | [c0, c1, c2, c3, c4], _ => exact ⟨c0, c1, c2, c3, c4, rfl⟩
  have hx : xs.length = 5 := hxs
  obtain ⟨y0, y1, y2, y3, y4, rfl⟩ : ∃ c0 c1 c2 c3 c4, xs = [c0, c1, c2, c3, c4] := by
    match xs, hx with
    | [c0, c1, c2, c3, c4], _ => exact ⟨c0, c1, c2, c3, c4, rfl⟩
  have g0 := hf 0 _ rfl
  have g1 := hf 1 _ rfl
  have g2 := hf 2 _ rfl
  have g3 := hf 3 _ rfl
  have g4 := hf 4 _ rfl
  clear hf
  have e0 : DataW.trod enc Try.prog w 0 spare held n 3 [c0] = some y0 := g0
  have e1 : DataW.trod enc Try.prog w 0 spare held n 2 [c1] = some y1 := g1
  have e2 : DataW.trod enc Try.prog w 0 spare held n 9 [c2] = some y2 := g2
  have e3 : DataW.trod enc Try.prog w 0 spare held n 22 [c3] = some y3 := g3
  have e4 : DataW.trod enc Try.prog w 0 spare held n 23 [c4] = some y4 := g4
  obtain ⟨n0, p0, _, w0⟩ := DataW.trod_int Try.underlying3 e0
  obtain ⟨n1, p1, _, w1⟩ := DataW.trod_int Try.underlying2 e1
  obtain ⟨s2, p2, q2, w2⟩ := DataW.trod_string Try.underlying9 e2
  obtain ⟨A3, xs3, k3, p3, l3, m3, C3, V3, B3⟩ := row_size k25 (fun x z => Val x ∧ (Fits Try.prog 25 z → Siz x)) Try.underlying22 (by kernel_rfl) n (fun m hm cs y hy => ih m (by omega) cs y hy) e3
  obtain ⟨A4, xs4, k4, p4, l4, m4, C4, V4, B4⟩ := row_size Kd.string (fun s z => s.size ≤ 9223372036854775807 ∧ (Fits Try.prog 9 z → s.size ≤ 140737488351232)) Try.underlying23 (by kernel_rfl) n (fun m hm cs y hy => by
    obtain ⟨s, q, q', z⟩ := DataW.trod_string Try.underlying9 hy
    refine ⟨s, q, z, fun hf => ?_⟩
    rw [q'] at hf
    have := hf s.data.toList.length (by simp [DataW.weights])
    rwa [Array.length_toList] at this) e4
  have b3 : Try.prog.bytesOf 25 = 80 := by kernel_rfl
  have b4 : Try.prog.bytesOf 9 = 16 := by kernel_rfl
  have hw : Fits Try.prog 25 (DataW.agg [y0.1, y1.1, y2.1, y3.1, y4.1] : DataW H) → Fits Try.prog 9 y2.1 ∧ Fits Try.prog 22 y3.1 ∧ Fits Try.prog 23 y4.1 := by
    intro hf
    have hall : (DataW.agg [y0.1, y1.1, y2.1, y3.1, y4.1] : DataW H).weights Try.prog 25 = y0.1.weights Try.prog 3 ++ (y1.1.weights Try.prog 2 ++ (y2.1.weights Try.prog 9 ++ (y3.1.weights Try.prog 22 ++ (y4.1.weights Try.prog 23 ++ [])))) := by
      rw [DataW.weights, Try.underlying25]
      simp only [List.map_cons, List.map_nil, DataW.weightsEach]
    unfold Fits at hf
    rw [hall] at hf
    simp only [List.mem_append] at hf
    exact ⟨fun n hn => hf n (.inr (.inr (.inl hn))), fun n hn => hf n (.inr (.inr (.inr (.inl hn)))), fun n hn => hf n (.inr (.inr (.inr (.inr (.inl hn)))))⟩
  cases p0; cases p1; cases p2; cases p3; cases p4
  refine ⟨⟨n0, n1, s2, xs3, xs4⟩, k25_mk w ⟨n0, n1, s2, xs3, xs4⟩ l3 C3 l4 C4, Val.mk _ ?_ ?_ ?_ ?_ w2 m3 m4 (fun s hs => by obtain ⟨z, hz, _⟩ := V4 s hs; exact hz.1) (fun x hx => by obtain ⟨z, hz, _⟩ := V3 x hx; exact hz.1), fun hf => ?_⟩
  case refine_5 =>
    obtain ⟨f2, f3, f4⟩ := hw hf
    refine Siz.mk _ ?_ (by have := B3 f3; rwa [b3] at this) (by have := B4 f4; rwa [b4] at this) (fun s hs => by obtain ⟨z, hz, hq⟩ := V4 s hs; exact hz.2 (hq f4)) (fun x hx => by obtain ⟨z, hz, hq⟩ := V3 x hx; exact hz.2 (hq f3))
    have e := congrArg Prod.fst q2
    rw [show y2.1 = _ from e] at f2
    have := f2 s2.data.toList.length (by simp [DataW.weights])
    rwa [Array.length_toList] at this
  all_goals (have z0 := wf_i64 w0; have z1 := wf_i64 w1; dsimp only; omega)
end
end Go.Proofs.Ytnkbobblnhaclaa.X

/- Plain words on numbers as bytes: how they are written (puts), how they are read (rdU), that what is written is read and what is read is written so. No program in sight; no condition beyond the lemmas' hypotheses. -/
namespace Go.Proofs.Ytnkbobblnhaclaa.Pl
open Go.RowKit Go.Proofs.YtnkbobblnhaclaaW.PrintWords Go.Proofs.YtnkbobblnhaclaaW.PrintLast Go.Proofs.YtnkbobblnhaclaaW.PrintMore

/-! ### wraps -/
theorem u64m (x : Int) : IntKind.u64.wrap x = x % 18446744073709551616 := by simp [IntKind.wrap, IntKind.bits, IntKind.signed]
theorem u64w (x : Int) (h0 : 0 ≤ x) (h1 : x < 18446744073709551616) : IntKind.u64.wrap x = x := by rw [u64m]; omega
theorem u64w' (x : Int) (h0 : 0 ≤ x) (h1 : x < 2 ^ 64) : IntKind.u64.wrap x = x := u64w x h0 (by omega)
theorem w64 (x : Int) (h0 : -9223372036854775808 ≤ x) (h1 : x ≤ 9223372036854775807) : wrap64 x = x := by unfold wrap64; omega
theorem lit_u8 {x : Int} (h : (Lit.int .u8 x).wf = true) : 0 ≤ x ∧ x ≤ 255 := by
  simp [Lit.wf, IntKind.min, IntKind.max, IntKind.signed, IntKind.bits] at h; omega

theorem and127 (x : Int) (h0 : 0 ≤ x) (h1 : x < 256) : bits .and .u8 x 127 = x % 128 := by
  have h := bits_mask .u8 8 (by decide) wraps_u8 7 (by decide) x h0 (by omega)
  simpa using h
theorem and1 (x : Int) (h0 : 0 ≤ x) (h1 : x < 18446744073709551616) : bits .and .u64 x 1 = x % 2 := by
  have h := bits_mask .u64 64 (by decide) u64w' 1 (by decide) x h0 (by omega)
  simpa using h
theorem or_low (i : Nat) (n y : Int) (h0 : 0 ≤ n) (h1 : n < 2 ^ i) (h2 : 0 ≤ y) (h3 : y % 2 ^ i = 0) (h4 : y < 2 ^ 64) (hi : i ≤ 64) : bits .or .u64 n y = n + y := by
  have hn : n < 2 ^ 64 := by
    have : (2 : Int) ^ i ≤ 2 ^ 64 := by exact_mod_cast Nat.pow_le_pow_right (by decide) hi
    omega
  obtain ⟨a, rfl⟩ := Int.eq_ofNat_of_zero_le h0
  obtain ⟨b, rfl⟩ := Int.eq_ofNat_of_zero_le h2
  have ha : a < 2 ^ 64 := by exact_mod_cast hn
  have hb : b < 2 ^ 64 := by exact_mod_cast h4
  have e := bits_join .u64 64 (by decide) u64w' i (b : Int) (a : Int) h2 h3 h4 h0 h1 hn
  have e1 := (bits_nat .u64 64 (by decide) u64w' a b ha hb).2
  have e2 := (bits_nat .u64 64 (by decide) u64w' b a hb ha).2
  rw [e1, Nat.or_comm, ← e2, e]
  omega
theorem xor0 (x : Int) (h0 : -9223372036854775808 ≤ x) (h1 : x ≤ 9223372036854775807) : bits .xor .i64 x 0 = x := by
  have z : BitVec.ofInt 64 x ^^^ BitVec.ofInt 64 0 = BitVec.ofInt 64 x := by simp
  have e : bits .xor .i64 x 0 = IntKind.i64.wrap ((BitVec.ofInt 64 x).toNat) := by
    show IntKind.i64.wrap ((BitVec.ofInt 64 x ^^^ BitVec.ofInt 64 0).toNat : Int) = _
    rw [z]
  rw [e, IntKind.wrap_i64, BitVec.toNat_ofInt]
  omega
theorem xor1 (x : Int) (h0 : -9223372036854775808 ≤ x) (h1 : x ≤ 9223372036854775807) : bits .xor .i64 x (-1) = -x - 1 := by
  have e : bits .xor .i64 x (-1) = IntKind.i64.wrap ((~~~ (BitVec.ofInt 64 x)).toNat) := by
    have z : BitVec.ofInt 64 x ^^^ BitVec.ofInt 64 (-1) = ~~~ (BitVec.ofInt 64 x) := by
      rw [show BitVec.ofInt 64 (-1) = BitVec.allOnes 64 by decide, BitVec.xor_allOnes]
    show IntKind.i64.wrap ((BitVec.ofInt 64 x ^^^ BitVec.ofInt 64 (-1)).toNat : Int) = _
    rw [z]
  rw [e, IntKind.wrap_i64, BitVec.toNat_not, BitVec.toNat_ofInt]
  omega

/-! ### how a number is written, and read -/
def puts : Nat → Int → List Int
  | 0, _ => []
  | f + 1, n => if n ≥ 128 then (n % 128 + 128) :: puts f (n / 128) else [n]
def rdU : Nat → Nat → List Int → Int → Int × Int × Int
  | 0, _, _, _ => (0, 0, 12)
  | _ + 1, _, [], _ => (0, 0, 11)
  | f + 1, i, c :: t, n => if (f = 0 ∧ c > 1) ∨ (0 < i ∧ c = 0) then (0, 0, 12) else if c < 128 then (n + c * 128 ^ i, i + 1, 0) else rdU f (i + 1) t (n + (c - 128) * 128 ^ i)
/-- The bytes of a number from 0 on. -/
def putU (n : Int) : List Int := puts 10 n
/-- All are bytes. -/
def Bytes (l : List Int) : Prop := ∀ c ∈ l, 0 ≤ c ∧ c ≤ 255

theorem Bytes.of {l : List Int} (h : ∀ x ∈ l, (Lit.int .u8 x).wf = true) : Bytes l := fun c hc => lit_u8 (h c hc)
theorem Bytes.nil : Bytes [] := fun _ h => by simp at h
theorem Bytes.append {a b : List Int} (ha : Bytes a) (hb : Bytes b) : Bytes (a ++ b) := fun c hc => (List.mem_append.1 hc).elim (ha c) (hb c)
theorem Bytes.drop {a : List Int} (ha : Bytes a) (n : Nat) : Bytes (a.drop n) := fun c hc => ha c (List.mem_of_mem_drop hc)
theorem Bytes.take {a : List Int} (ha : Bytes a) (n : Nat) : Bytes (a.take n) := fun c hc => ha c (List.mem_of_mem_take hc)

theorem pow_pos' (i : Nat) : (0 : Int) < 128 ^ i := Int.pow_pos (by decide)
theorem pow_s (i : Nat) : (128 : Int) ^ (i + 1) = 128 * 128 ^ i := by rw [Int.pow_succ]; omega
theorem pow10 : (128 : Int) ^ 10 = 1180591620717411303424 := by decide
theorem pow9 : (128 : Int) ^ 9 = 9223372036854775808 := by decide

/-- What is read is written as the same bytes. -/
theorem rd_form (d : Nat) : ∀ (i : Nat) (l : List Int) (acc : Int) (v m : Int), i + d = 10 → Bytes l → rdU d i l acc = (v, m, 0) →
    ∃ n : Int, 0 ≤ n ∧ v = acc + n * 128 ^ i ∧ n * 128 ^ i < 18446744073709551616 ∧ (0 < i → 0 < n) ∧ l.take (m.toNat - i) = puts d n ∧ (i : Int) < m ∧ m ≤ 10 ∧ m ≤ i + l.length := by
  induction d with
  | zero => intro i l acc v m _ _ h; simp [rdU] at h
  | succ d ih =>
    intro i l acc v m hi hl h
    match l, hl, h with
    | [], _, h => simp [rdU] at h
    | c :: t, hl, h =>
      have hc := hl c (List.mem_cons_self)
      simp only [rdU] at h
      by_cases h1 : (d = 0 ∧ c > 1) ∨ (0 < i ∧ c = 0)
      · rw [if_pos h1] at h; simp at h
      · rw [if_neg h1] at h
        by_cases h2 : c < 128
        · rw [if_pos h2] at h
          simp only [Prod.mk.injEq, and_true] at h
          obtain ⟨rfl, rfl⟩ := h
          refine ⟨c, hc.1, rfl, ?_, by omega, ?_, by omega, by omega, by simp; omega⟩
          · by_cases h9 : i = 9
            · subst h9
              rw [pow9]
              have : ¬ (d = 0 ∧ c > 1) := fun z => h1 (.inl z)
              omega
            · have hle : (128 : Int) ^ i ≤ 128 ^ 8 := by exact_mod_cast Nat.pow_le_pow_right (by decide) (show i ≤ 8 by omega)
              have e8 : (128 : Int) ^ 8 = 72057594037927936 := by decide
              have hm : c * 128 ^ i ≤ 128 * 128 ^ i := Int.mul_le_mul_of_nonneg_right (by omega) (Int.le_of_lt (pow_pos' i))
              omega
          · rw [show ((i : Int) + 1).toNat - i = 1 by omega]
            simp [puts]; omega
        · rw [if_neg h2] at h
          obtain ⟨n, hn0, hv, hb, hp, ht, hm1, hm2, hm3⟩ := ih (i + 1) t _ v m (by omega) (fun z hz => hl z (List.mem_cons_of_mem _ hz)) h
          have hpn := hp (by omega)
          have e : (n * 128 + (c - 128)) * 128 ^ i = n * 128 ^ (i + 1) + (c - 128) * 128 ^ i := by rw [pow_s, Int.add_mul, Int.mul_assoc]
          refine ⟨n * 128 + (c - 128), by omega, ?_, ?_, by omega, ?_, by omega, hm2, by simp; omega⟩
          · rw [e, hv]; omega
          · have hlt : (c - 128) * 128 ^ i < 128 ^ (i + 1) := by
              rw [pow_s]
              exact Int.mul_lt_mul_of_pos_right (by omega) (pow_pos' i)
            by_cases hi8 : i + 1 ≤ 9
            · -- n * 128^(i+1) is a multiple of 128^(i+1), below 2^64, so one more still fits
              have hd : (128 : Int) ^ (i + 1) ∣ 18446744073709551616 := by
                have : (128 : Int) ^ (i + 1) ∣ 128 ^ 9 := by exact_mod_cast Nat.pow_dvd_pow 128 hi8
                exact Int.dvd_trans this (by rw [pow9]; exact ⟨2, by decide⟩)
              obtain ⟨q, hq⟩ := hd
              rw [e]
              have hnq : n < q := by
                rcases Int.lt_or_le n q with z | z
                · exact z
                · have := Int.mul_le_mul_of_nonneg_left z (Int.le_of_lt (pow_pos' (i + 1)))
                  rw [Int.mul_comm] at this
                  rw [Int.mul_comm (128 ^ (i + 1)) n] at this
                  rw [Int.mul_comm] at hq
                  omega
              have hstep : 128 ^ (i + 1) * (n + 1) ≤ 128 ^ (i + 1) * q := Int.mul_le_mul_of_nonneg_left (by omega) (Int.le_of_lt (pow_pos' (i + 1)))
              rw [Int.mul_add, Int.mul_one, Int.mul_comm (128 ^ (i + 1)) n] at hstep
              omega
            · obtain rfl : i = 9 := by omega
              rw [pow10] at hb
              omega
          · rw [show m.toNat - i = (m.toNat - (i + 1)) + 1 by omega, List.take_succ_cons, ht]
            conv => rhs; unfold puts
            rw [if_pos (by omega)]
            congr 1
            · omega
            · congr 1; omega

theorem rdU_form (l : List Int) (hl : Bytes l) (v m : Int) (h : rdU 10 0 l 0 = (v, m, 0)) : 0 ≤ v ∧ v < 18446744073709551616 ∧ l.take m.toNat = putU v ∧ 0 < m ∧ m ≤ 10 ∧ m ≤ l.length := by
  obtain ⟨n, h0, hv, hb, _, ht, h1, h2, h3⟩ := rd_form 10 0 l 0 v m rfl hl h
  obtain rfl : v = n := by simpa using hv
  simp at hb
  exact ⟨h0, hb, by simpa [putU] using ht, by omega, h2, by omega⟩
theorem rdU_err (d : Nat) : ∀ (i : Nat) (l : List Int) (acc : Int), (rdU d i l acc).2.2 = 0 ∨ rdU d i l acc = (0, 0, 11) ∨ rdU d i l acc = (0, 0, 12) := by
  induction d with
  | zero => intro i l acc; exact .inr (.inr rfl)
  | succ d ih =>
    intro i l acc
    match l with
    | [] => exact .inr (.inl rfl)
    | c :: t =>
      simp only [rdU]
      split
      · exact .inr (.inr rfl)
      · split
        · exact .inl rfl
        · exact ih _ _ _
def unzz (m : Int) : Int := if m % 2 = 1 then -(m / 2) - 1 else m / 2
theorem unzz_range (m : Int) (h0 : 0 ≤ m) (h1 : m < 18446744073709551616) : -9223372036854775808 ≤ unzz m ∧ unzz m ≤ 9223372036854775807 := by unfold unzz; split <;> omega

theorem str_data (l : List Int) : (strOfNums l).data.toList = l.map fun n => UInt8.ofNat n.toNat := by simp [strOfNums]
theorem toList_inj {a b : ByteArray} (h : a.toList = b.toList) : a = b := by
  rw [ByteArray.toList_eq, ByteArray.toList_eq] at h
  exact ByteArray.ext (Array.ext' h)
theorem str_size (l : List Int) : (strOfNums l).size = l.length := by
  show (strOfNums l).data.size = l.length
  rw [← Array.length_toList, str_data, List.length_map]
end Go.Proofs.Ytnkbobblnhaclaa.Pl

/- What num.Uint and num.Int come to (out of NumFns, without what writes). -/
namespace Go.Proofs.Ytnkbobblnhaclaa.Pl
open Go.RowKit Go.Proofs.Ytnkbobblnhaclaa.X Go.Proofs.YtnkbobblnhaclaaW.PrintWords Go.Proofs.YtnkbobblnhaclaaW.PrintLast Go.Proofs.YtnkbobblnhaclaaW.PrintMore

def fin (a : Int) (r : Int × Int × Int) : Int × Int × Int := (r.1, if r.2.2 = 0 then a + r.2.1 else 0, r.2.2)
def uintAt (l : List Int) (a : Int) : Int × Int × Int := if a < 0 ∨ a > l.length then (0, 0, 10) else fin a (rdU 10 0 (l.drop a.toNat) 0)
theorem rd_get (l : List Int) (i : Nat) (h : i < l.length) : rd l (i : Int) = l[i] := by
  unfold rd
  rw [Int.toNat_natCast, List.getD_eq_getElem?_getD, List.getElem?_eq_getElem h]
  rfl
theorem shl_pow (i : Nat) (x : Int) (hi : i ≤ 9) (h0 : 0 ≤ x) (h1 : x * 128 ^ i < 18446744073709551616) : shl .u64 x (wrap64 (7 * (i : Int))) = x * 128 ^ i := by
  rw [w64 _ (by omega) (by omega)]
  unfold shl
  rw [show min (7 * (i : Int)).toNat IntKind.u64.bits = 7 * i by simp [IntKind.bits]; omega]
  have e : (2 : Int) ^ (7 * i) = 128 ^ i := by rw [Int.pow_mul]; rfl
  rw [e, u64w _ (Int.mul_nonneg h0 (Int.le_of_lt (pow_pos' i))) h1]
/-- One byte more, as the code lays it in. -/
theorem or_byte (i : Nat) (n c : Int) (hi : i ≤ 9) (h0 : 0 ≤ n) (h1 : n < 128 ^ i) (hc0 : 0 ≤ c) (hc1 : c ≤ 255) (h9 : i = 9 → c ≤ 1) :
    bits .or .u64 n (shl .u64 (IntKind.u64.wrap (bits .and .u8 c 127)) (wrap64 (7 * (i : Int)))) = n + c % 128 * 128 ^ i := by
  have hlt : c % 128 * 128 ^ i < 18446744073709551616 := by
    by_cases e : i = 9
    · subst e; rw [pow9]; have := h9 rfl; omega
    · have hle : (128 : Int) ^ i ≤ 128 ^ 8 := by exact_mod_cast Nat.pow_le_pow_right (by decide) (show i ≤ 8 by omega)
      have e8 : (128 : Int) ^ 8 = 72057594037927936 := by decide
      have hm : c % 128 * 128 ^ i ≤ 128 * 128 ^ i := Int.mul_le_mul_of_nonneg_right (by omega) (Int.le_of_lt (pow_pos' i))
      omega
  have e : (2 : Int) ^ (7 * i) = 128 ^ i := by rw [Int.pow_mul]; rfl
  rw [and127 c hc0 (by omega), u64w _ (by omega) (by omega), shl_pow i _ hi (by omega) hlt]
  refine or_low (7 * i) n _ h0 (by rw [e]; exact h1) (Int.mul_nonneg (by omega) (Int.le_of_lt (pow_pos' i))) ?_ (by omega) (by omega)
  rw [e]
  exact Int.mul_emod_left _ _

theorem uint_l0 (l : List Int) (hb : Bytes l) (a : Int) (ha0 : 0 ≤ a) (ha1 : a ≤ 9223372036854775000) (d : Nat) : ∀ (k i : Nat) (n : Int), i + d = 10 → 2 * d < k → 0 ≤ n → n < 128 ^ i → i ≤ l.length →
    num_Uint.l0 k a l n i = some (fin a (rdU d i (l.drop i) n)) := by
  induction d with
  | zero =>
    intro k i n hi hk h0 h1 hl
    obtain ⟨k, rfl⟩ : ∃ m, k = m + 1 := ⟨k - 1, by omega⟩
    simp only [num_Uint.l0]
    rw [if_neg (by omega)]
    rfl
  | succ d ih =>
    intro k i n hi hk h0 h1 hl
    obtain ⟨k, rfl⟩ : ∃ m, k = m + 2 := ⟨k - 2, by omega⟩
    have hi9 : i ≤ 9 := by omega
    by_cases he : i = l.length
    · simp only [num_Uint.l0]
      rw [if_pos (by omega), if_pos (by omega), List.drop_eq_nil_of_le (by omega)]
      rfl
    · have hlt : i < l.length := by omega
      have hc := hb l[i] (List.getElem_mem _)
      rw [List.drop_eq_getElem_cons hlt]
      generalize hcc : l[i] = c at hc ⊢
      have hr : rd l (i : Int) = c := by rw [rd_get l i hlt, hcc]
      -- what is behind the test
      have J : ∀ b : Bool, b = decide ((d = 0 ∧ c > 1) ∨ (0 < i ∧ c = 0)) → num_Uint.j2 (k + 1) a l n i c i b = some (fin a (rdU (d + 1) i (c :: l.drop (i + 1)) n)) := by
        intro b hbt
        simp only [num_Uint.j2, rdU]
        by_cases hbad : (d = 0 ∧ c > 1) ∨ (0 < i ∧ c = 0)
        · rw [if_pos (by rw [hbt]; simpa using hbad), if_pos hbad]; rfl
        · rw [if_neg (by rw [hbt]; simpa using hbad), if_neg hbad, if_pos (by rw [w64 _ (by omega) (by omega)]; omega)]
          have h9 : i = 9 → c ≤ 1 := by
            rintro rfl
            have : ¬ (d = 0 ∧ c > 1) := fun z => hbad (.inl z)
            omega
          rw [or_byte i n c hi9 h0 h1 hc.1 hc.2 h9]
          by_cases h128 : c < 128
          · rw [if_pos h128, if_pos h128, show c % 128 = c by omega]
            simp only [fin, if_true]
            rw [w64 (a + i) (by omega) (by omega), w64 _ (by omega) (by omega)]
            rw [show a + ↑i + 1 = a + (↑i + 1) by omega]
          · rw [if_neg h128, if_neg h128, show c % 128 = c - 128 by omega, w64 _ (by omega) (by omega)]
            have := ih k (i + 1) (n + (c - 128) * 128 ^ i) (by omega) (by omega) (Int.add_nonneg h0 (Int.mul_nonneg (by omega) (Int.le_of_lt (pow_pos' i)))) ?_ (by omega)
            · exact this
            · rw [pow_s]
              have : (c - 128) * 128 ^ i ≤ 127 * 128 ^ i := Int.mul_le_mul_of_nonneg_right (by omega) (Int.le_of_lt (pow_pos' i))
              omega
      have eq0 : (c == 0) = decide (c = 0) := by by_cases z : c = 0 <;> simp [z]
      simp only [num_Uint.l0]
      rw [if_pos (by omega), if_neg (by omega), if_pos (by omega), if_pos (by omega), hr]
      by_cases h9 : (i : Int) = 9
      · have hd : d = 0 := by omega
        rw [if_pos h9]
        by_cases h1' : c > 1
        · rw [if_pos h1']; exact J _ (by simp [hd, h1'])
        · rw [if_neg h1', if_pos (by omega)]
          refine J _ ?_
          rw [eq0]
          have : 0 < i := by omega
          simp [h1', this]
      · have hd : d ≠ 0 := by omega
        rw [if_neg h9]
        by_cases hp : (i : Int) > 0
        · rw [if_pos hp]
          refine J _ ?_
          rw [eq0]
          have : 0 < i := by omega
          simp [hd, this]
        · rw [if_neg hp]
          refine J _ ?_
          have : ¬ 0 < i := by omega
          simp [hd, this]

theorem Uint_eq (k : Nat) (hk : 24 ≤ k) (l : List Int) (hb : Bytes l) (hl : l.length ≤ 9223372036854775000) (a : Int) : num_Uint.f k l a = some (uintAt l a) := by
  obtain ⟨k, rfl⟩ : ∃ m, k = m + 1 := ⟨k - 1, by omega⟩
  unfold num_Uint.f uintAt
  by_cases h0 : a < 0
  · rw [if_pos h0, if_pos (.inl h0)]
    simp [num_Uint.j0]
  · rw [if_neg h0]
    simp only [num_Uint.j0]
    by_cases h1 : a > l.length
    · rw [if_pos (by simpa using h1), if_pos (.inr h1)]
    · rw [if_neg (by simpa using h1), if_pos (by omega), if_pos (by omega), if_neg (by omega)]
      have := uint_l0 (l.drop a.toNat) (hb.drop _) a (by omega) (by omega) 10 k 0 0 rfl (by omega) (by omega) (by simp) (by omega)
      simpa using this

theorem rdU_range (d : Nat) : ∀ (i : Nat) (l : List Int) (n : Int), i + d = 10 → Bytes l → 0 ≤ n → n < 128 ^ i → 0 ≤ (rdU d i l n).1 ∧ (rdU d i l n).1 < 18446744073709551616 := by
  induction d with
  | zero => intro i l n _ _ _ _; simp [rdU]
  | succ d ih =>
    intro i l n hi hl h0 h1
    match l, hl with
    | [], _ => simp [rdU]
    | c :: t, hl =>
      have hc := hl c List.mem_cons_self
      simp only [rdU]
      split
      · simp
      · rename_i hbad
        have hlt : n + c % 128 * 128 ^ i < 18446744073709551616 ∧ n + c % 128 * 128 ^ i < 128 ^ (i + 1) := by
          have hm : c % 128 * 128 ^ i ≤ 127 * 128 ^ i := Int.mul_le_mul_of_nonneg_right (by omega) (Int.le_of_lt (pow_pos' i))
          refine ⟨?_, by rw [pow_s]; omega⟩
          by_cases e : i = 9
          · subst e
            have : ¬ (d = 0 ∧ c > 1) := fun z => hbad (.inl z)
            rw [pow9] at *
            omega
          · have hle : (128 : Int) ^ i ≤ 128 ^ 8 := by exact_mod_cast Nat.pow_le_pow_right (by decide) (show i ≤ 8 by omega)
            have e8 : (128 : Int) ^ 8 = 72057594037927936 := by decide
            omega
        have hn : 0 ≤ c % 128 * 128 ^ i := Int.mul_nonneg (by omega) (Int.le_of_lt (pow_pos' i))
        split
        · rw [show c % 128 = c by omega] at hlt hn
          exact ⟨by show 0 ≤ n + c * 128 ^ i; omega, hlt.1⟩
        · rw [show c % 128 = c - 128 by omega] at hlt hn
          exact ih (i + 1) t _ (by omega) (fun z hz => hl z (List.mem_cons_of_mem _ hz)) (by omega) hlt.2
theorem uintAt_range (l : List Int) (hb : Bytes l) (a : Int) : 0 ≤ (uintAt l a).1 ∧ (uintAt l a).1 < 18446744073709551616 := by
  unfold uintAt
  split
  · simp
  · exact rdU_range 10 0 _ 0 rfl (hb.drop _) (by omega) (by simp)
theorem uintAt_err (l : List Int) (a : Int) (h : (uintAt l a).2.2 ≠ 0) : (uintAt l a).1 = 0 ∧ (uintAt l a).2.1 = 0 := by
  unfold uintAt at h ⊢
  split
  · simp
  · rename_i h1
    rw [if_neg h1] at h
    rcases rdU_err 10 0 (l.drop a.toNat) 0 with e | e | e
    · exact absurd e h
    · rw [e]; simp [fin]
    · rw [e]; simp [fin]

def intAt (l : List Int) (a : Int) : Int × Int × Int := (unzz (uintAt l a).1, (uintAt l a).2.1, (uintAt l a).2.2)
theorem Int_eq (k : Nat) (hk : 24 ≤ k) (l : List Int) (hb : Bytes l) (hl : l.length ≤ 9223372036854775000) (a : Int) : num_Int.f k l a = some (intAt l a) := by
  have hr := uintAt_range l hb a
  unfold num_Int.f intAt
  rw [Uint_eq k hk l hb hl a]
  simp only [Option.bind_some]
  rw [and1 _ hr.1 hr.2, w64 ((uintAt l a).1 / 2) (by omega) (by omega), w64 ((uintAt l a).1 % 2) (by omega) (by omega), w64 (-((uintAt l a).1 % 2)) (by omega) (by omega)]
  congr 2
  unfold unzz
  by_cases h : (uintAt l a).1 % 2 = 1
  · rw [if_pos h, h, xor1 _ (by omega) (by omega)]
  · rw [if_neg h, show (uintAt l a).1 % 2 = 0 by omega]
    exact xor0 _ (by omega) (by omega)

theorem uintAt_ok (l : List Int) (hb : Bytes l) (a : Int) (h : (uintAt l a).2.2 = 0) : 0 ≤ a ∧ a < (uintAt l a).2.1 ∧ (uintAt l a).2.1 ≤ a + 10 ∧ (uintAt l a).2.1 ≤ l.length ∧ (l.drop a.toNat).take ((uintAt l a).2.1 - a).toNat = putU (uintAt l a).1 := by
  unfold uintAt at h ⊢
  split
  · rename_i h1; rw [if_pos h1] at h; simp at h
  · rename_i h1
    rw [if_neg h1] at h
    have h' : (rdU 10 0 (l.drop a.toNat) 0).2.2 = 0 := h
    obtain ⟨_, _, h4, h5, h6, h7⟩ := rdU_form (l.drop a.toNat) (hb.drop _) (rdU 10 0 (l.drop a.toNat) 0).1 (rdU 10 0 (l.drop a.toNat) 0).2.1 (Prod.ext rfl (Prod.ext rfl h'))
    rw [List.length_drop] at h7
    simp only [fin, h', if_true]
    refine ⟨by omega, by omega, by omega, by omega, ?_⟩
    rw [show a + (rdU 10 0 (l.drop a.toNat) 0).2.1 - a = (rdU 10 0 (l.drop a.toNat) 0).2.1 by omega]
    exact h4
end Go.Proofs.Ytnkbobblnhaclaa.Pl

/- What the document's Uint and Int come to (out of NumRef). -/
namespace Go.Proofs.Ytnkbobblnhaclaa.Pl
open Go.RowKit Go.Proofs.Ytnkbobblnhaclaa.X Go.Proofs.YtnkbobblnhaclaaW.PrintWords Go.Proofs.YtnkbobblnhaclaaW.PrintLast Go.Proofs.YtnkbobblnhaclaaW.PrintMore

theorem ruint_l0 (l : List Int) (hb : Bytes l) (a : Int) (ha0 : 0 ≤ a) (ha1 : a ≤ l.length) (hl : l.length ≤ 9223372036854775000) (d : Nat) : ∀ (k i : Nat) (n p : Int), i + d = 10 → 2 * d < k → 0 ≤ n → n < 128 ^ i → (i < 10 → p = 128 ^ i) → a + i ≤ l.length →
    scrupleref01_Uint.l0 k l a n p i = some (fin a (rdU d i (l.drop (a.toNat + i)) n)) := by
  induction d with
  | zero =>
    intro k i n p hi hk h0 h1 hp hai
    obtain ⟨k, rfl⟩ : ∃ m, k = m + 1 := ⟨k - 1, by omega⟩
    simp only [scrupleref01_Uint.l0]
    rw [if_neg (by omega)]
    rfl
  | succ d ih =>
    intro k i n p hi hk h0 h1 hp hai
    obtain ⟨k, rfl⟩ : ∃ m, k = m + 2 := ⟨k - 2, by omega⟩
    have hi9 : i ≤ 9 := by omega
    obtain rfl := hp (by omega)
    have ew : wrap64 ((l.length : Int) - a) = l.length - a := w64 _ (by omega) (by omega)
    by_cases he : a + i = l.length
    · simp only [scrupleref01_Uint.l0]
      rw [if_pos (by omega), ew, if_pos (by omega), List.drop_eq_nil_of_le (by omega)]
      rfl
    · have hlt : a.toNat + i < l.length := by omega
      have hc := hb l[a.toNat + i] (List.getElem_mem _)
      rw [List.drop_eq_getElem_cons hlt]
      generalize hcc : l[a.toNat + i] = c at hc ⊢
      have ea : wrap64 (a + (i : Int)) = ((a.toNat + i : Nat) : Int) := by rw [w64 _ (by omega) (by omega)]; omega
      have hr : rd l ((a.toNat + i : Nat) : Int) = c := by rw [rd_get l _ hlt, hcc]
      have J : ∀ b : Bool, b = decide ((d = 0 ∧ c > 1) ∨ (0 < i ∧ c = 0)) → scrupleref01_Uint.j2 (k + 1) l a n (128 ^ i) i c b = some (fin a (rdU (d + 1) i (c :: l.drop (a.toNat + i + 1)) n)) := by
        intro b hbt
        simp only [scrupleref01_Uint.j2, rdU]
        by_cases hbad : (d = 0 ∧ c > 1) ∨ (0 < i ∧ c = 0)
        · rw [if_pos (by rw [hbt]; simpa using hbad), if_pos hbad]; rfl
        · rw [if_neg (by rw [hbt]; simpa using hbad), if_neg hbad]
          have hlt2 : n + c % 128 * 128 ^ i < 18446744073709551616 ∧ n + c % 128 * 128 ^ i < 128 ^ (i + 1) := by
            have hm : c % 128 * 128 ^ i ≤ 127 * 128 ^ i := Int.mul_le_mul_of_nonneg_right (by omega) (Int.le_of_lt (pow_pos' i))
            refine ⟨?_, by rw [pow_s]; omega⟩
            by_cases e : i = 9
            · subst e
              have : ¬ (d = 0 ∧ c > 1) := fun z => hbad (.inl z)
              rw [pow9] at *
              omega
            · have hle : (128 : Int) ^ i ≤ 128 ^ 8 := by exact_mod_cast Nat.pow_le_pow_right (by decide) (show i ≤ 8 by omega)
              have e8 : (128 : Int) ^ 8 = 72057594037927936 := by decide
              omega
          have hn : 0 ≤ c % 128 * 128 ^ i := Int.mul_nonneg (by omega) (Int.le_of_lt (pow_pos' i))
          rw [Int.tmod_eq_emod_of_nonneg hc.1, u64w (c % 128 * 128 ^ i) hn (by omega), u64w _ (by omega) hlt2.1]
          by_cases h128 : c < 128
          · rw [if_pos h128, if_pos h128, show c % 128 = c by omega, ea, w64 _ (by omega) (by omega)]
            simp only [fin, if_true]
            rw [show (((a.toNat + i : Nat) : Int) + 1) = a + (↑i + 1) by omega]
          · rw [if_neg h128, if_neg h128]
            rw [show c % 128 = c - 128 by omega] at hlt2 hn ⊢
            rw [w64 ((i : Int) + 1) (by omega) (by omega)]
            exact ih k (i + 1) (n + (c - 128) * 128 ^ i) _ (by omega) (by omega) (by omega) hlt2.2 (fun hi2 => by
              have hle : (128 : Int) ^ i ≤ 128 ^ 8 := by exact_mod_cast Nat.pow_le_pow_right (by decide) (show i ≤ 8 by omega)
              have e8 : (128 : Int) ^ 8 = 72057594037927936 := by decide
              have := pow_pos' i
              rw [u64w _ (by omega) (by omega), pow_s, Int.mul_comm]) (by omega)
      have eq0 : (c == 0) = decide (c = 0) := by by_cases z : c = 0 <;> simp [z]
      simp only [scrupleref01_Uint.l0]
      rw [if_pos (by omega), ew, if_neg (by omega), ea, if_pos (by omega), if_pos (by omega), hr, u64w c hc.1 (by omega)]
      by_cases h9 : (i : Int) = 9
      · have hd : d = 0 := by omega
        rw [if_pos h9]
        by_cases h1' : c > 1
        · rw [if_pos h1']; exact J _ (by simp [hd, h1'])
        · rw [if_neg h1', if_pos (by omega)]
          refine J _ ?_
          rw [eq0]
          have : 0 < i := by omega
          simp [h1', this]
      · have hd : d ≠ 0 := by omega
        rw [if_neg h9]
        by_cases hp : (i : Int) > 0
        · rw [if_pos hp]
          refine J _ ?_
          rw [eq0]
          have : 0 < i := by omega
          simp [hd, this]
        · rw [if_neg hp]
          refine J _ ?_
          have : ¬ 0 < i := by omega
          simp [hd, this]
theorem rUint_eq (k : Nat) (hk : 24 ≤ k) (l : List Int) (hb : Bytes l) (hl : l.length ≤ 9223372036854775000) (a : Int) : scrupleref01_Uint.f k l a = some (uintAt l a) := by
  obtain ⟨k, rfl⟩ : ∃ m, k = m + 1 := ⟨k - 1, by omega⟩
  unfold scrupleref01_Uint.f uintAt
  by_cases h0 : a < 0
  · rw [if_pos h0, if_pos (.inl h0)]
    simp [scrupleref01_Uint.j0]
  · rw [if_neg h0]
    simp only [scrupleref01_Uint.j0]
    by_cases h1 : a > l.length
    · rw [if_pos (by simpa using h1), if_pos (.inr h1)]
    · rw [if_neg (by simpa using h1), if_neg (by omega)]
      have := ruint_l0 l hb a (by omega) (by omega) hl 10 k 0 0 1 rfl (by omega) (by omega) (by simp) (by simp) (by omega)
      simpa using this
theorem rInt_eq (k : Nat) (hk : 24 ≤ k) (l : List Int) (hb : Bytes l) (hl : l.length ≤ 9223372036854775000) (a : Int) : scrupleref01_Int.f k l a = some (intAt l a) := by
  have hr := uintAt_range l hb a
  have he := uintAt_err l a
  unfold scrupleref01_Int.f intAt
  rw [rUint_eq k hk l hb hl a]
  simp only [Option.bind_some]
  by_cases h : (uintAt l a).2.2 = 0
  · rw [if_pos h, h, Int.tmod_eq_emod_of_nonneg hr.1, Int.tdiv_eq_ediv_of_nonneg hr.1, u64w ((uintAt l a).1 / 2) (by omega) (by omega), w64 ((uintAt l a).1 / 2) (by omega) (by omega)]
    unfold unzz
    split
    · rw [w64 (-((uintAt l a).1 / 2)) (by omega) (by omega), w64 _ (by omega) (by omega)]
    · rfl
  · rw [if_neg h, (he h).1, (he h).2]
    rfl
end Go.Proofs.Ytnkbobblnhaclaa.Pl

/- Plain law of wire's own laws: how many parts (few), the same (alike). -/
namespace Go.Proofs.Ytnkbobblnhaclaa.X
open Go.RowKit Go.Proofs.Ytnkbobblnhaclaa.Pl Go.Proofs.YtnkbobblnhaclaaW.PrintWords Go.Proofs.YtnkbobblnhaclaaW.PrintLast Go.Proofs.YtnkbobblnhaclaaW.PrintMore Go.Proofs.YtnkbobblnhaclaaW

/-- With rounds enough, g tells r. -/
def Ev {α : Type} (g : Nat → Option α) (r : α) : Prop := ∃ K, ∀ k, K ≤ k → g k = some r
theorem Ev.step {α : Type} {g h : Nat → Option α} {r : α} (p : Ev h r) (e : ∀ k, g (k + 1) = h k) : Ev g r := by
  obtain ⟨K, hK⟩ := p
  refine ⟨K + 1, fun k hk => ?_⟩
  obtain ⟨k, rfl⟩ : ∃ j, k = j + 1 := ⟨k - 1, by omega⟩
  rw [e, hK k (by omega)]
theorem Ev.bind {α β : Type} {g : Nat → Option α} {F : Nat → α → Option β} {a : α} {r : β} (p : Ev g a) (q : Ev (fun k => F k a) r) : Ev (fun k => (g k).bind (F k)) r := by
  obtain ⟨K, hK⟩ := p
  obtain ⟨L, hL⟩ := q
  exact ⟨K + L, fun k hk => by show (g k).bind (F k) = some r; rw [hK k (by omega)]; exact hL k (by omega)⟩
theorem Ev.const {α : Type} {r : α} : Ev (fun _ => some r) r := ⟨0, fun _ _ => rfl⟩
theorem Ev.congr {α : Type} {g h : Nat → Option α} {r : α} (p : Ev h r) (e : ∀ k, g k = h k) : Ev g r := by
  obtain ⟨K, hK⟩ := p
  exact ⟨K, fun k hk => (e k).trans (hK k hk)⟩
theorem w64 (x : Int) (h0 : -9223372036854775808 ≤ x) (h1 : x ≤ 9223372036854775807) : wrap64 x = x := by unfold wrap64; omega
theorem at_drop (l : List S25) (i : Nat) (h : i < l.length) : l.drop i = rd_T25 l (i : Int) :: l.drop (i + 1) := by
  have e : rd_T25 l (i : Int) = l[i] := by
    unfold rd_T25
    rw [show ((i : Int)).toNat = i from by omega, List.getD_eq_getElem?_getD, List.getElem?_eq_getElem h]; rfl
  rw [List.drop_eq_getElem_cons h, e]
theorem at_dropB (l : List ByteArray) (i : Nat) (h : i < l.length) : l.drop i = rdOf ByteArray.empty l (i : Int) :: l.drop (i + 1) := by
  have e : rdOf ByteArray.empty l (i : Int) = l[i] := by
    unfold rdOf
    rw [show ((i : Int)).toNat = i from by omega, List.getD_eq_getElem?_getD, List.getElem?_eq_getElem h]; rfl
  rw [List.drop_eq_getElem_cons h, e]
theorem at_mem (l : List S25) (i : Nat) (h : i < l.length) : rd_T25 l (i : Int) ∈ l := by
  have := at_drop l i h
  exact List.mem_of_mem_drop (i := i) (by rw [this]; exact List.mem_cons_self)
theorem ext25 {x y : S25} (h0 : x.f0 = y.f0) (h1 : x.f1 = y.f1) (h2 : x.f2 = y.f2) (h3 : x.f3 = y.f3) (h4 : x.f4 = y.f4) : x = y := by
  cases x; cases y; simp_all
/-! many, few -/
def Many (x : S25) : Prop := ∀ m : Int, 0 ≤ m → m ≤ 5000 → ∃ n : Int, Ev (fun k => scruplelaw04_many.f k x.f0 x.f1 x.f2 x.f3 x.f4 m) n ∧ 1 ≤ n ∧ n ≤ m + 1 ∧ n ≤ (wt x : Int)
theorem many_l0 (f0 f1 : Int) (f2 : ByteArray) (f3 : List S25) (f4 : List ByteArray) (hl : f3.length ≤ 9223372036854775000) (hg : ∀ y ∈ f3, Many y) (m : Int) (h0 : 0 ≤ m) (h1 : m ≤ 5000) : ∀ (rem i : Nat) (n : Int), i + rem = f3.length → 1 ≤ n → n ≤ m + 1 →
    ∃ r : Int, Ev (fun k => scruplelaw04_many.l0 k m n (i : Int) f0 f1 f2 f3 f4) r ∧ 1 ≤ r ∧ r ≤ m + 1 ∧ r ≤ n + (((f3.drop i).map wt).sum : Nat) := by
  intro rem
  induction rem with
  | zero =>
    intro i n hi hn hm
    exact ⟨n, Ev.step Ev.const (fun k => by rw [scruplelaw04_many.l0, if_neg (by omega)]), hn, hm, by omega⟩
  | succ rem ih =>
    intro i n hi hn hm
    by_cases c : n ≤ m
    · have ei : wrap64 ((i : Int) + 1) = ((i + 1 : Nat) : Int) := by rw [X.w64 _ (by omega) (by omega)]; omega
      have hd := at_drop f3 i (by omega)
      have hx := hg _ (at_mem f3 i (by omega))
      rw [hd]
      simp only [List.map_cons, List.sum_cons]
      generalize hxe : rd_T25 f3 (i : Int) = x at *
      obtain ⟨t, ht, t1, t2, t3⟩ := hx (m - n) (by omega) (by omega)
      obtain ⟨r, hr, r1, r2, r3⟩ := ih (i + 1) (n + t) (by omega) (by omega) (by omega)
      refine ⟨r, ?_, r1, r2, by omega⟩
      refine Ev.step (h := fun k => (scruplelaw04_many.f k x.f0 x.f1 x.f2 x.f3 x.f4 (m - n)).bind fun t => scruplelaw04_many.l0 k m (wrap64 (n + t)) ((i + 1 : Nat) : Int) f0 f1 f2 f3 f4) ?_ (fun k => by rw [scruplelaw04_many.l0, if_pos (by omega), if_pos c, if_pos (by omega), hxe, ei, X.w64 (m - n) (by omega) (by omega)])
      refine Ev.bind (F := fun k t => scruplelaw04_many.l0 k m (wrap64 (n + t)) ((i + 1 : Nat) : Int) f0 f1 f2 f3 f4) ht ?_
      rw [X.w64 (n + t) (by omega) (by omega)]
      exact hr
    · exact ⟨n, Ev.step Ev.const (fun k => by rw [scruplelaw04_many.l0, if_pos (by omega), if_neg c]), hn, hm, by omega⟩
theorem many_ev (x : S25) (hv : Val x) (hs : Siz x) : Many x := by
  induction hv with
  | mk x a0 b0 a1 b1 h2 h3 h4 k4 _ ih =>
  obtain ⟨_, s2, s3, s4, sk, sy⟩ := hs
  intro m h0 h1
  obtain ⟨r, hr, r1, r2, r3⟩ := many_l0 x.f0 x.f1 x.f2 x.f3 x.f4 (by omega) (fun y hy => ih y hy (sy y hy)) m h0 h1 x.f3.length 0 1 (by omega) (by omega) (by omega)
  refine ⟨r, Ev.step hr (fun k => by rw [scruplelaw04_many.f]; rfl), r1, r2, ?_⟩
  rw [List.drop_zero] at r3
  rw [wt_eq]
  omega
theorem few_ev (x : S25) (hv : Val x) (hs : Siz x) : ∃ t, Ev (fun k => scruplelaw04_few.f k x.f0 x.f1 x.f2 x.f3 x.f4) t ∧ (wt x ≤ 5000 → t = true) := by
  obtain ⟨n, hn, _, _, h⟩ := many_ev x hv hs 5000 (by omega) (by omega)
  exact ⟨decide (n ≤ 5000), Ev.bind hn Ev.const, fun hw => decide_eq_true (by omega)⟩

/-! deep -/
theorem rdB_at (l : List ByteArray) (i : Nat) (h : i < l.length) : rdOf ByteArray.empty l (i : Int) = l[i] := by
  unfold rdOf
  rw [show ((i : Int)).toNat = i from by omega, List.getD_eq_getElem?_getD, List.getElem?_eq_getElem h]; rfl
def Alike (x : S25) : Prop := ∀ y, Val y → ∃ b, Ev (fun k => scruplelaw04_alike.f k x.f0 x.f1 x.f2 x.f3 x.f4 y.f0 y.f1 y.f2 y.f3 y.f4) b ∧ (b = true ↔ x = y)
section
variable (f0 f1 : Int) (f2 : ByteArray) (f3 : List S25) (f4 : List ByteArray) (g0 g1 : Int) (g2 : ByteArray) (g3 : List S25) (g4 : List ByteArray)
theorem alike_l1 (hl : f3.length ≤ 9223372036854775000) (h3 : g3.length = f3.length) (hg : ∀ y ∈ f3, Alike y) (hv : ∀ y ∈ g3, Val y) : ∀ (rem i : Nat), i + rem = f3.length →
    ∃ b, Ev (fun k => scruplelaw04_alike.l1 k (i : Int) f0 f1 f2 f3 f4 g0 g1 g2 g3 g4) b ∧ (b = true ↔ f3.drop i = g3.drop i) := by
  intro rem
  induction rem with
  | zero =>
    intro i hi
    refine ⟨true, Ev.step Ev.const (fun k => by rw [scruplelaw04_alike.l1, if_neg (by omega)]), ?_⟩
    rw [List.drop_eq_nil_of_le (by omega), List.drop_eq_nil_of_le (by omega)]
    simp
  | succ rem ih =>
    intro i hi
    have ei : wrap64 ((i : Int) + 1) = ((i + 1 : Nat) : Int) := by rw [X.w64 _ (by omega) (by omega)]; omega
    have hx := hg _ (at_mem f3 i (by omega)) _ (hv _ (at_mem g3 i (by omega)))
    have hd := at_drop f3 i (by omega)
    have he := at_drop g3 i (by omega)
    rw [hd, he]
    generalize hxe : rd_T25 f3 (i : Int) = x at *
    generalize hye : rd_T25 g3 (i : Int) = y at *
    obtain ⟨t, ht, e⟩ := hx
    obtain ⟨b, hb, eb⟩ := ih (i + 1) (by omega)
    have hstep : ∀ k, scruplelaw04_alike.l1 (k + 1) (i : Int) f0 f1 f2 f3 f4 g0 g1 g2 g3 g4 = (scruplelaw04_alike.f k x.f0 x.f1 x.f2 x.f3 x.f4 y.f0 y.f1 y.f2 y.f3 y.f4).bind fun t => if t = true then scruplelaw04_alike.l1 k ((i + 1 : Nat) : Int) f0 f1 f2 f3 f4 g0 g1 g2 g3 g4 else some false := fun k => by
      rw [scruplelaw04_alike.l1, if_pos (by omega), if_pos (by omega), if_pos (by omega), hxe, hye, ei]
    by_cases ct : t = true
    · refine ⟨b, Ev.step (Ev.bind (F := fun k t => if t = true then scruplelaw04_alike.l1 k ((i + 1 : Nat) : Int) f0 f1 f2 f3 f4 g0 g1 g2 g3 g4 else some false) ht (Ev.congr hb (fun k => by rw [if_pos ct]))) hstep, ?_⟩
      have := e.1 ct
      subst this
      rw [eb]
      simp
    · refine ⟨false, Ev.step (Ev.bind (F := fun k t => if t = true then scruplelaw04_alike.l1 k ((i + 1 : Nat) : Int) f0 f1 f2 f3 f4 g0 g1 g2 g3 g4 else some false) ht (Ev.congr Ev.const (fun k => by rw [if_neg ct]))) hstep, ?_⟩
      constructor
      · intro h; cases h
      · intro h
        exact absurd (e.2 (List.cons.inj h).1) ct
theorem alike_l0 (hl : f3.length ≤ 9223372036854775000) (hl4 : f4.length ≤ 9223372036854775000) (h3 : g3.length = f3.length) (h4 : g4.length = f4.length) (hg : ∀ y ∈ f3, Alike y) (hv : ∀ y ∈ g3, Val y) : ∀ (rem i : Nat), i + rem = f4.length →
    ∃ b, Ev (fun k => scruplelaw04_alike.l0 k (i : Int) f0 f1 f2 f3 f4 g0 g1 g2 g3 g4) b ∧ (b = true ↔ f4.drop i = g4.drop i ∧ f3 = g3) := by
  intro rem
  induction rem with
  | zero =>
    intro i hi
    obtain ⟨b, hb, eb⟩ := alike_l1 f0 f1 f2 f3 f4 g0 g1 g2 g3 g4 hl h3 hg hv f3.length 0 (by omega)
    refine ⟨b, Ev.step hb (fun k => by rw [scruplelaw04_alike.l0, if_neg (by omega)]; rfl), ?_⟩
    rw [eb, List.drop_zero, List.drop_zero, List.drop_eq_nil_of_le (by omega), List.drop_eq_nil_of_le (by omega)]
    simp
  | succ rem ih =>
    intro i hi
    have ei : wrap64 ((i : Int) + 1) = ((i + 1 : Nat) : Int) := by rw [X.w64 _ (by omega) (by omega)]; omega
    obtain ⟨b, hb, eb⟩ := ih (i + 1) (by omega)
    rw [at_dropB f4 i (by omega), at_dropB g4 i (by omega)]
    generalize hxe : rdOf ByteArray.empty f4 (i : Int) = s at *
    generalize hye : rdOf ByteArray.empty g4 (i : Int) = t at *
    by_cases c : s.toList = t.toList
    · have := toList_inj c
      subst this
      refine ⟨b, Ev.step hb (fun k => by rw [scruplelaw04_alike.l0, if_pos (by omega), if_pos (by omega), if_pos (by omega), hxe, hye, if_pos rfl, ei]), ?_⟩
      rw [eb]
      simp
    · refine ⟨false, Ev.step Ev.const (fun k => by rw [scruplelaw04_alike.l0, if_pos (by omega), if_pos (by omega), if_pos (by omega), hxe, hye, if_neg c]), ?_⟩
      constructor
      · intro h; cases h
      · intro h
        exact absurd (congrArg ByteArray.toList (List.cons.inj h.1).1) c
end
theorem alike_ev (x : S25) (hv : Val x) (hs : Siz x) : Alike x := by
  induction hv with
  | mk x a0 b0 a1 b1 h2 h3 h4 k4 _ ih =>
  obtain ⟨_, s2, s3, s4, sk, sy⟩ := hs
  intro y hy
  have hg : ∀ z ∈ x.f3, Alike z := fun z hz => ih z hz (sy z hz)
  obtain ⟨_, c0, d0, c1, d1, g2, g3, g4, l4, l3⟩ := hy
  have hno : Ev (fun k => scruplelaw04_alike.j0 k true x.f0 x.f1 x.f2 x.f3 x.f4 y.f0 y.f1 y.f2 y.f3 y.f4) false := Ev.step Ev.const (fun k => by rw [scruplelaw04_alike.j0, if_pos rfl])
  by_cases e0 : x.f0 = y.f0
  case neg => exact ⟨false, Ev.step hno (fun k => by rw [scruplelaw04_alike.f, if_neg e0]), ⟨fun h => by (cases h), fun h => absurd (by rw [h]) e0⟩⟩
  by_cases e1 : x.f1 = y.f1
  case neg => exact ⟨false, Ev.step hno (fun k => by rw [scruplelaw04_alike.f, if_pos e0, if_neg e1]), ⟨fun h => by (cases h), fun h => absurd (by rw [h]) e1⟩⟩
  by_cases e2 : x.f2.toList = y.f2.toList
  case neg => exact ⟨false, Ev.step hno (fun k => by rw [scruplelaw04_alike.f, if_pos e0, if_pos e1, if_neg e2]), ⟨fun h => by (cases h), fun h => absurd (by rw [h]) e2⟩⟩
  by_cases e3 : (x.f3.length : Int) = (y.f3.length : Int)
  case neg => exact ⟨false, Ev.step hno (fun k => by rw [scruplelaw04_alike.f, if_pos e0, if_pos e1, if_pos e2, if_neg e3]), ⟨fun h => by (cases h), fun h => absurd (by rw [h]) e3⟩⟩
  have hf : ∀ k, scruplelaw04_alike.f (k + 1) x.f0 x.f1 x.f2 x.f3 x.f4 y.f0 y.f1 y.f2 y.f3 y.f4 = scruplelaw04_alike.j0 k ((x.f4.length : Int) != (y.f4.length : Int)) x.f0 x.f1 x.f2 x.f3 x.f4 y.f0 y.f1 y.f2 y.f3 y.f4 := fun k => by
    rw [scruplelaw04_alike.f, if_pos e0, if_pos e1, if_pos e2, if_pos e3]
  by_cases e4 : (x.f4.length : Int) = (y.f4.length : Int)
  · obtain ⟨b, hb, eb⟩ := alike_l0 x.f0 x.f1 x.f2 x.f3 x.f4 y.f0 y.f1 y.f2 y.f3 y.f4 (by omega) (by omega) (by omega) (by omega) hg l3 x.f4.length 0 (by omega)
    have hne : ((x.f4.length : Int) != (y.f4.length : Int)) = false := by simpa using e4
    refine ⟨b, Ev.step (Ev.step hb (fun k => ?_)) hf, ?_⟩
    · rw [hne, scruplelaw04_alike.j0, if_neg (by simp)]; rfl
    · rw [eb, List.drop_zero, List.drop_zero]
      exact ⟨fun h => ext25 e0 e1 (toList_inj e2) h.2 h.1, fun h => by rw [h]; exact ⟨rfl, rfl⟩⟩
  · have hne : ((x.f4.length : Int) != (y.f4.length : Int)) = true := by simpa using e4
    refine ⟨false, Ev.step (Ev.congr hno (fun k => by rw [hne])) hf, ⟨fun h => by (cases h), fun h => absurd (by rw [h]) e4⟩⟩

/-! Right, Encode -/
end Go.Proofs.Ytnkbobblnhaclaa.X

