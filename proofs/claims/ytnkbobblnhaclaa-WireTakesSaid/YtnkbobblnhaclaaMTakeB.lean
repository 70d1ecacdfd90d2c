/- MTakeB: texts of this claim, one behind the other. -/
import Derived.Test.YtnkbobblnhaclaaXx0
import Derived.Test.YtnkbobblnhaclaaXWords
import Derived.WalkLawsBesides
import Derived.Laws.Pointers
import Derived.Shelf.Abstract
import Derived.Deep.DeepMust
import Derived.Deep.QuietTactic
import Derived.BigQuiet
import Derived.Defers
import Derived.Recover
import Derived.Test.YtnkbobblnhaclaaMTakeA
import Derived.ArgAppend
import Derived.Test.YtnkbobblnhaclaaXxscruplelaw04few
import Derived.Test.YtnkbobblnhaclaaXxstill0
set_option linter.unusedVariables false
set_option linter.unusedSimpArgs false
/- Xxwtree: walks by hand, for the claim. -/
namespace Go.Proofs.Ytnkbobblnhaclaa.X
open Go.RowKit Go.Proofs.YtnkbobblnhaclaaW.PrintWords Go.Proofs.YtnkbobblnhaclaaW.PrintLast Go.Proofs.YtnkbobblnhaclaaW.PrintMore Go.Proofs.YtnkbobblnhaclaaW
section
set_option maxHeartbeats 4000000
set_option maxRecDepth 100000
/-- A row of texts in blocks of Y. -/
def wt.KRow (w : World) (Y : Nat → Prop) (v : Value) (ks : List ByteArray) : Prop :=
  (v = .slice none 0 0 ∧ ks = []) ∨ ∃ b c cs, v = .slice (some ⟨b, 0, none⟩) ks.length c ∧ Y b ∧ w.heap[b]? = some (.cells cs 9 (0, 0)) ∧ ks.length ≤ c ∧ c ≤ cs.size ∧ c ≤ 9223372036854775807 ∧ ∀ (i : Nat) k, ks[i]? = some k → cs[i]? = some (.string k)
/-- Five cells behind one another. -/
def wt.grp (cs : Array Value) (o : Nat) (v0 v1 v2 v3 v4 : Value) : Prop := cs[o]? = some v0 ∧ cs[o + 1]? = some v1 ∧ cs[o + 2]? = some v2 ∧ cs[o + 3]? = some v3 ∧ cs[o + 4]? = some v4
/-- A row of values in blocks of Y, so many values deep. -/
def wt.VRow (w : World) (Y : Nat → Prop) : Nat → Value → List S25 → Prop
  | 0, _, _ => False
  | d + 1, v, xs => (v = .slice none 0 0 ∧ xs = []) ∨ ∃ b c cs, v = .slice (some ⟨b, 0, none⟩) xs.length c ∧ Y b ∧ w.heap[b]? = some (.cells cs 25 (0, 0)) ∧ xs.length ≤ c ∧ c * 5 ≤ cs.size ∧ c ≤ 9223372036854775807 ∧ ∀ (i : Nat) x, xs[i]? = some x → ∃ u3 u4, wt.grp cs (i * 5) (.int .i64 x.f0) (.int .i64 x.f1) (.string x.f2) u3 u4 ∧ wt.VRow w Y d u3 x.f3 ∧ wt.KRow w Y u4 x.f4
/-- So many values deep at most. -/
def wt.deepL : Nat → List S25 → Prop
  | 0, _ => False
  | d + 1, xs => ∀ x ∈ xs, wt.deepL d x.f3
theorem wt.deepL_nil (d : Nat) : wt.deepL (d + 1) [] := fun x hx => by cases hx
theorem wt.VRow.nil (w : World) (Y : Nat → Prop) (d : Nat) : wt.VRow w Y (d + 1) (.slice none 0 0) [] := Or.inl ⟨rfl, rfl⟩
theorem wt.seg_at {inner L : List Value} {o n j : Nat} {q : Value} (h : (inner.drop o).take n = L) (hq : L[j]? = some q) : inner[o + j]? = some q := by
  rw [← h, List.getElem?_take] at hq
  split at hq
  · rwa [List.getElem?_drop] at hq
  · cases hq
theorem wt.take_at {cur : Array Value} {m j : Nat} {q : Value} {inner : List Value} (h : cur.toList.take m = inner) (hq : inner[j]? = some q) : cur[j]? = some q := by
  rw [← h, List.getElem?_take] at hq
  split at hq
  · rwa [Array.getElem?_toList] at hq
  · cases hq
theorem wt.KRow.of_R {w : World} {Y ok : Nat → Prop} {base : Nat} {v : Value} {ks : List ByteArray} (h : Kd.string.R 9 w base ok v ks) (hY : ∀ k, ok k → Y k) : wt.KRow w Y v ks := by
  obtain ⟨h0, inner, ho, hr⟩ := h
  rcases ho.2 with ⟨rfl, hn⟩ | ⟨g, cap, cur, rfl, hb, hh, hl, hm, hsz, hi⟩
  · exact Or.inl ⟨rfl, List.length_eq_zero_iff.1 hn⟩
  · refine Or.inr ⟨g, cap, cur, rfl, hY g (h0 g rfl), hh, hl, ?_, hm, fun i k hk => ?_⟩
    · have : cur.size = cap * 1 := hsz
      omega
    · have h1 : (inner.drop (i * 1)).take 1 = [.string k] := hr.2 i k hk
      have h2 := wt.seg_at h1 (j := 0) rfl
      have h3 := wt.take_at hi h2
      rwa [Nat.mul_one, Nat.add_zero] at h3
theorem wt.VRow.of_R {w : World} {Y : Nat → Prop} {base : Nat} : ∀ (d : Nat) {ok : Nat → Prop} {v : Value} {xs : List S25}, k25.R 25 w base ok v xs → (∀ k, ok k → Y k) → wt.deepL d xs → wt.VRow w Y d v xs
  | 0, ok, v, xs, h, hY, hd => hd.elim
  | d + 1, ok, v, xs, h, hY, hd => by
    obtain ⟨h0, inner, ho, hr⟩ := h
    rcases ho.2 with ⟨rfl, hn⟩ | ⟨g, cap, cur, rfl, hb, hh, hl, hm, hsz, hi⟩
    · exact Or.inl ⟨rfl, List.length_eq_zero_iff.1 hn⟩
    · refine Or.inr ⟨g, cap, cur, rfl, hY g (h0 g rfl), hh, hl, ?_, hm, fun i x hx => ?_⟩
      · have : cur.size = cap * 5 := hsz
        omega
      · have hM := hr.2 i x hx
        obtain ⟨v3, v4, hcs, g3, g4⟩ := k25_openM hM
        have hcs' : (inner.drop (i * 5)).take 5 = [.int .i64 x.f0, .int .i64 x.f1, .string x.f2, v3, v4] := hcs
        have hx2 : x ∈ xs := List.mem_of_getElem? hx
        exact ⟨v3, v4, ⟨wt.take_at hi (wt.seg_at hcs' (j := 0) rfl), wt.take_at hi (wt.seg_at hcs' (j := 1) rfl), wt.take_at hi (wt.seg_at hcs' (j := 2) rfl), wt.take_at hi (wt.seg_at hcs' (j := 3) rfl), wt.take_at hi (wt.seg_at hcs' (j := 4) rfl)⟩, wt.VRow.of_R d g3 (fun k hk => hY k hk.1) (hd x hx2), wt.KRow.of_R g4 (fun k hk => hY k hk.1)⟩
theorem wt.cell_of {w : World} {b i t : Nat} {cs : Array Value} {q : Value} (h : w.heap[b]? = some (.cells cs t (0, 0))) (hi : cs[i]? = some q) : w.cell? ⟨b, i, none⟩ = some q := by
  have h2 := blk_cell h i
  rw [h2]; exact hi
theorem wt.KRow.C {w : World} {Y : Nat → Prop} {v : Value} {ks : List ByteArray} (h : wt.KRow w Y v ks) : ∃ A c, v = .slice A ks.length c ∧ ks.length ≤ c ∧ Kd.string.C w A ks.length ks := by
  rcases h with ⟨rfl, rfl⟩ | ⟨b, c, cs, rfl, _, hh, hl, hsz, hm, hc⟩
  · exact ⟨none, 0, rfl, Nat.le_refl _, rfl, by simp, fun hp => absurd hp (by decide)⟩
  · refine ⟨_, c, rfl, hl, rfl, by omega, fun hp => ⟨_, rfl, fun j p hj => ⟨[.string p], rfl, rfl, fun i u hu => ?_⟩⟩⟩
    cases i with
    | succ i => simp at hu
    | zero =>
      have : u = .string p := by simpa using hu.symm
      subst this
      have h1 := wt.cell_of hh (hc j p hj)
      have e : (⟨b, 0, none⟩ : Addr).add (j * Kd.string.sz + 0) = ⟨b, j, none⟩ := by
        rw [Addr.add_lit]
        show (⟨b, 0 + (j * 1 + 0), none⟩ : Addr) = _
        rw [show 0 + (j * 1 + 0) = j from by omega]
      rw [e]; exact h1
theorem wt.VRow.C {w : World} {Y : Nat → Prop} : ∀ (d : Nat) {v : Value} {xs : List S25}, wt.VRow w Y d v xs → ∃ A c, v = .slice A xs.length c ∧ xs.length ≤ c ∧ k25.C w A xs.length xs
  | 0, v, xs, h => h.elim
  | d + 1, v, xs, h => by
    rcases h with ⟨rfl, rfl⟩ | ⟨b, c, cs, rfl, _, hh, hl, hsz, hm, hc⟩
    · exact ⟨none, 0, rfl, Nat.le_refl _, rfl, by simp, fun hp => absurd hp (by decide)⟩
    · refine ⟨_, c, rfl, hl, rfl, by omega, fun hp => ⟨_, rfl, fun j p hj => ?_⟩⟩
      obtain ⟨u3, u4, ⟨q0, q1, q2, q3, q4⟩, r3, r4⟩ := hc j p hj
      obtain ⟨A3, c3, e3, l3, g3⟩ := wt.VRow.C d r3
      obtain ⟨A4, c4, e4, l4, g4⟩ := r4.C
      subst e3; subst e4
      refine ⟨[.int .i64 p.f0, .int .i64 p.f1, .string p.f2, .slice A3 p.f3.length c3, .slice A4 p.f4.length c4], rfl, k25_mk w p l3 g3 l4 g4, fun i u hu => ?_⟩
      have e : ∀ i, (⟨b, 0, none⟩ : Addr).add (j * k25.sz + i) = ⟨b, j * 5 + i, none⟩ := fun i => by
        rw [Addr.add_lit]
        show (⟨b, 0 + (j * 5 + i), none⟩ : Addr) = _
        rw [Nat.zero_add]
      rw [e]
      match i, hu with
      | 0, hu => have : u = .int .i64 p.f0 := by simpa using hu.symm
                 subst this; exact wt.cell_of hh q0
      | 1, hu => have : u = .int .i64 p.f1 := by simpa using hu.symm
                 subst this; exact wt.cell_of hh q1
      | 2, hu => have : u = .string p.f2 := by simpa using hu.symm
                 subst this; exact wt.cell_of hh q2
      | 3, hu => have : u = .slice A3 p.f3.length c3 := by simpa using hu.symm
                 subst this; exact wt.cell_of hh q3
      | 4, hu => have : u = .slice A4 p.f4.length c4 := by simpa using hu.symm
                 subst this; exact wt.cell_of hh q4
      | i + 5, hu => simp at hu
theorem wt.KRow.move {w w1 : World} {Y Y1 : Nat → Prop} {v : Value} {ks : List ByteArray} (h : wt.KRow w Y v ks) (hY : ∀ k, Y k → Y1 k) (hm : ∀ k, Y k → k < w.heap.size → w1.heap[k]? = w.heap[k]?) : wt.KRow w1 Y1 v ks := by
  rcases h with ⟨rfl, rfl⟩ | ⟨b, c, cs, rfl, hy, hh, hl, hsz, hmx, hc⟩
  · exact Or.inl ⟨rfl, rfl⟩
  · exact Or.inr ⟨b, c, cs, rfl, hY b hy, (hm b hy (blk_lt hh)).trans hh, hl, hsz, hmx, hc⟩
theorem wt.VRow.move {w w1 : World} {Y Y1 : Nat → Prop} (hY : ∀ k, Y k → Y1 k) (hm : ∀ k, Y k → k < w.heap.size → w1.heap[k]? = w.heap[k]?) : ∀ (d : Nat) {v : Value} {xs : List S25}, wt.VRow w Y d v xs → wt.VRow w1 Y1 d v xs
  | 0, v, xs, h => h.elim
  | d + 1, v, xs, h => by
    rcases h with ⟨rfl, rfl⟩ | ⟨b, c, cs, rfl, hy, hh, hl, hsz, hmx, hc⟩
    · exact Or.inl ⟨rfl, rfl⟩
    · refine Or.inr ⟨b, c, cs, rfl, hY b hy, (hm b hy (blk_lt hh)).trans hh, hl, hsz, hmx, fun j p hj => ?_⟩
      obtain ⟨u3, u4, hg, r3, r4⟩ := hc j p hj
      exact ⟨u3, u4, hg, wt.VRow.move hY hm d r3, r4.move hY hm⟩
/-- A slice without spare room. -/
def wt.clipv : Value → Value
  | .slice A n _ => .slice A n n
  | v => v
theorem wt.clip2 (v : Value) : wt.clipv (wt.clipv v) = wt.clipv v := by
  cases v <;> rfl
/-- Only spare room is gone, in blocks of Y. -/
structure wt.SimT (Y : Nat → Prop) (w w1 : World) : Prop where
  os : w1.os = w.os
  tape : w1.tape = w.tape
  output : w1.output = w.output
  size : w.heap.size ≤ w1.heap.size
  out : ∀ k, k < w.heap.size → ¬ Y k → w1.heap[k]? = w.heap[k]?
  ins : ∀ k, Y k → k < w.heap.size → w1.heap[k]? = w.heap[k]? ∨ ∃ cs cs' : Array Value, w.heap[k]? = some (.cells cs 25 (0, 0)) ∧ w1.heap[k]? = some (.cells cs' 25 (0, 0)) ∧ cs'.size = cs.size ∧ ∀ i : Nat, cs'[i]? = cs[i]? ∨ cs'[i]? = (cs[i]?).map wt.clipv
theorem wt.SimT.of_below {Y : Nat → Prop} {w w1 : World} (h : Below w.heap.size w w1) : wt.SimT Y w w1 := ⟨h.os, h.tape, h.output, h.size, fun k hk _ => h.block k hk, fun k _ hk => Or.inl (h.block k hk)⟩
theorem wt.SimT.refl (Y : Nat → Prop) (w : World) : wt.SimT Y w w := wt.SimT.of_below (Below.refl _ _)
theorem wt.SimT.trans {Y : Nat → Prop} {w w1 w2 : World} (h : wt.SimT Y w w1) (k : wt.SimT Y w1 w2) : wt.SimT Y w w2 := by
  refine ⟨k.os.trans h.os, k.tape.trans h.tape, k.output.trans h.output, Nat.le_trans h.size k.size, fun i hi hy => (k.out i (Nat.lt_of_lt_of_le hi h.size) hy).trans (h.out i hi hy), fun i hy hi => ?_⟩
  rcases k.ins i hy (Nat.lt_of_lt_of_le hi h.size) with e | ⟨cs1, cs2, e1, e2, e3, e4⟩
  · rw [e]; exact h.ins i hy hi
  · rcases h.ins i hy hi with f | ⟨ds1, ds2, f1, f2, f3, f4⟩
    · exact Or.inr ⟨cs1, cs2, f ▸ e1, e2, e3, e4⟩
    · rw [f2] at e1
      injection e1 with e1
      injection e1 with e1
      subst e1
      refine Or.inr ⟨ds1, cs2, f1, e2, e3.trans f3, fun j => ?_⟩
      rcases e4 j with q | q <;> rcases f4 j with r | r
      · exact Or.inl (q.trans r)
      · exact Or.inr (q.trans r)
      · exact Or.inr (by rw [q, r])
      · refine Or.inr ?_
        rw [q, r]
        cases ds1[j]? with
        | none => rfl
        | some x => simp [wt.clip2]
theorem wt.SimT.far {Y : Nat → Prop} {w w1 w2 : World} (h : wt.SimT Y w w1) {g : Nat} (hgr : w1.grownBy w2 (some g)) (hg : w.heap.size ≤ g) : wt.SimT Y w w2 := by
  have hb : ∀ i, i < w.heap.size → w2.heap[i]? = w1.heap[i]? := fun i hi => hgr.block i (Nat.lt_of_lt_of_le hi h.size) (fun e => absurd (Option.some.inj e) (by omega))
  refine ⟨hgr.os.trans h.os, hgr.tape.trans h.tape, hgr.output.trans h.output, Nat.le_trans h.size hgr.size, fun i hi hy => (hb i hi).trans (h.out i hi hy), fun i hy hi => ?_⟩
  rw [hb i hi]
  exact h.ins i hy hi
theorem wt.SimT.set {Y : Nat → Prop} {w w1 : World} (h : wt.SimT Y w w1) {a : Addr} (hg : w.heap.size ≤ a.block) (v : Value) : wt.SimT Y w (w1.setCell a v) := by
  have hb : ∀ i, i < w.heap.size → (w1.setCell a v).heap[i]? = w1.heap[i]? := fun i hi => Below.heap_setCell w1 a v i (by omega)
  refine ⟨h.os, h.tape, h.output, by rw [Deep.nblk_setCell]; exact h.size, fun i hi hy => (hb i hi).trans (h.out i hi hy), fun i hy hi => ?_⟩
  rw [hb i hi]
  exact h.ins i hy hi
/-- Of a call's own view: what it did to blocks of Y, and to none that was there besides. -/
theorem wt.SimT.below {Y : Nat → Prop} {w w1 : World} (h : wt.SimT Y w w1) {n : Nat} (hY : ∀ k, Y k → n ≤ k) (hn : n ≤ w.heap.size) : Below n w w1 :=
  ⟨h.os, h.tape, h.output, h.size, fun k hk => h.out k (by omega) (fun y => by have := hY k y; omega)⟩
theorem wt.KRow.simT {Y : Nat → Prop} {w w1 : World} (hS : wt.SimT Y w w1) {v : Value} {ks : List ByteArray} (h : wt.KRow w Y v ks) : wt.KRow w1 Y v ks ∧ wt.KRow w1 Y (wt.clipv v) ks := by
  rcases h with ⟨rfl, rfl⟩ | ⟨b, c, cs, rfl, hy, hh, hl, hsz, hmx, hc⟩
  · exact ⟨Or.inl ⟨rfl, rfl⟩, Or.inl ⟨rfl, rfl⟩⟩
  · have h1 : w1.heap[b]? = some (.cells cs 9 (0, 0)) := by
      rcases hS.ins b hy (blk_lt hh) with e | ⟨cs1, cs2, e1, _⟩
      · exact e.trans hh
      · rw [hh] at e1
        injection e1 with e1
        injection e1 with _ e1
        exact absurd e1 (by decide)
    exact ⟨Or.inr ⟨b, c, cs, rfl, hy, h1, hl, hsz, hmx, hc⟩, Or.inr ⟨b, _, cs, rfl, hy, h1, Nat.le_refl _, by omega, by omega, hc⟩⟩
theorem wt.VRow.simT {Y : Nat → Prop} {w w1 : World} (hS : wt.SimT Y w w1) : ∀ (d : Nat) {v : Value} {xs : List S25}, wt.VRow w Y d v xs → wt.VRow w1 Y d v xs ∧ wt.VRow w1 Y d (wt.clipv v) xs
  | 0, v, xs, h => h.elim
  | d + 1, v, xs, h => by
    rcases h with ⟨rfl, rfl⟩ | ⟨b, c, cs, rfl, hy, hh, hl, hsz, hmx, hc⟩
    · exact ⟨Or.inl ⟨rfl, rfl⟩, Or.inl ⟨rfl, rfl⟩⟩
    · have h1 : ∃ cs', w1.heap[b]? = some (.cells cs' 25 (0, 0)) ∧ cs'.size = cs.size ∧ ∀ i : Nat, cs'[i]? = cs[i]? ∨ cs'[i]? = (cs[i]?).map wt.clipv := by
        rcases hS.ins b hy (blk_lt hh) with e | ⟨cs1, cs2, e1, e2, e3, e4⟩
        · exact ⟨cs, e.trans hh, rfl, fun i => Or.inl rfl⟩
        · rw [hh] at e1
          injection e1 with e1
          injection e1 with e1
          subst e1
          exact ⟨cs2, e2, e3, e4⟩
      obtain ⟨cs', h1, h2, h3⟩ := h1
      have hgr : ∀ (i : Nat) x, xs[i]? = some x → ∃ u3 u4, wt.grp cs' (i * 5) (.int .i64 x.f0) (.int .i64 x.f1) (.string x.f2) u3 u4 ∧ wt.VRow w1 Y d u3 x.f3 ∧ wt.KRow w1 Y u4 x.f4 := fun i x hx => by
        obtain ⟨u3, u4, ⟨q0, q1, q2, q3, q4⟩, r3, r4⟩ := hc i x hx
        have s3 := wt.VRow.simT hS d r3
        have s4 := wt.KRow.simT hS r4
        have keep : ∀ j q, cs[j]? = some q → wt.clipv q = q → cs'[j]? = some q := fun j q e1 e2 => by
          rcases h3 j with e | e
          · rw [e, e1]
          · rw [e, e1]; simp [e2]
        have t0 := keep _ _ q0 rfl
        have t1 := keep _ _ q1 rfl
        have t2 := keep _ _ q2 rfl
        have t3 : cs'[i * 5 + 3]? = some u3 ∨ cs'[i * 5 + 3]? = some (wt.clipv u3) := by
          rcases h3 (i * 5 + 3) with e | e
          · exact Or.inl (by rw [e, q3])
          · exact Or.inr (by rw [e, q3]; rfl)
        have t4 : cs'[i * 5 + 4]? = some u4 ∨ cs'[i * 5 + 4]? = some (wt.clipv u4) := by
          rcases h3 (i * 5 + 4) with e | e
          · exact Or.inl (by rw [e, q4])
          · exact Or.inr (by rw [e, q4]; rfl)
        rcases t3 with t3 | t3 <;> rcases t4 with t4 | t4
        · exact ⟨_, _, ⟨t0, t1, t2, t3, t4⟩, s3.1, s4.1⟩
        · exact ⟨_, _, ⟨t0, t1, t2, t3, t4⟩, s3.1, s4.2⟩
        · exact ⟨_, _, ⟨t0, t1, t2, t3, t4⟩, s3.2, s4.1⟩
        · exact ⟨_, _, ⟨t0, t1, t2, t3, t4⟩, s3.2, s4.2⟩
      exact ⟨Or.inr ⟨b, c, cs', rfl, hy, h1, hl, by omega, hmx, hgr⟩, Or.inr ⟨b, _, cs', rfl, hy, h1, Nat.le_refl _, by omega, by omega, hgr⟩⟩
/-- A group of cells is written anew, without spare room. -/
theorem wt.SimT.store {Y : Nat → Prop} {w w7 W1 : World} (h : wt.SimT Y w w7) {b o : Nat} {cs cs' : Array Value} (hy : Y b) (hb : w.heap[b]? = some (.cells cs 25 (0, 0))) {v0 v1 v2 v3 v4 : Value} (hg : wt.grp cs o v0 v1 v2 v3 v4) (hgr : w7.grownBy W1 (some b))
    (h1 : W1.heap[b]? = some (.cells cs' 25 (0, 0))) (hsz : cs'.size = cs.size) (hn : wt.grp cs' o (wt.clipv v0) (wt.clipv v1) (wt.clipv v2) (wt.clipv v3) (wt.clipv v4)) (hrest : ∀ cs7, w7.heap[b]? = some (.cells cs7 25 (0, 0)) → ∀ j, j < o ∨ o + 5 ≤ j → cs'[j]? = cs7[j]?) : wt.SimT Y w W1 := by
  have hne : ∀ i, i < w.heap.size → i ≠ b → W1.heap[i]? = w7.heap[i]? := fun i hi hib => hgr.block i (Nat.lt_of_lt_of_le hi h.size) (fun e => hib (Option.some.inj e))
  refine ⟨hgr.os.trans h.os, hgr.tape.trans h.tape, hgr.output.trans h.output, Nat.le_trans h.size hgr.size, fun i hi hi2 => (hne i hi (fun e => hi2 (e ▸ hy))).trans (h.out i hi hi2), fun i hi hlt => ?_⟩
  by_cases hib : i = b
  · subst hib
    obtain ⟨cs7, k1, k2⟩ : ∃ cs7, w7.heap[i]? = some (.cells cs7 25 (0, 0)) ∧ ∀ j, cs7[j]? = cs[j]? ∨ cs7[j]? = (cs[j]?).map wt.clipv := by
      rcases h.ins i hy hlt with e | ⟨cs1, cs2, e1, e2, e3, e4⟩
      · exact ⟨cs, e.trans hb, fun j => Or.inl rfl⟩
      · rw [hb] at e1
        injection e1 with e1
        injection e1 with e1
        subst e1
        exact ⟨cs2, e2, e4⟩
    refine Or.inr ⟨cs, cs', hb, h1, hsz, fun j => ?_⟩
    by_cases hj : j < o ∨ o + 5 ≤ j
    · rw [hrest cs7 k1 j hj]
      exact k2 j
    · obtain ⟨m, rfl, hm⟩ : ∃ m, j = o + m ∧ m < 5 := ⟨j - o, by omega, by omega⟩
      obtain ⟨q0, q1, q2, q3, q4⟩ := hg
      obtain ⟨p0, p1, p2, p3, p4⟩ := hn
      match m, hm with
      | 0, _ => exact Or.inr (by rw [show o + 0 = o from rfl, p0, q0]; rfl)
      | 1, _ => exact Or.inr (by rw [p1, q1]; rfl)
      | 2, _ => exact Or.inr (by rw [p2, q2]; rfl)
      | 3, _ => exact Or.inr (by rw [p3, q3]; rfl)
      | 4, _ => exact Or.inr (by rw [p4, q4]; rfl)
  · rw [hne i hlt hib]
    exact h.ins i hi hlt
section
variable {P : Program} {ops : Array Oper} {Q : Exit → Act → World → Prop}
/-- A whole value is laid into five cells, in a region that draws. -/
theorem wt.st25 {oi : Oper} {a : Act} {W : World} {K : Act → World → Prop} (t : TypeId) (hw : Region.wanted oi (yielded ops a.tmps) = true) (hN : oi.dst = none) (p : Tmp) (x : Operand) (ho : oi.op = .store t (.tmp p) x) (hinf : (P.info? t).map (·.size) = some 5) (b o : Nat) (haddr : a.eval (.tmp p) = .pointer (some ⟨b, o, none⟩)) (v0 v1 v2 v3 v4 : Value) (hx : a.eval x = .agg #[v0, v1, v2, v3, v4]) (h1 : ∀ q ∈ [v0, v1, v2, v3, v4], q.oneCell' = true) (cur : Array Value) (e : TypeId) (hsz : o + 5 ≤ cur.size) (hh : W.heap[b]? = some (.cells cur e (0, 0)))
    (h : ∀ W1 cur', W1.heap[b]? = some (.cells cur' e (0, 0)) → cur'.size = cur.size → wt.grp cur' o v0 v1 v2 v3 v4 → (∀ j, j < o ∨ o + 5 ≤ j → cur'[j]? = cur[j]?) → W.grownBy W1 (some b) → K a W1) : if Region.wanted oi (yielded ops a.tmps) = true then Oper.wp P oi a W K Q else K (a.put none undef) W := by
  have hu : (Value.agg #[v0, v1, v2, v3, v4]).cells.toList = [v0, v1, v2, v3, v4] := by simp [Value.cells]
  have hrun : (Instr.storeAt t (.pointer (some ⟨b, o, none⟩)) (.agg #[v0, v1, v2, v3, v4])).run P W = .ok () (W.setCells b o [v0, v1, v2, v3, v4]) :=
    run_store_run t _ [v0, v1, v2, v3, v4] hh hu hinf hsz h1
  obtain ⟨cur', c1, c2, c3⟩ := setCells_row [v0, v1, v2, v3, v4] o W cur hh hsz
  obtain ⟨s1, s2, s3, s4⟩ := setCells_same b [v0, v1, v2, v3, v4] o W
  have hlen : (cur.toList.take o).length = o := by rw [List.length_take, Array.length_toList]; omega
  have hat : ∀ j, cur'[j]? = (cur.toList.take o ++ [v0, v1, v2, v3, v4] ++ cur.toList.drop (o + 5))[j]? := fun j => by rw [← Array.getElem?_toList, c3]; rfl
  have hin : ∀ m, m < 5 → cur'[o + m]? = [v0, v1, v2, v3, v4][m]? := fun m hm => by
    rw [hat, List.append_assoc, List.getElem?_append_right (by omega), hlen, Nat.add_sub_cancel_left, List.getElem?_append_left (by simpa using hm)]
  refine skip_ hw hN (w1 := W.setCells b o [v0, v1, v2, v3, v4]) ?_ (h _ cur' c1 c2 ⟨hin 0 (by omega), hin 1 (by omega), hin 2 (by omega), hin 3 (by omega), hin 4 (by omega)⟩ (fun j hj => ?_) ⟨s1, s2, s3, by omega, fun k hk hne => setCells_far _ _ k (fun e => hne (by rw [e]))⟩)
  · unfold execOp
    simp only [ho, haddr, hx, Sem.run_bind, Sem.run_pure, Result.andThen_ok, hrun]
  · rw [hat]
    rcases hj with hj | hj
    · rw [List.append_assoc, List.getElem?_append_left (by omega), List.getElem?_take, if_pos hj, Array.getElem?_toList]
    · rw [List.append_assoc, List.getElem?_append_right (by omega), hlen, List.getElem?_append_right (by simp; omega), List.getElem?_drop]
      have e : o + 5 + (j - o - [v0, v1, v2, v3, v4].length) = j := by simp; omega
      rw [e, Array.getElem?_toList]
end
end
end Go.Proofs.Ytnkbobblnhaclaa.X

/- Xxwtight: walks by hand, for the claim. -/
namespace Go.Proofs.Ytnkbobblnhaclaa.X
open Go.RowKit Go.Proofs.YtnkbobblnhaclaaW.PrintWords Go.Proofs.YtnkbobblnhaclaaW.PrintLast Go.Proofs.YtnkbobblnhaclaaW.PrintMore Go.Proofs.YtnkbobblnhaclaaW
section
set_option maxHeartbeats 4000000
set_option maxRecDepth 100000
theorem wt.cutc {P : Program} (t e : TypeId) {i : TypeInfo} (ht : P.underlying t = some (.slice e)) (hi : P.info? e = some i) (A : Option Addr) (n c : Nat) (hc : n ≤ c) :
    ∀ W : World, (Instr.slice t (.slice A n c) none (some (.int .i64 (n : Int))) (some (.int .i64 (n : Int)))).run P W = .ok (.slice A n n) W := by
  intro W
  have hel : P.elem t = e := by simp [Program.elem, ht]
  have hu : P.underlying t = some (.slice (P.elem t)) := by rw [hel]; exact ht
  have ha : (A.map fun x => x.add 0) = A := by cases A <;> simp [Addr.add]
  rw [run_slice_hm W t A n c hu .i64 .i64 n n (by omega) (by omega) (by omega), hel]
  simp [sizeOf, typeInfo, hi, sliced, Result.andThen, ha]
theorem wt.clip56 (A : Option Addr) (n c : Nat) (hc : n ≤ c) (w : World) : Calls Try.prog 56 #[.slice A n c] w fun e w' => e = .returned (.slice A n n) ∧ Below w.heap.size w w' := by
  obtain ⟨i0, hi0, _, _, _⟩ := info_parts info9
  have hcut := wt.cutc (P := Try.prog) 23 9 Try.underlying23 hi0 A n c hc
  clear hi0
  go_enter Try.func56, Try.ntmps56
  go_wp2
  go_ret
  exact ⟨rfl, Below.refl _ _⟩
theorem wt.clip57 (A : Option Addr) (n c : Nat) (hc : n ≤ c) (w : World) : Calls Try.prog 57 #[.slice A n c] w fun e w' => e = .returned (.slice A n n) ∧ Below w.heap.size w w' := by
  obtain ⟨i0, hi0, _, _, _⟩ := info_parts info25
  have hcut := wt.cutc (P := Try.prog) 22 25 Try.underlying22 hi0 A n c hc
  clear hi0
  go_enter Try.func57, Try.ntmps57
  go_wp2
  go_ret
  exact ⟨rfl, Below.refl _ _⟩
/-- Five cells from a place on. -/
def wt.five (w : World) (p : Addr) (v0 v1 v2 v3 v4 : Value) : Prop := w.cell? p = some v0 ∧ w.cell? ⟨p.block, p.off + 1, none⟩ = some v1 ∧ w.cell? ⟨p.block, p.off + 2, none⟩ = some v2 ∧ w.cell? ⟨p.block, p.off + 3, none⟩ = some v3 ∧ w.cell? ⟨p.block, p.off + 4, none⟩ = some v4
theorem wt.five.of {w : World} {b o : Nat} {cs : Array Value} {v0 v1 v2 v3 v4 : Value} (h : w.heap[b]? = some (.cells cs 25 (0, 0))) (hg : wt.grp cs o v0 v1 v2 v3 v4) {ad : Addr} (ha : ad = ⟨b, 0, none⟩) : wt.five w (ad.add o) v0 v1 v2 v3 v4 := by
  subst ha
  rw [Addr.add_lit, Nat.zero_add]
  exact ⟨wt.cell_of h hg.1, wt.cell_of h hg.2.1, wt.cell_of h hg.2.2.1, wt.cell_of h hg.2.2.2.1, wt.cell_of h hg.2.2.2.2⟩
theorem wt.SimT.block {Y : Nat → Prop} {w w1 : World} (h : wt.SimT Y w w1) {b : Nat} {cs : Array Value} (hy : Y b) (hb : w.heap[b]? = some (.cells cs 25 (0, 0))) : ∃ cs', w1.heap[b]? = some (.cells cs' 25 (0, 0)) ∧ cs'.size = cs.size := by
  rcases h.ins b hy (blk_lt hb) with e | ⟨cs1, cs2, e1, e2, e3, _⟩
  · exact ⟨cs, e.trans hb, rfl⟩
  · rw [hb] at e1
    injection e1 with e1
    injection e1 with e1
    subst e1
    exact ⟨cs2, e2, e3⟩
theorem wt.VRow.elem {w : World} {Y : Nat → Prop} {d n c : Nat} {A : Option Addr} {xs : List S25} (h : wt.VRow w Y (d + 1) (.slice A n c) xs) {j : Nat} (hj : j < n) (hn : xs.length = n) : ∃ b cs x u3 u4, A = some ⟨b, 0, none⟩ ∧ Y b ∧ w.heap[b]? = some (.cells cs 25 (0, 0)) ∧ n ≤ c ∧ c * 5 ≤ cs.size ∧ xs[j]? = some x ∧ wt.grp cs (j * 5) (.int .i64 x.f0) (.int .i64 x.f1) (.string x.f2) u3 u4 ∧ wt.VRow w Y d u3 x.f3 ∧ wt.KRow w Y u4 x.f4 := by
  rcases h with ⟨_, rfl⟩ | ⟨b, c', cs, e, hy, hh, hl, hsz, hm, hc⟩
  · simp at hn; omega
  · injection e with e1 e2 e3
    subst e1; subst e3
    have hx : xs[j]? = some xs[j] := List.getElem?_eq_getElem (by omega)
    obtain ⟨u3, u4, hg, r3, r4⟩ := hc j _ hx
    exact ⟨b, cs, _, u3, u4, rfl, hy, hh, by omega, hsz, hx, hg, r3, r4⟩
theorem wt.one_slice {v : Value} (h : ∃ A n c, v = .slice A n c) : v.oneCell' = true ∧ (wt.clipv v).oneCell' = true := by
  obtain ⟨A, n, c, rfl⟩ := h
  exact ⟨rfl, rfl⟩
/-- tight: the same value, without spare room. -/
theorem wt.tight1 {Y : Nat → Prop} : ∀ (d : Nat) (x : S25) (v3 v4 : Value) (w : World), (∀ k, Y k → k < w.heap.size) → wt.VRow w Y d v3 x.f3 → wt.KRow w Y v4 x.f4 →
    Calls Try.prog 39 #[.agg #[.int .i64 x.f0, .int .i64 x.f1, .string x.f2, v3, v4]] w fun e w' => e = .returned (.agg #[.int .i64 x.f0, .int .i64 x.f1, .string x.f2, wt.clipv v3, wt.clipv v4]) ∧ wt.SimT Y w w' := by
  intro d
  induction d with
  | zero => intro x v3 v4 w hY h; exact h.elim
  | succ d ih =>
  rintro ⟨f0, f1, f2, f3, f4⟩ v3 v4 w hY hV hK
  obtain ⟨A4, c4, e4, l4, g4⟩ := hK.C
  obtain ⟨A3, c3, e3, l3, g3⟩ := wt.VRow.C (d + 1) hV
  subst e3; subst e4
  dsimp only at *
  have hu25 := Try.underlying25
  have HV := Aside0.mk hV
  have HY := Aside0.mk hY
  have LM := Aside0.mk g3.2.1
  have L3 := Aside0.mk l3
  have L4 := Aside0.mk l4
  show Calls Try.prog 39 _ w fun e w' => e = .returned (.agg #[.int .i64 f0, .int .i64 f1, .string f2, .slice A3 f3.length f3.length, .slice A4 f4.length f4.length]) ∧ wt.SimT Y w w'
  clear hV hY hK g3 g4 l3 l4
  obtain ⟨n, hn⟩ : ∃ n, f3.length = n := ⟨_, rfl⟩
  obtain ⟨m, hm⟩ : ∃ m, f4.length = m := ⟨_, rfl⟩
  have HN := Aside0.mk hn
  rw [hn] at HV LM L3 ⊢
  rw [hm] at L4 ⊢
  clear hn hm
  go_enter Try.func39, Try.ntmps39
  go_wp2_with (first | ((with_reducible refine gate_dst (N := 1) rfl ?_); refine box_event ?hg (N := 1) ?hd (cs := #[.int .i64 f0, .int .i64 f1, .string f2, .slice A3 n c3, .slice A4 m c4]) (t := 25) ?hr ?_; (case hd => rfl); (case hg => rfl); (case hr => first | (go_simp; done) | (go_simp; rfl)); intro pb hpb w1 hbox hb1; have BX1 := Aside0.mk hbox; have HB1 := Aside0.mk hb1; have HPB := Aside0.mk (Nat.le_of_eq hpb.symm); clear hbox hb1 hpb))
  obtain ⟨w2, hw2⟩ : ∃ w2, w1.alloc (.cells #[.int .i64 0, .int .i64 0, .string ⟨#[]⟩, .slice none 0 0, .slice none 0 0] 25) = w2 := ⟨_, rfl⟩
  have RB2 := Aside0.mk (show w2.heap[w1.heap.size]? = some (.cells #[.int .i64 0, .int .i64 0, .string ⟨#[]⟩, .slice none 0 0, .slice none 0 0] 25 (0, 0)) by rw [← hw2]; simpa using heap_alloc_new w1 _)
  have BX2 := Aside0.mk (hw2 ▸ blk_alloc BX1.out (.cells #[.int .i64 0, .int .i64 0, .string ⟨#[]⟩, .slice none 0 0, .slice none 0 0] 25))
  have HB2 := Aside0.mk (hw2 ▸ HB1.out.alloc HB1.out.size (.cells #[.int .i64 0, .int .i64 0, .string ⟨#[]⟩, .slice none 0 0, .slice none 0 0] 25))
  have HPR := Aside0.mk (blk_lt BX1.out)
  rw [hw2]
  clear hw2 BX1 HB1
  generalize w1.heap.size = rb at *
  refine start_ (n := 10) (S := fun w' => w'.cell? ⟨pb, 4, none⟩ = some (.slice A4 m c4) ∧ w'.cell? ⟨pb, 3, none⟩ = some (.slice A3 n c3)) (ds := [7, 9]) #[false, false, false, false, false, false, false, false, false, false] (by kernel_rfl) rfl rfl ⟨(blk_cell (blk_drew BX2.out) 4).trans rfl, (blk_cell (blk_drew BX2.out) 3).trans rfl⟩ (fun hHeld => ?_)
  generalize hwd : w2.drew = wd at hHeld ⊢
  have BD := Aside0.mk (hwd ▸ blk_drew BX2.out)
  have RD := Aside0.mk (hwd ▸ blk_drew RB2.out)
  have HD := Aside0.mk (hwd ▸ below_drew HB2.out)
  clear hwd BX2 RB2 HB2
  refine pure_ (i := 0) (N := some 4) (v := ?_) (a' := ?_) #[true, false, false, false, false, false, false, false, false, false] rfl rfl (by kernel_rfl) (fun _ _ _ h => h) (Or.inl ⟨by rfl, ?_⟩) ?_ ?_
  rotate_left
  · intro w'
    go_simp
    with_reducible rfl
  rotate_left
  · simp only [Act.put, List.setIfInBounds_toArray, List.set_cons_zero, List.set_cons_succ, i64_w, i32_w]
    rfl
  refine pure_ (i := 3) (N := some 7) (v := ?_) (a' := ?_) #[true, false, false, true, false, false, false, false, false, false] rfl rfl (by kernel_rfl) (fun _ _ _ h => h) (Or.inl ⟨by rfl, ?_⟩) ?_ ?_
  rotate_left
  · intro w'
    go_simp
    with_reducible rfl
  rotate_left
  · simp only [Act.put, List.setIfInBounds_toArray, List.set_cons_zero, List.set_cons_succ, i64_w, i32_w]
    rfl
  refine take_ (i := 1) (N := some 5) (v := ?_) (a' := ?_) #[true, true, false, true, false, false, false, false, false, false] rfl rfl (by kernel_rfl) (fun _ _ _ h => h) (Or.inl ⟨by rfl, ?_⟩) hHeld ?_ ?_
  rotate_left
  · rintro w' ⟨s0, s1⟩
    go_simp
    with_reducible rfl
  rotate_left
  · simp only [Act.put, List.setIfInBounds_toArray, List.set_cons_zero, List.set_cons_succ, i64_w, i32_w]
    rfl
  refine take_ (i := 4) (N := some 8) (v := ?_) (a' := ?_) #[true, true, false, true, true, false, false, false, false, false] rfl rfl (by kernel_rfl) (fun _ _ _ h => h) (Or.inl ⟨by rfl, ?_⟩) hHeld ?_ ?_
  rotate_left
  · rintro w' ⟨s0, s1⟩
    go_simp
    with_reducible rfl
  rotate_left
  · simp only [Act.put, List.setIfInBounds_toArray, List.set_cons_zero, List.set_cons_succ, i64_w, i32_w]
    rfl
  refine one_ (i := 2) (N := some 6) #[true, true, true, true, true, false, false, false, false, false] rfl rfl (by kernel_rfl) (by decide) (fun K hK => ?_)
  refine goes_ Try.func56 (by kernel_rfl) rfl #[.slice A4 m c4] (by rfl) rfl rfl (by (try simp only [List.map_toArray, List.map_cons, List.map_nil]); first | done | rfl) ?_
  refine (wt.clip56 A4 m c4 L4.out _).mono ?_
  rintro e w3 ⟨rfl, hb⟩
  refine ⟨_, rfl, ?_⟩
  have BX3 := Aside0.mk (blk_below BD.out hb)
  have RB3 := Aside0.mk (blk_below RD.out hb)
  have HB3 := Aside0.mk (below_then HD.out HD.out.size hb)
  clear hb BD RD HD
  refine hK.out _ _ ⟨(blk_cell BX3.out 4).trans rfl, (blk_cell BX3.out 3).trans rfl⟩ (fun hHeld => ?_)
  clear hK K
  refine norm_ (a' := ?_) ?_ ?_
  rotate_left
  · show Act.put _ (some 6) _ = _
    simp only [Act.put, List.setIfInBounds_toArray, List.set_cons_zero, List.set_cons_succ, i64_w, i32_w]
    rfl
  refine pure_ (i := 6) (N := some 10) (v := ?_) (a' := ?_) #[true, true, true, true, true, false, true, false, false, false] rfl rfl (by kernel_rfl) (fun _ _ _ h => h) (Or.inl ⟨by rfl, ?_⟩) ?_ ?_
  rotate_left
  · intro w'
    go_simp
    with_reducible rfl
  rotate_left
  · simp only [Act.put, List.setIfInBounds_toArray, List.set_cons_zero, List.set_cons_succ, i64_w, i32_w]
    rfl
  refine one_ (i := 5) (N := some 9) #[true, true, true, true, true, true, true, false, false, false] rfl rfl (by kernel_rfl) (by decide) (fun K hK => ?_)
  refine goes_ Try.func57 (by kernel_rfl) rfl #[.slice A3 n c3] (by rfl) rfl rfl (by (try simp only [List.map_toArray, List.map_cons, List.map_nil]); first | done | rfl) ?_
  refine (wt.clip57 A3 n c3 L3.out _).mono ?_
  rintro e w4 ⟨rfl, hb⟩
  refine ⟨_, rfl, ?_⟩
  have BX4 := Aside0.mk (blk_below BX3.out hb)
  have RB4 := Aside0.mk (blk_below RB3.out hb)
  have HS4 := Aside0.mk (wt.SimT.of_below (Y := Y) (below_then HB3.out HB3.out.size hb))
  clear hb BX3 RB3 HB3
  have fv4 := blk_frozen BX4.out 4
  refine hK.out _ _ ⟨(blk_cell BX4.out 4).trans rfl, (blk_cell BX4.out 3).trans rfl⟩ (fun hHeld => ?_)
  clear hK K
  refine norm_ (a' := ?_) ?_ ?_
  rotate_left
  · show Act.put _ (some 9) _ = _
    simp only [Act.put, List.setIfInBounds_toArray, List.set_cons_zero, List.set_cons_succ, i64_w, i32_w]
    rfl
  refine last_ (i := 7) (N := none) #[true, true, true, true, true, true, true, true, false, false] rfl rfl (by kernel_rfl) (by decide) (fun K hK => ?_)
  have hc4 := (blk_cell BX4.out 4).trans rfl
  refine skip_ (w1 := ?_) (by rfl) rfl ?_ ?_
  rotate_left
  · go_simp
    rfl
  clear fv4 hc4
  have BX4a := Aside0.mk (blk_put BX4.out 4 (.slice A4 m m) rfl)
  have RB4a := Aside0.mk ((Below.heap_setCell _ ⟨pb, 4, none⟩ (.slice A4 m m) rb (show rb ≠ pb by have := HPR.out; omega)).trans RB4.out)
  have HS4a := Aside0.mk (HS4.out.set (a := ⟨pb, 4, none⟩) HPB.out (.slice A4 m m))
  have fv3 := blk_frozen BX4a.out 3
  have hc3 := (blk_cell BX4a.out 3).trans rfl
  refine hK.out _ _ ?_
  clear hK K
  refine pure_ (i := 8) (N := some 11) (v := ?_) (a' := ?_) #[true, true, true, true, true, true, true, true, true, false] rfl rfl (by kernel_rfl) (fun _ _ _ h => h) (Or.inl ⟨by rfl, ?_⟩) ?_ ?_
  rotate_left
  · intro w'
    go_simp
    with_reducible rfl
  rotate_left
  · simp only [Act.put, List.setIfInBounds_toArray, List.set_cons_zero, List.set_cons_succ, i64_w, i32_w]
    rfl
  refine last_ (i := 9) (N := none) #[true, true, true, true, true, true, true, true, true, true] rfl rfl (by kernel_rfl) (by decide) (fun K hK => ?_)
  refine skip_ (w1 := ?_) (by rfl) rfl ?_ ?_
  rotate_left
  · go_simp
    rfl
  clear fv3 hc3
  refine hK.out _ _ ?_
  clear hK K
  refine done_ (by kernel_rfl) ?_
  have BX5 := Aside0.mk (blk_put BX4a.out 3 (.slice A3 n n) rfl)
  have RB5 := Aside0.mk ((Below.heap_setCell _ ⟨pb, 3, none⟩ (.slice A3 n n) rb (show rb ≠ pb by have := HPR.out; omega)).trans RB4a.out)
  have HS5 := Aside0.mk (HS4a.out.set (a := ⟨pb, 3, none⟩) HPB.out (.slice A3 n n))
  generalize (w4.setCell ⟨pb, 4, none⟩ (.slice A4 m m)).setCell ⟨pb, 3, none⟩ (.slice A3 n n) = w5 at *
  clear BX4a RB4a HS4a BX4 RB4 HS4
  have hz3 : w5.cell? ⟨pb, 3, none⟩ = some (.slice A3 n n) := (blk_cell BX5.out 3).trans rfl
  go_wp2
  clear hz3
  go_loopw [15] (fun v15 wr => ∃ j : Nat, v15 = .int .i64 (j : Int) ∧ Aside0 (j ≤ n) ∧ Aside0 (wt.SimT Y w wr) ∧ Aside0 (wr.heap[pb]? = some (.cells #[.int .i64 f0, .int .i64 f1, .string f2, .slice A3 n n, .slice A4 m m] 25 (0, 0))) ∧ Aside0 (wr.heap[rb]? = some (.cells #[.int .i64 0, .int .i64 0, .string ⟨#[]⟩, .slice none 0 0, .slice none 0 0] 25 (0, 0)))) (fun v15 _ => n - (intOf v15).toNat)
  case atStart => exact ⟨0, rfl, ⟨Nat.zero_le _⟩, HS5, BX5, RB5⟩
  case round =>
    clear HS5 BX5 RB5
    obtain ⟨j, rfl, HJ0, HS, HB, HRB⟩ := hrel
    by_cases hlt : j < n
    · have i1 : decide ((j : Int) < (n : Int)) = true := decide_eq_true (by omega)
      have i2 : decide (j < n) = true := decide_eq_true hlt
      have i3 : (j < n) = True := eq_true hlt
      have HWR := Aside0.mk (show wrap64 ((j : Int) + 1) = (j : Int) + 1 by have := LM.out; unfold wrap64; omega)
      have HM := Aside0.mk (wt.meas j n hlt HWR.out)
      have HJ := Aside0.mk (show j + 1 ≤ n by omega)
      obtain ⟨b, cs, x, u3, u4, hA, hyb, hcs, hnc, hsz, hx, hgr, r3, r4⟩ := (wt.VRow.simT HS.out (d + 1) HV.out).1.elem hlt HN.out
      obtain ⟨ad, had⟩ : ∃ ad, ad = (⟨b, 0, none⟩ : Addr) := ⟨_, rfl⟩
      rw [← had] at hA
      subst hA
      have HAD := Aside0.mk had
      have HYB := Aside0.mk hyb
      have HCS := Aside0.mk hcs
      have HSZ := Aside0.mk (show j * 5 + 5 ≤ cs.size by omega)
      have HGRP := Aside0.mk hgr
      have HF := Aside0.mk (wt.five.of hcs hgr had)
      have HR3 := Aside0.mk r3
      have HR4 := Aside0.mk r4
      have HO3 := Aside0.mk (wt.one_slice (by obtain ⟨A_, c_, e_, _⟩ := wt.VRow.C d r3; exact ⟨_, _, _, e_⟩))
      have HO4 := Aside0.mk (wt.one_slice (by obtain ⟨A_, c_, e_, _⟩ := r4.C; exact ⟨_, _, _, e_⟩))
      have HNY := Aside0.mk (show ¬ Y pb ∧ ¬ Y rb from ⟨fun y => by have := HY.out pb y; have := HPB.out; omega, fun y => by have := HY.out rb y; have := HPB.out; have := HPR.out; omega⟩)
      have t3 : (j : Int) < (n : Int) := by omega
      clear had hyb hcs hnc hsz hgr r3 r4 hx
      go_wp2
      refine start_ (n := 11) (S := fun w' => w'.cell? ⟨pb, 3, none⟩ = some (.slice (some ad) n n)) (ds := [10]) #[false, false, false, false, false, false, false, false, false, false, false] (by kernel_rfl) rfl rfl ((blk_cell (blk_drew HB.out) 3).trans rfl) (fun hHeld => ?_)
      generalize hwd : wr.drew = wd at hHeld ⊢
      have SD := Aside0.mk (hwd ▸ HS.out.trans (wt.SimT.of_below (below_drew (Below.refl _ _))))
      have BD := Aside0.mk (hwd ▸ blk_drew HB.out)
      have RD := Aside0.mk (hwd ▸ blk_drew HRB.out)
      have CD := Aside0.mk (hwd ▸ blk_drew HCS.out)
      have FD := Aside0.mk (hwd ▸ (show wt.five wr.drew (ad.add (j * 5)) (.int .i64 x.f0) (.int .i64 x.f1) (.string x.f2) u3 u4 from HF.out))
      have VD := Aside0.mk (hwd ▸ wt.VRow.move (w := wr) (w1 := wr.drew) (fun _ h => h) (fun _ _ _ => rfl) d HR3.out)
      have KD := Aside0.mk (hwd ▸ HR4.out.move (w1 := wr.drew) (fun _ h => h) (fun _ _ _ => rfl))
      clear hwd
      refine pure_ (i := 0) (N := some 18) (v := ?_) (a' := ?_) #[true, false, false, false, false, false, false, false, false, false, false] rfl rfl (by kernel_rfl) (fun _ _ _ h => h) (Or.inl ⟨by rfl, ?_⟩) ?_ ?_
      rotate_left
      · intro w'
        go_simp
        with_reducible rfl
      rotate_left
      · simp only [Act.put, List.setIfInBounds_toArray, List.set_cons_zero, List.set_cons_succ, i64_w, i32_w]
        rfl
      refine pure_ (i := 2) (N := some 20) (v := ?_) (a' := ?_) #[true, false, true, false, false, false, false, false, false, false, false] rfl rfl (by kernel_rfl) (fun _ _ _ h => h) (Or.inl ⟨by rfl, ?_⟩) ?_ ?_
      rotate_left
      · intro w'
        go_simp
        with_reducible rfl
      rotate_left
      · simp only [Act.put, List.setIfInBounds_toArray, List.set_cons_zero, List.set_cons_succ, i64_w, i32_w]
        rfl
      refine pure_ (i := 3) (N := some 21) (v := ?_) (a' := ?_) #[true, false, true, true, false, false, false, false, false, false, false] rfl rfl (by kernel_rfl) (fun _ _ _ h => h) (Or.inl ⟨by rfl, ?_⟩) ?_ ?_
      rotate_left
      · intro w'
        go_simp
        with_reducible rfl
      rotate_left
      · simp only [Act.put, List.setIfInBounds_toArray, List.set_cons_zero, List.set_cons_succ, i64_w, i32_w]
        rfl
      refine pure_ (i := 5) (N := some 23) (v := ?_) (a' := ?_) #[true, false, true, true, false, true, false, false, false, false, false] rfl rfl (by kernel_rfl) (fun _ _ _ h => h) (Or.inl ⟨by rfl, ?_⟩) ?_ ?_
      rotate_left
      · intro w'
        go_simp
        with_reducible rfl
      rotate_left
      · simp only [Act.put, List.setIfInBounds_toArray, List.set_cons_zero, List.set_cons_succ, i64_w, i32_w]
        rfl
      refine take_ (i := 1) (N := some 19) (v := ?_) (a' := ?_) #[true, true, true, true, false, true, false, false, false, false, false] rfl rfl (by kernel_rfl) (fun _ _ _ h => h) (Or.inl ⟨by rfl, ?_⟩) hHeld ?_ ?_
      rotate_left
      · intro w' s0
        go_simp
        with_reducible rfl
      rotate_left
      · simp only [Act.put, List.setIfInBounds_toArray, List.set_cons_zero, List.set_cons_succ, i64_w, i32_w]
        rfl
      refine take_ (i := 4) (N := some 22) (v := ?_) (a' := ?_) #[true, true, true, true, true, true, false, false, false, false, false] rfl rfl (by kernel_rfl) (fun _ _ _ h => h) (Or.inl ⟨by rfl, ?_⟩) hHeld ?_ ?_
      rotate_left
      · intro w' s0
        go_simp
        with_reducible rfl
      rotate_left
      · simp only [Act.put, List.setIfInBounds_toArray, List.set_cons_zero, List.set_cons_succ, i64_w, i32_w]
        rfl
      refine pure_ (i := 6) (N := some 24) (v := ?_) (a' := ?_) #[true, true, true, true, true, true, true, false, false, false, false] rfl rfl (by kernel_rfl) (fun _ _ _ h => h) (Or.inl ⟨by rfl, ?_⟩) ?_ ?_
      rotate_left
      · intro w'
        go_simp
        with_reducible rfl
      rotate_left
      · simp only [Act.put, List.setIfInBounds_toArray, List.set_cons_zero, List.set_cons_succ, i64_w, i32_w]
        rfl
      refine one_ (i := 7) (N := some 25) #[true, true, true, true, true, true, true, true, false, false, false] rfl rfl (by kernel_rfl) (by decide) (fun K hK => ?_)
      obtain ⟨z0, z1, z2, z3, z4⟩ := FD.out
      refine value_ (w1 := ?_) (v := ?_) (by rfl) rfl ?_ ?_
      rotate_left 2
      · go_simp
        constructor
        · rfl
        · rfl
      clear z0 z1 z2 z3 z4
      refine hK.out _ _ ((blk_cell BD.out 3).trans rfl) (fun hHeld => ?_)
      clear hK K
      refine norm_ (a' := ?_) ?_ ?_
      rotate_left
      · show Act.put _ (some 25) _ = _
        simp only [Act.put, List.setIfInBounds_toArray, List.set_cons_zero, List.set_cons_succ, i64_w, i32_w]
        rfl
      refine one_ (i := 8) (N := some 26) #[true, true, true, true, true, true, true, true, true, false, false] rfl rfl (by kernel_rfl) (by decide) (fun K hK => ?_)
      refine goes_ Try.func39 (by kernel_rfl) rfl #[.agg #[.int .i64 x.f0, .int .i64 x.f1, .string x.f2, u3, u4]] (by rfl) rfl rfl (by (try simp only [List.map_toArray, List.map_cons, List.map_nil]); first | done | rfl) ?_
      refine (ih x u3 u4 _ (fun k hk => Nat.lt_of_lt_of_le (HY.out k hk) SD.out.size) VD.out KD.out).mono ?_
      rintro e w7 ⟨rfl, hs⟩
      refine ⟨_, rfl, ?_⟩
      have HS7 := Aside0.mk hs
      have BX7 := Aside0.mk ((hs.out pb (blk_lt BD.out) HNY.out.1).trans BD.out)
      have RB7 := Aside0.mk ((hs.out rb (blk_lt RD.out) HNY.out.2).trans RD.out)
      clear hs
      refine hK.out _ _ ((blk_cell BX7.out 3).trans rfl) (fun hHeld => ?_)
      clear hK K
      refine norm_ (a' := ?_) ?_ ?_
      rotate_left
      · show Act.put _ (some 26) _ = _
        simp only [Act.put, List.setIfInBounds_toArray, List.set_cons_zero, List.set_cons_succ, i64_w, i32_w]
        rfl
      refine pure_ (i := 9) (N := some 27) (v := ?_) (a' := ?_) #[true, true, true, true, true, true, true, true, true, true, false] rfl rfl (by kernel_rfl) (fun _ _ _ h => h) (Or.inl ⟨by rfl, ?_⟩) ?_ ?_
      rotate_left
      · intro w'
        go_simp
        with_reducible rfl
      rotate_left
      · simp only [Act.put, List.setIfInBounds_toArray, List.set_cons_zero, List.set_cons_succ, i64_w, i32_w]
        rfl
      refine last_ (i := 10) (N := none) #[true, true, true, true, true, true, true, true, true, true, true] rfl rfl (by kernel_rfl) (by decide) (fun K hK => ?_)
      obtain ⟨cs7, k1, k2⟩ := HS7.out.block HYB.out CD.out
      refine wt.st25 25 (by rfl) rfl 27 (.tmp 26) rfl (by kernel_rfl) b (j * 5) ?haddr (.int .i64 x.f0) (.int .i64 x.f1) (.string x.f2) (wt.clipv u3) (wt.clipv u4) rfl ?hone cs7 25 ?hsz k1 ?_
      (case haddr => show Value.pointer (some (ad.add (j * 5))) = _; rw [HAD.out, Addr.add_lit, Nat.zero_add])
      (case hone => intro q hq; simp at hq; rcases hq with rfl | rfl | rfl | rfl | rfl <;> first | rfl | exact HO3.out.2 | exact HO4.out.2)
      (case hsz => have := HSZ.out; omega)
      intro w9 cs9 q1 q2 q3 q4 q5
      have HS9 := Aside0.mk (wt.SimT.store HS7.out HYB.out CD.out HGRP.out q5 q1 (q2.trans k2) q3 (fun c7 h7 i_ hi_ => by rw [k1] at h7; injection h7 with h7; injection h7 with h7; subst h7; exact q4 i_ hi_))
      have BX9 := Aside0.mk ((q5.block pb (blk_lt BX7.out) (fun e_ => HNY.out.1 (Option.some.inj e_ ▸ HYB.out))).trans BX7.out)
      have RB9 := Aside0.mk ((q5.block rb (blk_lt RB7.out) (fun e_ => HNY.out.2 (Option.some.inj e_ ▸ HYB.out))).trans RB7.out)
      clear k1 k2 q1 q2 q3 q4 q5
      refine hK.out _ _ ?_
      clear hK K
      refine done_ (by kernel_rfl) ?_
      go_wp2
      go_roundw
      case rel => exact ⟨j + 1, by rw [HWR.out]; rfl, HJ, ⟨SD.out.trans HS9.out⟩, BX9, RB9⟩
      case measure => exact HM.out
    · have i1 : decide ((j : Int) < (n : Int)) = false := decide_eq_false (by omega)
      have i2 : decide (j < n) = false := decide_eq_false hlt
      have i3 : (j < n) = False := eq_false hlt
      have hz0 : wr.cell? ⟨pb, 0, none⟩ = some (.int .i64 f0) := (blk_cell HB.out 0).trans rfl
      have hz1 : wr.cell? ⟨pb, 1, none⟩ = some (.int .i64 f1) := (blk_cell HB.out 1).trans rfl
      have hz2 : wr.cell? ⟨pb, 2, none⟩ = some (.string f2) := (blk_cell HB.out 2).trans rfl
      have hz3 : wr.cell? ⟨pb, 3, none⟩ = some (.slice A3 n n) := (blk_cell HB.out 3).trans rfl
      have hz4 : wr.cell? ⟨pb, 4, none⟩ = some (.slice A4 m m) := (blk_cell HB.out 4).trans rfl
      go_wp2_with (first | ((with_reducible refine gate_store (p := 2) rfl ?_); refine wt.store_res rfl rfl 2 _ rfl rb rfl (.int .i64 f0) (.int .i64 f1) (.string f2) (.slice A3 n n) (.slice A4 m m) rfl (fun q hq => by simp at hq; rcases hq with rfl | rfl | rfl | rfl | rfl <;> rfl) _ rfl HRB.out ?_; intro w9 hres hgr; have HRES := Aside0.mk hres; have HGR := Aside0.mk hgr; clear hgr hres))
      go_wp2
      refine bodyPost_ret (results_cell_row rfl _ _ rb 25 _ (0, 0) _ rfl HRES.out Try.underlying25 rfl (by kernel_rfl)) rfl ?_
      exact ⟨rfl, HS.out.far HGR.out (by have := HPB.out; have := HPR.out; omega)⟩
end
end Go.Proofs.Ytnkbobblnhaclaa.X

/- Xxwtake4: walks by hand, for the claim. -/
namespace Go.Proofs.Ytnkbobblnhaclaa.X
open Go.RowKit Go.Proofs.YtnkbobblnhaclaaW.PrintWords Go.Proofs.YtnkbobblnhaclaaW.PrintLast Go.Proofs.YtnkbobblnhaclaaW.PrintMore Go.Proofs.YtnkbobblnhaclaaW
section
set_option maxHeartbeats 400000
set_option maxRecDepth 100000
theorem wt.ta_nil (w : World) : (Instr.typeAssert .nilIface 20 54 true).run Try.prog w = .ok (.tuple #[.agg #[.int .i64 0, .int .i64 0], .bool false]) w := by
  kernel_rfl
theorem wt.ta_flt (w : World) (e p : Int) : (Instr.typeAssert (.iface 54 (.agg #[.int .i64 e, .int .i64 p])) 20 54 true).run Try.prog w = .ok (.tuple #[.agg #[.int .i64 e, .int .i64 p], .bool true]) w := by
  kernel_rfl
section
variable {P : Program} {ops : Array Oper} {Q : Exit → Act → List Frame → World → Prop} {i : Nat} {rest : List Nat} {o : Oper} {a : Act} {cs : List Frame} {w w1 : World}
theorem wt.opS_value {v : Value} (ho : ops[i]? = some o) (hg : o.guard = none) (hrun : (execOp a.eval o).run P w = .ok (.value v) w1) (h : wpOpsS P ops Q rest (a.put o.dst v) cs w1) : wpOpsS P ops Q (i :: rest) a cs w := by
  unfold wpOpsS
  rw [ho]
  dsimp only
  rw [if_pos (by simp [Region.wanted, hg]), hrun]
  exact h
theorem wt.opS_skip (ho : ops[i]? = some o) (hg : o.guard = none) (hrun : (execOp a.eval o).run P w = .ok .skip w1) (h : wpOpsS P ops Q rest (a.put o.dst undef) cs w1) : wpOpsS P ops Q (i :: rest) a cs w := by
  unfold wpOpsS
  rw [ho]
  dsimp only
  rw [if_pos (by simp [Region.wanted, hg]), hrun]
  exact h
theorem wt.opS_recN (ho : ops[i]? = some o) (hg : o.guard = none) (hrun : (execOp a.eval o).run P w = .ok .recover w1) (hr : recoverD cs = none) (h : wpOpsS P ops Q rest (a.put o.dst .nilIface) cs w1) : wpOpsS P ops Q (i :: rest) a cs w := by
  unfold wpOpsS
  rw [ho]
  dsimp only
  rw [if_pos (by simp [Region.wanted, hg]), hrun, hr]
  exact h
theorem wt.opS_recS {v : Value} {cs' : List Frame} (ho : ops[i]? = some o) (hg : o.guard = none) (hrun : (execOp a.eval o).run P w = .ok .recover w1) (hr : recoverD cs = some (v, cs')) (h : wpOpsS P ops Q rest (a.put o.dst v) cs' w1) : wpOpsS P ops Q (i :: rest) a cs w := by
  unfold wpOpsS
  rw [ho]
  dsimp only
  rw [if_pos (by simp [Region.wanted, hg]), hrun, hr]
  exact h
end
section
variable {P : Program} {ops : Array Oper} {Q : Exit → Act → List Frame → World → Prop} {cs : List Frame}
theorem wt.S_of_list (hQ : ¬ LetsOut (fun e a' w' => Q e a' cs w')) : ∀ (l : List Oper) (k : Nat), (∀ j, l[j]? = ops[k + j]?) → ∀ a w, wpList P ops (fun e a' w' => Q e a' cs w') l a w → wpOpsS P ops Q (List.range' k l.length) a cs w
  | [], k, _, a, w, h => h
  | o :: l, k, hj, a, w, h => by
    have h0 : ops[k]? = some o := by simpa using (hj 0).symm
    have ih := wt.S_of_list hQ l (k + 1) (fun j => by have := hj (j + 1); simpa [Nat.add_assoc, Nat.add_comm 1 j] using this)
    simp only [List.length_cons, List.range'_succ]
    unfold wpOpsS
    rw [h0]
    dsimp only
    unfold wpList at h
    by_cases hw : Region.wanted o (yielded ops a.tmps) = true
    · rw [if_pos hw] at h ⊢
      have h1 := h.resolve_right (fun q => hQ q.2)
      have h2 := Oper.wp_mono (fun a w => ih a w) h1
      unfold Oper.wp at h2
      generalize (execOp a.eval o).run P w = r at h2 ⊢
      split
      · exact h2.elim
      · exact h2
    · rw [if_neg hw] at h ⊢
      exact ih _ _ h
theorem wt.wpS_recN {id : Nat} {o : Oper} {rest : List Oper} {a : Act} {w : World} (hops : ops.toList = o :: rest) (hg : o.guard = none) (hrun : (execOp a.eval o).run P w = .ok .recover w) (hr : recoverD cs = none) (hQ : ¬ LetsOut (fun e a' w' => Q e a' cs w')) {a1 : Act} (ha : a.put o.dst .nilIface = a1) (h : wpList P ops (fun e a' w' => Q e a' cs w') rest a1 w) : (Code.region id ops false).wpS P Q a cs w := by
  subst ha
  apply wpS_region
  have hsz : ops.size = rest.length + 1 := by rw [← Array.length_toList, hops]; rfl
  have h0 : ops[0]? = some o := by rw [← Array.getElem?_toList, hops]; rfl
  rw [hsz, List.range_eq_range', List.range'_succ]
  refine wt.opS_recN h0 hg hrun hr (wt.S_of_list hQ rest 1 (fun j => ?_) _ _ h)
  rw [← Array.getElem?_toList, hops, Nat.add_comm]
  rfl
theorem wt.wpS_recS {id : Nat} {o : Oper} {rest : List Oper} {a : Act} {w : World} {v : Value} {cs' : List Frame} (hops : ops.toList = o :: rest) (hg : o.guard = none) (hrun : (execOp a.eval o).run P w = .ok .recover w) (hr : recoverD cs = some (v, cs')) (hQ : ¬ LetsOut (fun e a' w' => Q e a' cs' w')) {a1 : Act} (ha : a.put o.dst v = a1) (h : wpList P ops (fun e a' w' => Q e a' cs' w') rest a1 w) : (Code.region id ops false).wpS P Q a cs w := by
  subst ha
  apply wpS_region
  have hsz : ops.size = rest.length + 1 := by rw [← Array.length_toList, hops]; rfl
  have h0 : ops[0]? = some o := by rw [← Array.getElem?_toList, hops]; rfl
  rw [hsz, List.range_eq_range', List.range'_succ]
  refine wt.opS_recS h0 hg hrun hr (wt.S_of_list hQ rest 1 (fun j => ?_) _ _ h)
  rw [← Array.getElem?_toList, hops, Nat.add_comm]
  rfl
end
/-- All stays but three blocks, and what stands from n on. -/
def wt.But3 (w w' : World) (bv bn be n : Nat) : Prop := w'.os = w.os ∧ w'.tape = w.tape ∧ w'.output = w.output ∧ w.heap.size ≤ w'.heap.size ∧ ∀ k, k < n → k ≠ bv → k ≠ bn → k ≠ be → w'.heap[k]? = w.heap[k]?
/-- The deferred closure of Take, where nothing was thrown. -/
theorem wt.catch_idle (bv bn be : Nat) (w : World) :
    CallsD Try.prog 37 #[.pointer (some ⟨bv, 0, none⟩), .pointer (some ⟨bn, 0, none⟩), .pointer (some ⟨be, 0, none⟩)] .returning w fun en u' w' => en = .returned (.tuple #[]) ∧ u' = .returning ∧ Below w.heap.size w w' := by
  refine callsD_of_wpS Try.func37 rfl fun c₀ cs hu => ?_
  have hta := wt.ta_nil w
  refine wpS_seq ?_
  refine wt.wpS_recN rfl rfl rfl (by simp [recoverD, hu]) ?_ (a1 := { tmps := #[.pointer (some ⟨bv, 0, none⟩), .pointer (some ⟨bn, 0, none⟩), .pointer (some ⟨be, 0, none⟩), undef, undef, undef, .nilIface, undef, undef, undef, undef, undef, undef, undef, undef, undef], defers := [] }) rfl ?_
  · rintro ⟨a, w, h⟩
    obtain ⟨u', he, _⟩ := h
    cases he
  go_wp2
  refine wpS_of_wp ?_
  go_wp2
  refine ⟨rfl, _, ?_, _, by simp [results, Try.results37], rfl, rfl, ?_⟩
  · cases c₀
    cases hu
    rfl
  · exact (Below.refl _ _).alloc (Nat.le_refl _) _
/-- A fault, caught. -/
theorem wt.catch_bad (bv bn be : Nat) (e p x y : Int) (cv : Array Value) (hsz : 0 + 5 ≤ cv.size) (w : World) (hv : w.heap[bv]? = some (.cells cv 25 (0, 0))) (hn : w.heap[bn]? = some (.cells #[.int .i64 x] 3 (0, 0))) (he : w.heap[be]? = some (.cells #[.int .i64 y] 27 (0, 0))) (hvn : bv ≠ bn) (hve : bv ≠ be) (hne : bn ≠ be) :
    CallsD Try.prog 37 #[.pointer (some ⟨bv, 0, none⟩), .pointer (some ⟨bn, 0, none⟩), .pointer (some ⟨be, 0, none⟩)] (.panicking [{ v := .iface 54 (.agg #[.int .i64 e, .int .i64 p]), recovered := false }]) w fun en u' w' => en = .returned (.tuple #[]) ∧ u' = .panicking [{ v := .iface 54 (.agg #[.int .i64 e, .int .i64 p]), recovered := true }] ∧
      (∃ cv', w'.heap[bv]? = some (.cells cv' 25 (0, 0)) ∧ cv'.size = cv.size ∧ wt.grp cv' 0 (.int .i64 0) (.int .i64 0) (.string ⟨#[]⟩) (.slice none 0 0) (.slice none 0 0)) ∧ w'.heap[bn]? = some (.cells #[.int .i64 p] 3 (0, 0)) ∧ w'.heap[be]? = some (.cells #[.int .i64 e] 27 (0, 0)) ∧ wt.But3 w w' bv bn be w.heap.size := by
  have HV := Aside0.mk hv
  have HN := Aside0.mk hn
  have HE := Aside0.mk he
  have HD := Aside0.mk (And.intro hvn (And.intro hve hne))
  have hta := wt.ta_flt w e p
  clear hv hn he hvn hve hne
  refine callsD_of_wpS Try.func37 rfl fun c₀ cs hu => ?_
  refine wpS_seq ?_
  refine wt.wpS_recS (v := .iface 54 (.agg #[.int .i64 e, .int .i64 p])) (cs' := { c₀ with mode := .panicking [{ v := .iface 54 (.agg #[.int .i64 e, .int .i64 p]), recovered := true }] } :: cs) rfl rfl rfl (by simp [recoverD, hu]) ?_ (a1 := { tmps := #[.pointer (some ⟨bv, 0, none⟩), .pointer (some ⟨bn, 0, none⟩), .pointer (some ⟨be, 0, none⟩), undef, undef, undef, .iface 54 (.agg #[.int .i64 e, .int .i64 p]), undef, undef, undef, undef, undef, undef, undef, undef, undef], defers := [] }) rfl ?_
  · rintro ⟨a, w, h⟩
    obtain ⟨u', he, _⟩ := h
    cases he
  go_wp2
  refine wpS_of_wp ?_
  go_wp2
  obtain ⟨w1, hw1⟩ : ∃ w1, w.alloc (.cells #[.int .i64 e, .int .i64 p] 54) = w1 := ⟨_, rfl⟩
  have F1 := Aside0.mk (show w1.heap[w.heap.size]? = some (.cells #[.int .i64 e, .int .i64 p] 54 (0, 0)) by rw [← hw1]; simpa using heap_alloc_new w _)
  have V1 := Aside0.mk (hw1 ▸ blk_alloc HV.out (.cells #[.int .i64 e, .int .i64 p] 54))
  have N1 := Aside0.mk (hw1 ▸ blk_alloc HN.out (.cells #[.int .i64 e, .int .i64 p] 54))
  have E1 := Aside0.mk (hw1 ▸ blk_alloc HE.out (.cells #[.int .i64 e, .int .i64 p] 54))
  have HB1 := Aside0.mk (show Below w.heap.size w w1 from hw1 ▸ (Below.refl _ _).alloc (Nat.le_refl _) _)
  have HSZ := Aside0.mk hsz
  have HLT := Aside0.mk (And.intro (blk_lt HV.out) (And.intro (blk_lt HN.out) (blk_lt HE.out)))
  rw [hw1]
  clear hw1 hsz hta
  generalize hfb : w.heap.size = fb at *
  have HFB := Aside0.mk hfb
  clear hfb
  refine start_ (n := 8) (S := fun w' => w'.cell? ⟨fb, 1, none⟩ = some (.int .i64 p) ∧ w'.cell? ⟨fb, 0, none⟩ = some (.int .i64 e)) (ds := []) #[false, false, false, false, false, false, false, false] (by kernel_rfl) rfl rfl ⟨(blk_cell (blk_drew F1.out) 1).trans rfl, (blk_cell (blk_drew F1.out) 0).trans rfl⟩ (fun hHeld => ?_)
  generalize hwd : w1.drew = wd at hHeld ⊢
  have Fd := Aside0.mk (hwd ▸ blk_drew F1.out)
  have Vd := Aside0.mk (hwd ▸ blk_drew V1.out)
  have Nd := Aside0.mk (hwd ▸ blk_drew N1.out)
  have Ed := Aside0.mk (hwd ▸ blk_drew E1.out)
  have HBd := Aside0.mk (hwd ▸ below_drew HB1.out)
  clear hwd
  refine pure_ (i := 0) (N := some 11) (v := ?_) (a' := ?_) #[true, false, false, false, false, false, false, false] rfl rfl (by kernel_rfl) (fun _ _ _ h => h) (Or.inl ⟨by rfl, ?_⟩) ?_ ?_
  rotate_left
  · intro w'
    go_simp
    with_reducible rfl
  rotate_left
  · simp only [Act.put, List.setIfInBounds_toArray, List.set_cons_zero, List.set_cons_succ, i64_w, i32_w]
    rfl
  refine pure_ (i := 1) (N := some 12) (v := ?_) (a' := ?_) #[true, true, false, false, false, false, false, false] rfl rfl (by kernel_rfl) (fun _ _ _ h => h) (Or.inl ⟨by rfl, ?_⟩) ?_ ?_
  rotate_left
  · intro w'
    go_simp
    with_reducible rfl
  rotate_left
  · simp only [Act.put, List.setIfInBounds_toArray, List.set_cons_zero, List.set_cons_succ, i64_w, i32_w]
    rfl
  refine pure_ (i := 3) (N := some 14) (v := ?_) (a' := ?_) #[true, true, false, true, false, false, false, false] rfl rfl (by kernel_rfl) (fun _ _ _ h => h) (Or.inl ⟨by rfl, ?_⟩) ?_ ?_
  rotate_left
  · intro w'
    go_simp
    with_reducible rfl
  rotate_left
  · simp only [Act.put, List.setIfInBounds_toArray, List.set_cons_zero, List.set_cons_succ, i64_w, i32_w]
    rfl
  refine take_ (i := 2) (N := some 13) (v := ?_) (a' := ?_) #[true, true, true, true, false, false, false, false] rfl rfl (by kernel_rfl) (fun _ _ _ h => h) (Or.inl ⟨by rfl, ?_⟩) hHeld ?_ ?_
  rotate_left
  · rintro w' ⟨s0, s1⟩
    go_simp
    with_reducible rfl
  rotate_left
  · simp only [Act.put, List.setIfInBounds_toArray, List.set_cons_zero, List.set_cons_succ, i64_w, i32_w]
    rfl
  refine take_ (i := 4) (N := some 15) (v := ?_) (a' := ?_) #[true, true, true, true, true, false, false, false] rfl rfl (by kernel_rfl) (fun _ _ _ h => h) (Or.inl ⟨by rfl, ?_⟩) hHeld ?_ ?_
  rotate_left
  · rintro w' ⟨s0, s1⟩
    go_simp
    with_reducible rfl
  rotate_left
  · simp only [Act.put, List.setIfInBounds_toArray, List.set_cons_zero, List.set_cons_succ, i64_w, i32_w]
    rfl
  refine one_ (i := 5) (N := none) #[true, true, true, true, true, true, false, false] rfl rfl (by kernel_rfl) (by decide) (fun K hK => ?_)
  refine wt.st25 25 (by rfl) rfl 0 (.tmp 11) rfl (by kernel_rfl) bv 0 rfl (.int .i64 0) (.int .i64 0) (.string ⟨#[]⟩) (.slice none 0 0) (.slice none 0 0) rfl ?hone cv 25 HSZ.out Vd.out ?_
  (case hone => intro q hq; simp at hq; rcases hq with rfl | rfl | rfl | rfl | rfl <;> rfl)
  intro w2 cv' q1 q2 q3 q4 q5
  have V2 := Aside0.mk q1
  have SZ2 := Aside0.mk q2
  have G2 := Aside0.mk q3
  have N2 := Aside0.mk ((q5.block bn (blk_lt Nd.out) (fun e_ => HD.out.1 (Option.some.inj e_).symm)).trans Nd.out)
  have E2 := Aside0.mk ((q5.block be (blk_lt Ed.out) (fun e_ => HD.out.2.1 (Option.some.inj e_).symm)).trans Ed.out)
  have F2 := Aside0.mk ((q5.block fb (blk_lt Fd.out) (fun e_ => by have := Option.some.inj e_; have := HLT.out.1; omega)).trans Fd.out)
  have FO2 := Aside0.mk (show wt.But3 w w2 bv bn be fb from ⟨q5.os.trans HBd.out.os, q5.tape.trans HBd.out.tape, q5.output.trans HBd.out.output, Nat.le_trans HBd.out.size q5.size, fun k hk n1 n2 n3 => (q5.block k (Nat.lt_trans hk (blk_lt Fd.out)) (fun e_ => n1 (Option.some.inj e_))).trans (HBd.out.block k hk)⟩)
  clear q1 q2 q3 q4 q5
  have hcn := (blk_cell N2.out 0).trans rfl
  have fvn := blk_frozen N2.out 0
  refine hK.out _ _ ⟨(blk_cell F2.out 1).trans rfl, (blk_cell F2.out 0).trans rfl⟩ (fun hHeld => ?_)
  clear hK K
  refine one_ (i := 6) (N := none) #[true, true, true, true, true, true, true, false] rfl rfl (by kernel_rfl) (by decide) (fun K hK => ?_)
  refine skip_ (w1 := ?_) (by rfl) rfl ?_ ?_
  rotate_left
  · go_simp
    rfl
  clear hcn fvn
  have N3 := Aside0.mk (blk_put N2.out 0 (.int .i64 p) rfl)
  have V3 := Aside0.mk ((Below.heap_setCell _ ⟨bn, 0, none⟩ (.int .i64 p) bv (show bv ≠ bn from HD.out.1)).trans V2.out)
  have E3 := Aside0.mk ((Below.heap_setCell _ ⟨bn, 0, none⟩ (.int .i64 p) be (show be ≠ bn from fun e_ => HD.out.2.2 e_.symm)).trans E2.out)
  have F3 := Aside0.mk ((Below.heap_setCell _ ⟨bn, 0, none⟩ (.int .i64 p) fb (show fb ≠ bn by have := HLT.out.2.1; omega)).trans F2.out)
  have FO3 := Aside0.mk (show wt.But3 w (w2.setCell ⟨bn, 0, none⟩ (.int .i64 p)) bv bn be fb from ⟨FO2.out.1, FO2.out.2.1, FO2.out.2.2.1, by rw [Deep.nblk_setCell]; exact FO2.out.2.2.2.1, fun k hk n1 n2 n3 => (Below.heap_setCell _ ⟨bn, 0, none⟩ (.int .i64 p) k n2).trans (FO2.out.2.2.2.2 k hk n1 n2 n3)⟩)
  have hce := (blk_cell E3.out 0).trans rfl
  have fve := blk_frozen E3.out 0
  refine hK.out _ _ ⟨(blk_cell F3.out 1).trans rfl, (blk_cell F3.out 0).trans rfl⟩ (fun hHeld => ?_)
  clear hK K
  refine one_ (i := 7) (N := none) #[true, true, true, true, true, true, true, true] rfl rfl (by kernel_rfl) (by decide) (fun K hK => ?_)
  refine skip_ (w1 := ?_) (by rfl) rfl ?_ ?_
  rotate_left
  · go_simp
    rfl
  clear hce fve
  have E4 := Aside0.mk (blk_put E3.out 0 (.int .i64 e) rfl)
  have V4 := Aside0.mk ((Below.heap_setCell _ ⟨be, 0, none⟩ (.int .i64 e) bv (show bv ≠ be from HD.out.2.1)).trans V3.out)
  have N4 := Aside0.mk ((Below.heap_setCell _ ⟨be, 0, none⟩ (.int .i64 e) bn (show bn ≠ be from HD.out.2.2)).trans N3.out)
  have F4 := Aside0.mk ((Below.heap_setCell _ ⟨be, 0, none⟩ (.int .i64 e) fb (show fb ≠ be by have := HLT.out.2.2; omega)).trans F3.out)
  have FO4 := Aside0.mk (show wt.But3 w ((w2.setCell ⟨bn, 0, none⟩ (.int .i64 p)).setCell ⟨be, 0, none⟩ (.int .i64 e)) bv bn be fb from ⟨FO3.out.1, FO3.out.2.1, FO3.out.2.2.1, by rw [Deep.nblk_setCell]; exact FO3.out.2.2.2.1, fun k hk n1 n2 n3 => (Below.heap_setCell _ ⟨be, 0, none⟩ (.int .i64 e) k n3).trans (FO3.out.2.2.2.2 k hk n1 n2 n3)⟩)
  refine hK.out _ _ ⟨(blk_cell F4.out 1).trans rfl, (blk_cell F4.out 0).trans rfl⟩ (fun hHeld => ?_)
  clear hK K
  refine done_ (by kernel_rfl) ?_
  go_wp2
  refine ⟨rfl, _, ?_, _, by simp [results, Try.results37], rfl, rfl, ⟨cv', V4.out, SZ2.out, G2.out⟩, N4.out, E4.out, by rw [HFB.out]; exact FO4.out⟩
  · cases c₀
    cases hu
    rfl
end
end Go.Proofs.Ytnkbobblnhaclaa.X

/- Xxwtake5: walks by hand, for the claim. -/
namespace Go.Proofs.Ytnkbobblnhaclaa.X
open Go.RowKit Go.Proofs.YtnkbobblnhaclaaW.PrintWords Go.Proofs.YtnkbobblnhaclaaW.PrintLast Go.Proofs.YtnkbobblnhaclaaW.PrintMore Go.Proofs.YtnkbobblnhaclaaW
section
set_option maxHeartbeats 4000000
set_option maxRecDepth 100000
theorem wt.arrL_all {p : S25 → Prop} {f : Int → Int → wt.R3 S25} (hf : ∀ (a l : Int) (x : S25) (a2 l2 : Int), f a l = .ok x a2 l2 → p x) : ∀ (k : Nat) (acc : List S25) (a l : Int) (vs : List S25) (a2 l2 : Int), (∀ y ∈ acc, p y) → wt.arrL f k acc a l = .ok vs a2 l2 → ∀ y ∈ vs, p y
  | 0, acc, a, l, vs, a2, l2, hb, h => by
    unfold wt.arrL at h
    injection h with e1 _ _
    subst e1; exact hb
  | k + 1, acc, a, l, vs, a2, l2, hb, h => by
    unfold wt.arrL at h
    rcases hfa : f a l with ⟨x, a1, l1⟩ | ⟨e, q⟩
    · rw [hfa] at h
      refine wt.arrL_all hf k _ a1 l1 vs a2 l2 (fun y hy => ?_) h
      rcases List.mem_append.1 hy with hy | hy
      · exact hb y hy
      · rw [List.mem_singleton.1 hy]; exact hf a l x a1 l1 hfa
    · rw [hfa] at h; cases h
theorem wt.recL_all {p : S25 → Prop} {bs : List Int} {u : Int → Int × Int × Int} {f : Int → Int → wt.R3 S25} (hf : ∀ (a l : Int) (x : S25) (a2 l2 : Int), f a l = .ok x a2 l2 → p x) : ∀ (k : Nat) (ks : List ByteArray) (acc : List S25) (a l : Int) (vs : List ByteArray × List S25) (a2 l2 : Int), (∀ y ∈ acc, p y) → wt.recL bs u f k ks acc a l = .ok vs a2 l2 → ∀ y ∈ vs.2, p y
  | 0, ks, acc, a, l, vs, a2, l2, hb, h => by
    unfold wt.recL at h
    injection h with e1 _ _
    subst e1; exact hb
  | k + 1, ks, acc, a, l, vs, a2, l2, hb, h => by
    unfold wt.recL at h
    rcases hka : wt.keyS bs u ks a l with ⟨kk, a1, l1⟩ | ⟨e, q⟩
    · rw [hka] at h
      dsimp only at h
      rcases hfa : f a1 l1 with ⟨x, a3, l3⟩ | ⟨e, q⟩
      · rw [hfa] at h
        refine wt.recL_all hf k _ _ a3 l3 vs a2 l2 (fun y hy => ?_) h
        rcases List.mem_append.1 hy with hy | hy
        · exact hb y hy
        · rw [List.mem_singleton.1 hy]; exact hf a1 l1 x a3 l3 hfa
      · rw [hfa] at h; cases h
    · rw [hka] at h; cases h
theorem wt.valS_deep {bs : List Int} {u i : Int → Int × Int × Int} : ∀ (d : Nat) (a l : Int) (x : S25) (a2 l2 : Int), wt.valS bs u i d a l = .ok x a2 l2 → wt.deepL d x.f3
  | 0, a, l, x, a2, l2, h => by
    rw [wt.valS] at h
    split at h <;> cases h
  | d + 1, a, l, x, a2, l2, h => by
    rw [wt.valS_s] at h
    have leaf : ∀ {y : S25} {b m : Int}, y.f3 = [] → wt.R3.ok y b m = .ok x a2 l2 → wt.deepL (d + 1) x.f3 := fun e h => by
      injection h with e1 _ _
      subst e1
      rw [e]
      exact wt.deepL_nil d
    have nb : ∀ {e q : Int}, wt.R3.bad e q = .ok x a2 l2 → wt.deepL (d + 1) x.f3 := fun h => by cases h
    by_cases h0 : a = (bs.length : Int) ∨ rd bs a > 6
    · rw [if_pos h0] at h; exact nb h
    rw [if_neg h0] at h
    by_cases h1 : 1 > l
    · rw [if_pos h1] at h; exact nb h
    rw [if_neg h1] at h
    by_cases k1 : rd bs a = 1
    · rw [if_pos k1] at h; exact leaf rfl h
    rw [if_neg k1] at h
    by_cases k2 : rd bs a = 2
    · rw [if_pos k2] at h; exact leaf rfl h
    rw [if_neg k2] at h
    by_cases k3 : rd bs a = 3
    · rw [if_pos k3] at h
      by_cases e1 : (i (a + 1)).2.2 ≠ 0
      · rw [if_pos e1] at h; exact nb h
      · rw [if_neg e1] at h; exact leaf rfl h
    rw [if_neg k3] at h
    by_cases k4 : rd bs a = 4
    · rw [if_pos k4] at h
      by_cases e1 : (u (a + 1)).2.2 ≠ 0
      · rw [if_pos e1] at h; exact nb h
      rw [if_neg e1] at h
      by_cases e2 : (l - 1) / 1 < (u (a + 1)).1
      · rw [if_pos e2] at h; exact nb h
      rw [if_neg e2] at h
      by_cases e3 : (bs.length : Int) - (u (a + 1)).2.1 < (u (a + 1)).1
      · rw [if_pos e3] at h; exact nb h
      · rw [if_neg e3] at h; exact leaf rfl h
    rw [if_neg k4] at h
    by_cases k5 : rd bs a = 5
    · rw [if_pos k5] at h
      by_cases e1 : (u (a + 1)).2.2 ≠ 0
      · rw [if_pos e1] at h; exact nb h
      rw [if_neg e1] at h
      by_cases e2 : (l - 1) / 1 < (u (a + 1)).1
      · rw [if_pos e2] at h; exact nb h
      rw [if_neg e2] at h
      rcases hL : wt.arrL (wt.valS bs u i d) (u (a + 1)).1.toNat [] (u (a + 1)).2.1 (l - 1) with ⟨vs, a3, l3⟩ | ⟨e, p⟩
      · rw [hL] at h
        have hp := wt.arrL_all (p := fun y => wt.deepL d y.f3) (wt.valS_deep d) _ _ _ _ _ _ _ (fun y hy => by cases hy) hL
        injection h with e1 _ _
        subst e1
        exact hp
      · rw [hL] at h; exact nb h
    rw [if_neg k5] at h
    by_cases k6 : rd bs a = 6
    · rw [if_pos k6] at h
      by_cases e1 : (u (a + 1)).2.2 ≠ 0
      · rw [if_pos e1] at h; exact nb h
      rw [if_neg e1] at h
      by_cases e2 : (l - 1) / 2 < (u (a + 1)).1
      · rw [if_pos e2] at h; exact nb h
      rw [if_neg e2] at h
      rcases hL : wt.recL bs u (wt.valS bs u i d) (u (a + 1)).1.toNat [] [] (u (a + 1)).2.1 (l - 1) with ⟨⟨ks, vs⟩, a3, l3⟩ | ⟨e, p⟩
      · rw [hL] at h
        have hp := wt.recL_all (p := fun y => wt.deepL d y.f3) (wt.valS_deep d) _ _ _ _ _ _ _ _ (fun y hy => by cases hy) hL
        injection h with e1 _ _
        subst e1
        exact hp
      · rw [hL] at h; exact nb h
    rw [if_neg k6] at h
    exact leaf rfl h
/-- What Take comes to. -/
def wt.takeS (bs : List Int) (u i : Int → Int × Int × Int) (at_ : Int) : wt.R3 S25 := if at_ < 0 ∨ at_ > (bs.length : Int) then .bad 41 0 else wt.valS bs u i 8 at_ 2048
/-- Behind Take. -/
def wt.GotT (r : wt.R3 S25) (w : World) (e : Ending) (w' : World) : Prop :=
  match r with
  | .ok x a' _ => ∃ v3 v4 : Value, e = .returned (.tuple #[.agg #[.int .i64 x.f0, .int .i64 x.f1, .string x.f2, v3, v4], .int .i64 a', .int .i64 0]) ∧ wt.VRow w' (fun k => w.heap.size ≤ k ∧ k < w'.heap.size) 8 v3 x.f3 ∧ wt.KRow w' (fun k => w.heap.size ≤ k ∧ k < w'.heap.size) v4 x.f4 ∧ Below w.heap.size w w'
  | .bad f p => e = .returned (.tuple #[.agg #[.int .i64 0, .int .i64 0, .string ⟨#[]⟩, .slice none 0 0, .slice none 0 0], .int .i64 p, .int .i64 f]) ∧ Below w.heap.size w w'
theorem wt.res22 {tmps : Array Value} {w : World} {bv bn be : Nat} (hp4 : tmps[4]? = some (.pointer (some ⟨bv, 0, none⟩))) (hp5 : tmps[5]? = some (.pointer (some ⟨bn, 0, none⟩))) (hp6 : tmps[6]? = some (.pointer (some ⟨be, 0, none⟩))) {v0 v1 v2 v3 v4 : Value} {x y : Int} (hv : w.heap[bv]? = some (.cells #[v0, v1, v2, v3, v4] 25 (0, 0))) (hn : w.heap[bn]? = some (.cells #[.int .i64 x] 3 (0, 0))) (he : w.heap[be]? = some (.cells #[.int .i64 y] 27 (0, 0))) :
    (results Try.f22 tmps).run Try.prog w = .ok (.tuple #[.agg #[v0, v1, v2, v3, v4], .int .i64 x, .int .i64 y]) w := by
  have z0 : w.cell? ⟨bv, 0, none⟩ = some v0 := (blk_cell hv 0).trans rfl
  have z1 : w.cell? ⟨bv, 1, none⟩ = some v1 := (blk_cell hv 1).trans rfl
  have z2 : w.cell? ⟨bv, 2, none⟩ = some v2 := (blk_cell hv 2).trans rfl
  have z3 : w.cell? ⟨bv, 3, none⟩ = some v3 := (blk_cell hv 3).trans rfl
  have z4 : w.cell? ⟨bv, 4, none⟩ = some v4 := (blk_cell hv 4).trans rfl
  have c1 : w.cell? ⟨bn, 0, none⟩ = some (.int .i64 x) := (blk_cell hn 0).trans rfl
  have c2 : w.cell? ⟨be, 0, none⟩ = some (.int .i64 y) := (blk_cell he 0).trans rfl
  simp [results, Try.results22, hp4, hp5, hp6, asAddr, z0, z1, z2, z3, z4, c1, c2, go_sem]
theorem wt.grp_eq {cv : Array Value} {v0 v1 v2 v3 v4 : Value} (hs : cv.size = 5) (h : wt.grp cv 0 v0 v1 v2 v3 v4) : cv = #[v0, v1, v2, v3, v4] := by
  obtain ⟨h0, h1, h2, h3, h4⟩ := h
  apply Array.ext (by simp [hs])
  intro i hi hj
  have hi5 : i < 5 := by omega
  have key : cv[i]? = #[v0, v1, v2, v3, v4][i]? := by
    match i, hi5 with
    | 0, _ => exact h0
    | 1, _ => exact h1
    | 2, _ => exact h2
    | 3, _ => exact h3
    | 4, _ => exact h4
  rw [Array.getElem?_eq_getElem hi, Array.getElem?_eq_getElem hj] at key
  exact Option.some.inj key
theorem wt.three_new (w : World) (A B C : Obj) : (((w.alloc A).alloc B).alloc C).heap[w.heap.size]? = some A ∧ (((w.alloc A).alloc B).alloc C).heap[w.heap.size + 1]? = some B ∧ (((w.alloc A).alloc B).alloc C).heap[w.heap.size + 1 + 1]? = some C ∧ (((w.alloc A).alloc B).alloc C).heap.size = w.heap.size + 1 + 1 + 1 ∧ Below w.heap.size w (((w.alloc A).alloc B).alloc C) := by
  have s1 := Deep.nblk_alloc w A
  have s2 := Deep.nblk_alloc (w.alloc A) B
  have s3 := Deep.nblk_alloc ((w.alloc A).alloc B) C
  have e1 := heap_alloc_new w A
  have e2 := heap_alloc_new (w.alloc A) B
  have e3 := heap_alloc_new ((w.alloc A).alloc B) C
  refine ⟨?_, ?_, ?_, by omega, (((Below.refl _ _).alloc (Nat.le_refl _) _).alloc (by omega) _).alloc (by omega) _⟩
  · rw [Deep.blk_alloc_lt _ _ _ (by omega), Deep.blk_alloc_lt _ _ _ (by omega)]; exact e1
  · rw [Deep.blk_alloc_lt _ _ _ (by omega), ← s1]; exact e2
  · rw [← s1, ← s2]; exact e3
theorem wt.takeA {bs : List Int} {w : World} {A : Option Addr} {c : Nat} {at_ : Int} (h : at_ < 0 ∨ at_ > (bs.length : Int)) : Calls Try.prog 22 #[.slice A bs.length c, .int .i64 at_] w (wt.GotT (.bad 41 0) w) := by
  obtain ⟨m, hm⟩ : ∃ m, bs.length = m := ⟨_, rfl⟩
  rw [hm] at h ⊢
  have fin : ∀ (tmps : Array Value), tmps[4]? = some (.pointer (some ⟨w.heap.size, 0, none⟩)) → tmps[5]? = some (.pointer (some ⟨w.heap.size + 1, 0, none⟩)) → tmps[6]? = some (.pointer (some ⟨w.heap.size + 1 + 1, 0, none⟩)) → ∃ v, (results Try.f22 tmps).run Try.prog (((w.alloc (.cells #[.int .i64 0, .int .i64 0, .string ⟨#[]⟩, .slice none 0 0, .slice none 0 0] 25)).alloc (.cells #[.int .i64 0] 3)).alloc (.cells #[.int .i64 41] 27)) = .ok v (((w.alloc (.cells #[.int .i64 0, .int .i64 0, .string ⟨#[]⟩, .slice none 0 0, .slice none 0 0] 25)).alloc (.cells #[.int .i64 0] 3)).alloc (.cells #[.int .i64 41] 27)) ∧ wt.GotT (.bad 41 0) w (.returned v) (((w.alloc (.cells #[.int .i64 0, .int .i64 0, .string ⟨#[]⟩, .slice none 0 0, .slice none 0 0] 25)).alloc (.cells #[.int .i64 0] 3)).alloc (.cells #[.int .i64 41] 27)) := fun tmps q4 q5 q6 => by
    obtain ⟨hv, hn, he, _, hb⟩ := wt.three_new w (.cells #[.int .i64 0, .int .i64 0, .string ⟨#[]⟩, .slice none 0 0, .slice none 0 0] 25) (.cells #[.int .i64 0] 3) (.cells #[.int .i64 41] 27)
    exact ⟨_, wt.res22 q4 q5 q6 hv hn he, rfl, hb⟩
  have FIN := Aside0.mk fin
  clear fin
  by_cases h1 : at_ < 0
  · have d1 : decide (at_ < 0) = true := decide_eq_true h1
    clear h
    go_enter_defers Try.func22, Try.ntmps22
    go_wp2
    exact FIN.out _ rfl rfl rfl
  · have d1 : decide (at_ < 0) = false := decide_eq_false h1
    have h2 : at_ > (m : Int) := h.resolve_left h1
    have d2 : decide (at_ > (m : Int)) = true := decide_eq_true h2
    have d3 : decide ((m : Int) < at_) = true := decide_eq_true h2
    clear h h1
    go_enter_defers Try.func22, Try.ntmps22
    go_wp2
    exact FIN.out _ rfl rfl rfl
/-- Ahead of reader.value. -/
theorem wt.takeC {bs : List Int} {u i : Int → Int × Int × Int} (hU : wt.Uin bs u i) {w : World} {A : Option Addr} {c : Nat} {at_ : Int} (hC : (Kd.int .u8).C w A bs.length bs) (hc : bs.length ≤ c) (h0 : 0 ≤ at_) (h1 : at_ ≤ (bs.length : Int)) {ee pp : Int} (hr : wt.valS bs u i 8 at_ 2048 = .bad ee pp) :
    Calls Try.prog 22 #[.slice A bs.length c, .int .i64 at_] w (wt.GotT (.bad ee pp) w) := by
  have hmf : ∀ (fn : Fn) (first cap : Array Value) (w : World), (Instr.makeFunc fn first cap).run Try.prog w = .ok (.func fn first cap) w := fun _ _ _ _ => rfl
  have d1 : decide (at_ < 0) = false := decide_eq_false (by omega)
  have d2 : decide (at_ > (bs.length : Int)) = false := decide_eq_false (by omega)
  have d3 : decide ((bs.length : Int) < at_) = false := decide_eq_false (by omega)
  have HU := Aside0.mk hU
  have HC := Aside0.mk hC
  have HCC := Aside0.mk hc
  have H0 := Aside0.mk h0
  have H1 := Aside0.mk h1
  have HR := Aside0.mk hr
  have HT := Aside0.mk (wt.three_new w (.cells #[.int .i64 0, .int .i64 0, .string ⟨#[]⟩, .slice none 0 0, .slice none 0 0] 25) (.cells #[.int .i64 0] 3) (.cells #[.int .i64 0] 27))
  clear hU hC hc h0 h1 hr
  go_enter_defers Try.func22, Try.ntmps22
  go_wp2_with (first | ((with_reducible refine gate_dst (N := 21) rfl ?_); refine box_event ?hg (N := 21) ?hd (cs := #[.slice A bs.length c, .int .i64 at_, .int .i64 2048]) (t := 58) ?hr ?_; (case hd => rfl); (case hg => rfl); (case hr => first | (go_simp; done) | (go_simp; rfl)); intro g hg w2 hbox hb1; have HB2 := Aside0.mk (below_then HT.out.2.2.2.2 HT.out.2.2.2.2.size hb1); have V2 := Aside0.mk (blk_below HT.out.1 hb1); have N2 := Aside0.mk (blk_below HT.out.2.1 hb1); have E2 := Aside0.mk (blk_below HT.out.2.2.1 hb1); have G2 := Aside0.mk hbox; have HG := Aside0.mk (hg.trans HT.out.2.2.2.1); clear hbox hb1 hg) | (go_at_call 38; refine (wt.value1 HU.out (by have := HG.out; omega) HCC.out 8 (by omega) 0 rfl w2 at_ 2048 HB2.out G2.out (Kd.C_below HC.out HB2.out) H0.out H1.out (by omega) (by omega)).mono ?_; rw [HR.out]; rintro e_ w3 ⟨rfl, hx⟩; have V3 := Aside0.mk ((hx.fr.2 _ (blk_lt V2.out) (by have := HG.out; omega)).trans V2.out); have N3 := Aside0.mk ((hx.fr.2 _ (blk_lt N2.out) (by have := HG.out; omega)).trans N2.out); have E3 := Aside0.mk ((hx.fr.2 _ (blk_lt E2.out) (by have := HG.out; omega)).trans E2.out); have HB3 := Aside0.mk hx.bel; clear hx; unfold wt.flt))
  refine leaves_cons (f := 37) (args := #[.pointer (some ⟨w.heap.size, 0, none⟩), .pointer (some ⟨w.heap.size + 1, 0, none⟩), .pointer (some ⟨w.heap.size + 1 + 1, 0, none⟩)]) (by simp) (by simp [go_sem]) ?_
  refine (wt.catch_bad _ _ _ ee pp _ _ _ (by decide) w3 V3.out N3.out E3.out (by omega) (by omega) (by omega)).mono ?_
  rintro e u' w4 ⟨rfl, rfl, ⟨cv, hv, hsz, hg⟩, hn, he, hb⟩
  have hcv := wt.grp_eq hsz hg
  subst hcv
  have hs : settle (.panicking [{ v := .iface 54 (.agg #[.int .i64 ee, .int .i64 pp]), recovered := true }]) = .returning := rfl
  show Leaves Try.prog Try.f22 _ _ [] (settle _) _
  rw [hs]
  refine ⟨_, wt.res22 rfl rfl rfl hv hn he, rfl, ?_⟩
  exact ⟨hb.1.trans HB3.out.os, hb.2.1.trans HB3.out.tape, hb.2.2.1.trans HB3.out.output, Nat.le_trans HB3.out.size hb.2.2.2.1, fun k hk => (hb.2.2.2.2 k (Nat.lt_of_lt_of_le hk HB3.out.size) (by omega) (by omega) (by omega)).trans (HB3.out.block k hk)⟩
theorem wt.leaves_congr {P : Program} {fn : Func} {t1 t2 : Array Value} {R : Ending → World → Prop} (he : results fn t1 = results fn t2) : ∀ (ds : List Deferred) {u : FrameMode} {w : World}, Leaves P fn t1 R ds u w → Leaves P fn t2 R ds u w
  | [], .returning, w, h => by
    obtain ⟨v, h1, h2⟩ := h
    exact ⟨v, he ▸ h1, h2⟩
  | [], .panicking _, w, h => h
  | [], .run, _, h => h
  | d :: ds, u, w, h => by
    obtain ⟨h1, fv, cap, f, args, h2, h3, h4⟩ := h
    refine ⟨h1, fv, cap, f, args, h2, h3, h4.mono fun e u' w' hh => ?_⟩
    cases e with
    | returned v => exact wt.leaves_congr he ds hh
    | panicked ch => exact wt.leaves_congr he ds hh
    | outgrown => exact hh
theorem wt.leaves22 {P : Program} {N : Tmp} (hN : N ≠ 4 ∧ N ≠ 5 ∧ N ≠ 6) {a : Act} {v : Value} {R : Ending → World → Prop} {u : FrameMode} {w : World} (h : Leaves P Try.f22 (a.put (some N) v).tmps R (a.put (some N) v).defers u w) : Leaves P Try.f22 a.tmps R a.defers u w := by
  refine wt.leaves_congr ?_ a.defers h
  have e : ∀ k, N ≠ k → (a.put (some N) v).tmps.getD k undef = a.tmps.getD k undef := fun k hk => by
    simp [Act.put, Array.getElem?_setIfInBounds, hk]
  simp only [results, Try.results22]
  simp [e 4 hN.1, e 5 hN.2.1, e 6 hN.2.2, Act.put, Array.getElem?_setIfInBounds, hN.1, hN.2.1, hN.2.2]
theorem wt.takeB {bs : List Int} {u i : Int → Int × Int × Int} (hU : wt.Uin bs u i) {w : World} {A : Option Addr} {c : Nat} {at_ : Int} (hC : (Kd.int .u8).C w A bs.length bs) (hc : bs.length ≤ c) (h0 : 0 ≤ at_) (h1 : at_ ≤ (bs.length : Int)) {x : S25} {a2 l2 : Int} (hr : wt.valS bs u i 8 at_ 2048 = .ok x a2 l2) :
    Calls Try.prog 22 #[.slice A bs.length c, .int .i64 at_] w (wt.GotT (.ok x a2 l2) w) := by
  have hmf : ∀ (fn : Fn) (first cap : Array Value) (w : World), (Instr.makeFunc fn first cap).run Try.prog w = .ok (.func fn first cap) w := fun _ _ _ _ => rfl
  have d1 : decide (at_ < 0) = false := decide_eq_false (by omega)
  have d2 : decide (at_ > (bs.length : Int)) = false := decide_eq_false (by omega)
  have d3 : decide ((bs.length : Int) < at_) = false := decide_eq_false (by omega)
  have HU := Aside0.mk hU
  have HC := Aside0.mk hC
  have HCC := Aside0.mk hc
  have H0 := Aside0.mk h0
  have H1 := Aside0.mk h1
  have HR := Aside0.mk hr
  have HDP := Aside0.mk (wt.valS_deep 8 _ _ _ _ _ hr)
  have HT := Aside0.mk (wt.three_new w (.cells #[.int .i64 0, .int .i64 0, .string ⟨#[]⟩, .slice none 0 0, .slice none 0 0] 25) (.cells #[.int .i64 0] 3) (.cells #[.int .i64 0] 27))
  clear hU hC hc h0 h1 hr
  go_enter_defers Try.func22, Try.ntmps22
  go_wp2_with (first | ((with_reducible refine gate_dst (N := 21) rfl ?_); refine box_event ?hg (N := 21) ?hd (cs := #[.slice A bs.length c, .int .i64 at_, .int .i64 2048]) (t := 58) ?hr ?_; (case hd => rfl); (case hg => rfl); (case hr => first | (go_simp; done) | (go_simp; rfl)); intro g hg w2 hbox hb1; have HB2 := Aside0.mk (below_then HT.out.2.2.2.2 HT.out.2.2.2.2.size hb1); have V2 := Aside0.mk (blk_below HT.out.1 hb1); have N2 := Aside0.mk (blk_below HT.out.2.1 hb1); have E2 := Aside0.mk (blk_below HT.out.2.2.1 hb1); have G2 := Aside0.mk hbox; have HG := Aside0.mk (hg.trans HT.out.2.2.2.1); clear hbox hb1 hg) | (go_at_call 38; refine (wt.value1 HU.out (by have := HG.out; omega) HCC.out 8 (by omega) 0 rfl w2 at_ 2048 HB2.out G2.out (Kd.C_below HC.out HB2.out) H0.out H1.out (by omega) (by omega)).mono ?_; rw [HR.out]; rintro e_ w3 ⟨⟨v3, v4, rfl, hr3, hr4⟩, hx⟩; have V3 := Aside0.mk ((hx.fr.2 _ (blk_lt V2.out) (by have := HG.out; omega)).trans V2.out); have N3 := Aside0.mk ((hx.fr.2 _ (blk_lt N2.out) (by have := HG.out; omega)).trans N2.out); have E3 := Aside0.mk ((hx.fr.2 _ (blk_lt E2.out) (by have := HG.out; omega)).trans E2.out); have G3 := Aside0.mk hx.blk; have HB3 := Aside0.mk hx.bel; have R3_ := Aside0.mk (wt.VRow.of_R 8 (Y := fun k => w2.heap.size ≤ k ∧ k < w3.heap.size) (Kd.R_bound hr3) (fun k hk => ⟨hk.1, hk.2.2.1⟩) HDP.out); have R4_ := Aside0.mk (wt.KRow.of_R (Y := fun k => w2.heap.size ≤ k ∧ k < w3.heap.size) (Kd.R_bound hr4) (fun k hk => ⟨hk.1, hk.2.2.1⟩)); have HSZ := Aside0.mk hx.fr.1; clear hx hr3 hr4) | ((with_reducible refine gate_store (p := 4) rfl ?_); refine wt.store_res rfl rfl 4 _ rfl w.heap.size rfl (.int .i64 x.f0) (.int .i64 x.f1) (.string x.f2) v3 v4 rfl (fun q hq => by simp at hq; rcases hq with rfl | rfl | rfl | rfl | rfl <;> first | rfl | exact (wt.one_slice (by obtain ⟨A_, c_, e_, _⟩ := wt.VRow.C 8 R3_.out; exact ⟨_, _, _, e_⟩)).1 | exact (wt.one_slice (by obtain ⟨A_, c_, e_, _⟩ := R4_.out.C; exact ⟨_, _, _, e_⟩)).1) _ rfl V3.out ?_; intro w4 hres hgr; have V4 := Aside0.mk hres; have N4 := Aside0.mk ((hgr.block _ (blk_lt N3.out) (fun e_ => by have := Option.some.inj e_; omega)).trans N3.out); have E4 := Aside0.mk ((hgr.block _ (blk_lt E3.out) (fun e_ => by have := Option.some.inj e_; omega)).trans E3.out); have G4 := Aside0.mk ((hgr.block _ (blk_lt G3.out) (fun e_ => by have := Option.some.inj e_; have := HG.out; omega)).trans G3.out); have HB4 := Aside0.mk (show Below w.heap.size w w4 from ⟨hgr.os.trans HB3.out.os, hgr.tape.trans HB3.out.tape, hgr.output.trans HB3.out.output, Nat.le_trans HB3.out.size hgr.size, fun k hk => (hgr.block k (Nat.lt_of_lt_of_le hk HB3.out.size) (fun e_ => by have := Option.some.inj e_; omega)).trans (HB3.out.block k hk)⟩); have HYW := Aside0.mk (show w.heap.size + 1 + 1 + 1 < w2.heap.size from by have := blk_lt G2.out; have := HG.out; omega); have VR4 := Aside0.mk (wt.VRow.move (w := w3) (w1 := w4) (Y := fun k => w2.heap.size ≤ k ∧ k < w3.heap.size) (fun _ h => h) (fun k hk hlt => hgr.block k hlt (fun e_ => by have := Option.some.inj e_; have := HYW.out; omega)) 8 R3_.out); have KR4 := Aside0.mk (R4_.out.move (w1 := w4) (fun _ h => h) (fun k hk hlt => hgr.block k hlt (fun e_ => by have := Option.some.inj e_; have := HYW.out; omega))); have HSZ4 := Aside0.mk (show w3.heap.size ≤ w4.heap.size from hgr.size); clear hres hgr))
  generalize hYd : (fun k => w2.heap.size ≤ k ∧ k < w3.heap.size) = Y at *
  have HYD := Aside0.mk (show ∀ k, Y k → w2.heap.size ≤ k ∧ k < w3.heap.size from fun k hk => by rw [← hYd] at hk; exact hk)
  clear hYd R3_ R4_
  refine start_ (n := 9) (S := fun w' => w'.cell? ⟨g, 1, none⟩ = some (.int .i64 a2)) (ds := []) #[false, false, false, false, false, false, false, false, false] (by kernel_rfl) rfl rfl ((blk_cell (blk_drew G4.out) 1).trans rfl) (fun hHeld => ?_)
  generalize hwd : w4.drew = wd at hHeld ⊢
  have Vd := Aside0.mk (hwd ▸ blk_drew V4.out)
  have Nd := Aside0.mk (hwd ▸ blk_drew N4.out)
  have Ed := Aside0.mk (hwd ▸ blk_drew E4.out)
  have Gd := Aside0.mk (hwd ▸ blk_drew G4.out)
  have HBd := Aside0.mk (hwd ▸ below_drew HB4.out)
  have VRd := Aside0.mk (hwd ▸ wt.VRow.move (w := w4) (w1 := w4.drew) (fun _ h => h) (fun _ _ _ => rfl) 8 VR4.out)
  have KRd := Aside0.mk (hwd ▸ KR4.out.move (w1 := w4.drew) (fun _ h => h) (fun _ _ _ => rfl))
  have HSd := Aside0.mk (show w3.heap.size ≤ wd.heap.size from hwd ▸ HSZ4.out)
  clear hwd
  refine pure_ (i := 2) (N := some 26) (v := ?_) (a' := ?_) #[false, false, true, false, false, false, false, false, false] rfl rfl (by kernel_rfl) (fun _ _ _ h => wt.leaves22 (by decide) h) (Or.inl ⟨by rfl, ?_⟩) ?_ ?_
  rotate_left
  · intro w'
    go_simp
    with_reducible rfl
  rotate_left
  · simp only [Act.put, List.setIfInBounds_toArray, List.set_cons_zero, List.set_cons_succ, i64_w, i32_w]
    rfl
  refine pure_ (i := 3) (N := some 27) (v := ?_) (a' := ?_) #[false, false, true, true, false, false, false, false, false] rfl rfl (by kernel_rfl) (fun _ _ _ h => wt.leaves22 (by decide) h) (Or.inl ⟨by rfl, ?_⟩) ?_ ?_
  rotate_left
  · intro w'
    go_simp
    with_reducible rfl
  rotate_left
  · simp only [Act.put, List.setIfInBounds_toArray, List.set_cons_zero, List.set_cons_succ, i64_w, i32_w]
    rfl
  refine pure_ (i := 4) (N := some 28) (v := ?_) (a' := ?_) #[false, false, true, true, true, false, false, false, false] rfl rfl (by kernel_rfl) (fun _ _ _ h => wt.leaves22 (by decide) h) (Or.inl ⟨by rfl, ?_⟩) ?_ ?_
  rotate_left
  · intro w'
    go_simp
    with_reducible rfl
  rotate_left
  · simp only [Act.put, List.setIfInBounds_toArray, List.set_cons_zero, List.set_cons_succ, i64_w, i32_w]
    rfl
  refine take_ (i := 5) (N := some 29) (v := ?_) (a' := ?_) #[false, false, true, true, true, true, false, false, false] rfl rfl (by kernel_rfl) (fun _ _ _ h => wt.leaves22 (by decide) h) (Or.inl ⟨by rfl, ?_⟩) hHeld ?_ ?_
  rotate_left
  · intro w' s0
    go_simp
    with_reducible rfl
  rotate_left
  · simp only [Act.put, List.setIfInBounds_toArray, List.set_cons_zero, List.set_cons_succ, i64_w, i32_w]
    rfl
  refine one_ (i := 0) (N := some 24) #[true, false, true, true, true, true, false, false, false] rfl rfl (by kernel_rfl) (by decide) (fun K hK => ?_)
  have z0 := (blk_cell Vd.out 0).trans rfl
  have z1 := (blk_cell Vd.out 1).trans rfl
  have z2 := (blk_cell Vd.out 2).trans rfl
  have z3 := (blk_cell Vd.out 3).trans rfl
  have z4 := (blk_cell Vd.out 4).trans rfl
  refine value_ (w1 := ?_) (v := ?_) (by rfl) rfl ?_ ?_
  rotate_left 2
  · go_simp
    constructor
    · rfl
    · rfl
  clear z0 z1 z2 z3 z4
  refine hK.out _ _ ((blk_cell Gd.out 1).trans rfl) (fun hHeld => ?_)
  clear hK K
  refine norm_ (a' := ?_) ?_ ?_
  rotate_left
  · show Act.put _ (some 24) _ = _
    simp only [Act.put, List.setIfInBounds_toArray, List.set_cons_zero, List.set_cons_succ, i64_w, i32_w]
    rfl
  refine one_ (i := 1) (N := some 25) #[true, true, true, true, true, true, false, false, false] rfl rfl (by kernel_rfl) (by decide) (fun K hK => ?_)
  refine goes_ Try.func39 (by kernel_rfl) rfl #[.agg #[.int .i64 x.f0, .int .i64 x.f1, .string x.f2, v3, v4]] (by rfl) rfl rfl (by (try simp only [List.map_toArray, List.map_cons, List.map_nil]); first | done | rfl) ?_
  refine (wt.tight1 8 x v3 v4 _ (fun k hk => by have := (HYD.out k hk).2; have := HSd.out; omega) VRd.out KRd.out).mono ?_
  rintro e w5 ⟨rfl, hs⟩
  refine ⟨_, rfl, ?_⟩
  have V5 := Aside0.mk ((hs.out _ (blk_lt Vd.out) (fun y => by have := (HYD.out _ y).1; have := HYW.out; have := HG.out; omega)).trans Vd.out)
  have N5 := Aside0.mk ((hs.out _ (blk_lt Nd.out) (fun y => by have := (HYD.out _ y).1; have := HYW.out; have := HG.out; omega)).trans Nd.out)
  have E5 := Aside0.mk ((hs.out _ (blk_lt Ed.out) (fun y => by have := (HYD.out _ y).1; have := HYW.out; have := HG.out; omega)).trans Ed.out)
  have G5 := Aside0.mk ((hs.out _ (blk_lt Gd.out) (fun y => by have := (HYD.out _ y).1; have := HYW.out; have := HG.out; omega)).trans Gd.out)
  have HB5 := Aside0.mk (show Below w.heap.size w w5 from ⟨hs.os.trans HBd.out.os, hs.tape.trans HBd.out.tape, hs.output.trans HBd.out.output, Nat.le_trans HBd.out.size hs.size, fun k hk => (hs.out k (Nat.lt_of_lt_of_le hk HBd.out.size) (fun y => by have := (HYD.out k y).1; have := HYW.out; omega)).trans (HBd.out.block k hk)⟩)
  have VR5 := Aside0.mk (wt.VRow.simT hs 8 VRd.out).2
  have KR5 := Aside0.mk (wt.KRow.simT hs KRd.out).2
  have HS5 := Aside0.mk (Nat.le_trans HSd.out hs.size)
  clear hs
  refine hK.out _ _ ((blk_cell G5.out 1).trans rfl) (fun hHeld => ?_)
  clear hK K
  refine norm_ (a' := ?_) ?_ ?_
  rotate_left
  · show Act.put _ (some 25) _ = _
    simp only [Act.put, List.setIfInBounds_toArray, List.set_cons_zero, List.set_cons_succ, i64_w, i32_w]
    rfl
  refine one_ (i := 6) (N := none) #[true, true, true, true, true, true, true, false, false] rfl rfl (by kernel_rfl) (by decide) (fun K hK => ?_)
  refine wt.st25 25 (by rfl) rfl 4 (.tmp 25) rfl (by kernel_rfl) w.heap.size 0 rfl (.int .i64 x.f0) (.int .i64 x.f1) (.string x.f2) (wt.clipv v3) (wt.clipv v4) rfl ?hone _ 25 (Nat.le_refl _) V5.out ?_
  (case hone => intro q hq; simp at hq; rcases hq with rfl | rfl | rfl | rfl | rfl <;> first | rfl | exact (wt.one_slice (by obtain ⟨A_, c_, e_, _⟩ := wt.VRow.C 8 VRd.out; exact ⟨_, _, _, e_⟩)).2 | exact (wt.one_slice (by obtain ⟨A_, c_, e_, _⟩ := KRd.out.C; exact ⟨_, _, _, e_⟩)).2)
  intro w6 cv' q1 q2 q3 q4 q5
  have V6 := Aside0.mk q1
  have SZ6 := Aside0.mk q2
  have GR6 := Aside0.mk q3
  have N6 := Aside0.mk ((q5.block _ (blk_lt N5.out) (fun e_ => by have := Option.some.inj e_; omega)).trans N5.out)
  have E6 := Aside0.mk ((q5.block _ (blk_lt E5.out) (fun e_ => by have := Option.some.inj e_; omega)).trans E5.out)
  have G6 := Aside0.mk ((q5.block _ (blk_lt G5.out) (fun e_ => by have := Option.some.inj e_; have := HG.out; omega)).trans G5.out)
  have HB6 := Aside0.mk (show Below w.heap.size w w6 from ⟨q5.os.trans HB5.out.os, q5.tape.trans HB5.out.tape, q5.output.trans HB5.out.output, Nat.le_trans HB5.out.size q5.size, fun k hk => (q5.block k (Nat.lt_of_lt_of_le hk HB5.out.size) (fun e_ => by have := Option.some.inj e_; omega)).trans (HB5.out.block k hk)⟩)
  have VR6 := Aside0.mk (wt.VRow.move (w := w5) (w1 := w6) (fun _ h => h) (fun k hk hlt => q5.block k hlt (fun e_ => by have := Option.some.inj e_; have := (HYD.out k hk).1; have := HYW.out; omega)) 8 VR5.out)
  have KR6 := Aside0.mk (KR5.out.move (w1 := w6) (fun _ h => h) (fun k hk hlt => q5.block k hlt (fun e_ => by have := Option.some.inj e_; have := (HYD.out k hk).1; have := HYW.out; omega)))
  have HS6 := Aside0.mk (Nat.le_trans HS5.out q5.size)
  clear q1 q2 q3 q4 q5
  have hcn := (blk_cell N6.out 0).trans rfl
  have fvn := blk_frozen N6.out 0
  refine hK.out _ _ ((blk_cell G6.out 1).trans rfl) (fun hHeld => ?_)
  clear hK K
  refine one_ (i := 7) (N := none) #[true, true, true, true, true, true, true, true, false] rfl rfl (by kernel_rfl) (by decide) (fun K hK => ?_)
  refine skip_ (w1 := ?_) (by rfl) rfl ?_ ?_
  rotate_left
  · go_simp
    rfl
  clear hcn fvn
  have N7 := Aside0.mk (blk_put N6.out 0 (.int .i64 a2) rfl)
  have V7 := Aside0.mk ((Below.heap_setCell _ ⟨w.heap.size + 1, 0, none⟩ (.int .i64 a2) w.heap.size (show w.heap.size ≠ w.heap.size + 1 by omega)).trans V6.out)
  have E7 := Aside0.mk ((Below.heap_setCell _ ⟨w.heap.size + 1, 0, none⟩ (.int .i64 a2) (w.heap.size + 1 + 1) (show w.heap.size + 1 + 1 ≠ w.heap.size + 1 by omega)).trans E6.out)
  have G7 := Aside0.mk ((Below.heap_setCell _ ⟨w.heap.size + 1, 0, none⟩ (.int .i64 a2) g (show g ≠ w.heap.size + 1 by have := HG.out; omega)).trans G6.out)
  have HB7 := Aside0.mk (HB6.out.setCell (show w.heap.size ≤ (⟨w.heap.size + 1, 0, none⟩ : Addr).block from Nat.le_succ _) (.int .i64 a2))
  have VR7 := Aside0.mk (wt.VRow.move (w := w6) (w1 := w6.setCell ⟨w.heap.size + 1, 0, none⟩ (.int .i64 a2)) (fun _ h => h) (fun k hk hlt => Below.heap_setCell _ ⟨w.heap.size + 1, 0, none⟩ (.int .i64 a2) k (show k ≠ w.heap.size + 1 by have := (HYD.out k hk).1; have := HYW.out; omega)) 8 VR6.out)
  have KR7 := Aside0.mk (KR6.out.move (w1 := w6.setCell ⟨w.heap.size + 1, 0, none⟩ (.int .i64 a2)) (fun _ h => h) (fun k hk hlt => Below.heap_setCell _ ⟨w.heap.size + 1, 0, none⟩ (.int .i64 a2) k (show k ≠ w.heap.size + 1 by have := (HYD.out k hk).1; have := HYW.out; omega)))
  have HS7 := Aside0.mk (show w3.heap.size ≤ (w6.setCell ⟨w.heap.size + 1, 0, none⟩ (.int .i64 a2)).heap.size by rw [Deep.nblk_setCell]; exact HS6.out)
  generalize w6.setCell ⟨w.heap.size + 1, 0, none⟩ (.int .i64 a2) = w7 at *
  have hce := (blk_cell E7.out 0).trans rfl
  have fve := blk_frozen E7.out 0
  refine hK.out _ _ ((blk_cell G7.out 1).trans rfl) (fun hHeld => ?_)
  clear hK K
  refine one_ (i := 8) (N := none) #[true, true, true, true, true, true, true, true, true] rfl rfl (by kernel_rfl) (by decide) (fun K hK => ?_)
  refine skip_ (w1 := ?_) (by rfl) rfl ?_ ?_
  rotate_left
  · go_simp
    rfl
  clear hce fve
  have E8 := Aside0.mk (blk_put E7.out 0 (.int .i64 0) rfl)
  have V8 := Aside0.mk ((Below.heap_setCell _ ⟨w.heap.size + 1 + 1, 0, none⟩ (.int .i64 0) w.heap.size (show w.heap.size ≠ w.heap.size + 1 + 1 by omega)).trans V7.out)
  have N8 := Aside0.mk ((Below.heap_setCell _ ⟨w.heap.size + 1 + 1, 0, none⟩ (.int .i64 0) (w.heap.size + 1) (show w.heap.size + 1 ≠ w.heap.size + 1 + 1 by omega)).trans N7.out)
  have G8 := Aside0.mk ((Below.heap_setCell _ ⟨w.heap.size + 1 + 1, 0, none⟩ (.int .i64 0) g (show g ≠ w.heap.size + 1 + 1 by have := HG.out; omega)).trans G7.out)
  have HB8 := Aside0.mk (HB7.out.setCell (show w.heap.size ≤ (⟨w.heap.size + 1 + 1, 0, none⟩ : Addr).block by show w.heap.size ≤ w.heap.size + 1 + 1; omega) (.int .i64 0))
  have VR8 := Aside0.mk (wt.VRow.move (w := w7) (w1 := w7.setCell ⟨w.heap.size + 1 + 1, 0, none⟩ (.int .i64 0)) (fun _ h => h) (fun k hk hlt => Below.heap_setCell _ ⟨w.heap.size + 1 + 1, 0, none⟩ (.int .i64 0) k (show k ≠ w.heap.size + 1 + 1 by have := (HYD.out k hk).1; have := HYW.out; omega)) 8 VR7.out)
  have KR8 := Aside0.mk (KR7.out.move (w1 := w7.setCell ⟨w.heap.size + 1 + 1, 0, none⟩ (.int .i64 0)) (fun _ h => h) (fun k hk hlt => Below.heap_setCell _ ⟨w.heap.size + 1 + 1, 0, none⟩ (.int .i64 0) k (show k ≠ w.heap.size + 1 + 1 by have := (HYD.out k hk).1; have := HYW.out; omega)))
  have LT8 := Aside0.mk (show w3.heap.size ≤ (w7.setCell ⟨w.heap.size + 1 + 1, 0, none⟩ (.int .i64 0)).heap.size by rw [Deep.nblk_setCell]; exact HS7.out)
  generalize w7.setCell ⟨w.heap.size + 1 + 1, 0, none⟩ (.int .i64 0) = w8 at *
  refine hK.out _ _ ((blk_cell G8.out 1).trans rfl) (fun hHeld => ?_)
  clear hK K
  refine done_ (by kernel_rfl) ?_
  go_wp2
  refine leaves_cons (f := 37) (args := #[.pointer (some ⟨w.heap.size, 0, none⟩), .pointer (some ⟨w.heap.size + 1, 0, none⟩), .pointer (some ⟨w.heap.size + 1 + 1, 0, none⟩)]) (by simp) (by simp [go_sem]) ?_
  refine (wt.catch_idle _ _ _ _).mono ?_
  rintro e u' w9 ⟨rfl, rfl, hb⟩
  have hcv := wt.grp_eq SZ6.out GR6.out
  have V9 := blk_below V8.out hb
  rw [hcv] at V9
  show Leaves Try.prog Try.f22 _ _ [] .returning _
  refine ⟨_, wt.res22 rfl rfl rfl V9 (blk_below N8.out hb) (blk_below E8.out hb), _, _, rfl, ?_, ?_, below_then HB8.out HB8.out.size hb⟩
  · exact wt.VRow.move (fun k hk => ⟨by have := HYD.out k hk; have := HB2.out.size; omega, by have := HYD.out k hk; have := LT8.out; have := hb.size; omega⟩) (fun k hk hlt => hb.block k hlt) 8 VR8.out
  · exact KR8.out.move (fun k hk => ⟨by have := HYD.out k hk; have := HB2.out.size; omega, by have := HYD.out k hk; have := LT8.out; have := hb.size; omega⟩) (fun k hk hlt => hb.block k hlt)
/-- wire.Take. -/
theorem wt.take1 {bs : List Int} {u i : Int → Int × Int × Int} (hU : wt.Uin bs u i) {w : World} {A : Option Addr} {c : Nat} (at_ : Int) (hC : (Kd.int .u8).C w A bs.length bs) (hc : bs.length ≤ c) : Calls Try.prog 22 #[.slice A bs.length c, .int .i64 at_] w (wt.GotT (wt.takeS bs u i at_) w) := by
  unfold wt.takeS
  by_cases h : at_ < 0 ∨ at_ > (bs.length : Int)
  · rw [if_pos h]; exact wt.takeA h
  · rw [if_neg h]
    have h0 : 0 ≤ at_ := by
      have : ¬ at_ < 0 := fun e => h (Or.inl e)
      omega
    have h1 : at_ ≤ (bs.length : Int) := by
      have : ¬ at_ > (bs.length : Int) := fun e => h (Or.inr e)
      omega
    rcases hr : wt.valS bs u i 8 at_ 2048 with ⟨x, a2, l2⟩ | ⟨ee, pp⟩
    · exact wt.takeB hU hC hc h0 h1 hr
    · exact wt.takeC hU hC hc h0 h1 hr
end
end Go.Proofs.Ytnkbobblnhaclaa.X

/- Xxwwipe0: walks by hand, for the claim. -/
namespace Go.Proofs.Ytnkbobblnhaclaa.X
open Go.RowKit Go.Proofs.YtnkbobblnhaclaaW.PrintWords Go.Proofs.YtnkbobblnhaclaaW.PrintLast Go.Proofs.YtnkbobblnhaclaaW.PrintMore Go.Proofs.YtnkbobblnhaclaaW
section
set_option maxHeartbeats 4000000
set_option maxRecDepth 100000
/-- Lists so long at most, so many deep. -/
def wt.szL (B : Nat) : Nat → List S25 → Prop
  | 0, _ => False
  | d + 1, xs => xs.length ≤ B ∧ ∀ x ∈ xs, wt.szL B d x.f3 ∧ x.f4.length ≤ B
theorem wt.szL.deep {B : Nat} : ∀ (d : Nat) {xs : List S25}, wt.szL B d xs → wt.deepL d xs
  | 0, xs, h => h
  | d + 1, xs, h => fun x hx => wt.szL.deep d (h.2 x hx).1
/-- Cells that are as they were, or wiped. -/
def wt.Gm (t : Nat) (mark : ByteArray) (cs cs' : Array Value) : Prop := (t = 25 → ∀ i : Nat, (∀ j, j < 5 → cs'[i * 5 + j]? = cs[i * 5 + j]?) ∨ wt.grp cs' (i * 5) (.int .i64 3) (.int .i64 0) (.string mark) (.slice none 0 0) (.slice none 0 0)) ∧ (t = 9 → ∀ i : Nat, cs'[i]? = cs[i]? ∨ cs'[i]? = some (.string mark))
theorem wt.Gm.refl (t : Nat) (mark : ByteArray) (cs : Array Value) : wt.Gm t mark cs cs := ⟨fun _ i => Or.inl fun _ _ => rfl, fun _ i => Or.inl rfl⟩
theorem wt.Gm.trans {t : Nat} {mark : ByteArray} {c1 c2 c3 : Array Value} (h : wt.Gm t mark c1 c2) (k : wt.Gm t mark c2 c3) : wt.Gm t mark c1 c3 := by
  refine ⟨fun ht i => ?_, fun ht i => ?_⟩
  · rcases k.1 ht i with e | e
    · rcases h.1 ht i with f | ⟨f0, f1, f2, f3, f4⟩
      · exact Or.inl fun j hj => (e j hj).trans (f j hj)
      · exact Or.inr ⟨(e 0 (by omega)).trans f0, (e 1 (by omega)).trans f1, (e 2 (by omega)).trans f2, (e 3 (by omega)).trans f3, (e 4 (by omega)).trans f4⟩
    · exact Or.inr e
  · rcases k.2 ht i with e | e
    · rcases h.2 ht i with f | f
      · exact Or.inl (e.trans f)
      · exact Or.inr (e.trans f)
    · exact Or.inr e
/-- What wiping does: blocks of Y are wiped in parts, no other block that was there is written. -/
structure wt.SimW (Y : Nat → Prop) (mark : ByteArray) (w w1 : World) : Prop where
  os : w1.os = w.os
  tape : w1.tape = w.tape
  output : w1.output = w.output
  size : w.heap.size ≤ w1.heap.size
  out : ∀ k, k < w.heap.size → ¬ Y k → w1.heap[k]? = w.heap[k]?
  ins : ∀ k, Y k → ∀ (cs : Array Value) (t : Nat), w.heap[k]? = some (.cells cs t (0, 0)) → ∃ cs' : Array Value, w1.heap[k]? = some (.cells cs' t (0, 0)) ∧ cs'.size = cs.size ∧ wt.Gm t mark cs cs'
section
variable {Y : Nat → Prop} {mark : ByteArray} {w w1 w2 : World}
theorem wt.SimW.of_below (h : Below w.heap.size w w1) : wt.SimW Y mark w w1 := ⟨h.os, h.tape, h.output, h.size, fun k hk _ => h.block k hk, fun k _ cs t hc => ⟨cs, blk_below hc h, rfl, wt.Gm.refl _ _ _⟩⟩
theorem wt.SimW.refl (Y : Nat → Prop) (mark : ByteArray) (w : World) : wt.SimW Y mark w w := wt.SimW.of_below (Below.refl _ _)
theorem wt.SimW.trans (h : wt.SimW Y mark w w1) (k : wt.SimW Y mark w1 w2) : wt.SimW Y mark w w2 := by
  refine ⟨k.os.trans h.os, k.tape.trans h.tape, k.output.trans h.output, Nat.le_trans h.size k.size, fun i hi hy => (k.out i (Nat.lt_of_lt_of_le hi h.size) hy).trans (h.out i hi hy), fun i hy cs t hc => ?_⟩
  obtain ⟨c1, e1, e2, e3⟩ := h.ins i hy cs t hc
  obtain ⟨c2, f1, f2, f3⟩ := k.ins i hy c1 t e1
  exact ⟨c2, f1, f2.trans e2, e3.trans f3⟩
theorem wt.SimW.blocks (h : wt.SimW Y mark w w1) (hs : w1.heap.size ≤ w2.heap.size) (ho : w2.os = w1.os) (ht : w2.tape = w1.tape) (hp : w2.output = w1.output) (hb : ∀ i, i < w.heap.size → w2.heap[i]? = w1.heap[i]?) : wt.SimW Y mark w w2 :=
  ⟨ho.trans h.os, ht.trans h.tape, hp.trans h.output, Nat.le_trans h.size hs, fun i hi hy => (hb i hi).trans (h.out i hi hy), fun i hy cs t hc => by
    obtain ⟨c1, e1, e2, e3⟩ := h.ins i hy cs t hc
    exact ⟨c1, (hb i (blk_lt hc)).trans e1, e2, e3⟩⟩
theorem wt.SimW.grown (h : wt.SimW Y mark w w1) {row : Option Nat} (hg : w1.grownBy w2 row) (hr : ∀ k, row = some k → w.heap.size ≤ k) : wt.SimW Y mark w w2 :=
  h.blocks hg.size hg.os hg.tape hg.output (fun i hi => hg.block i (Nat.lt_of_lt_of_le hi h.size) (fun e => by have := hr i e.symm; omega))
/-- A group is wiped. -/
theorem wt.SimW.storeG (h : wt.SimW Y mark w w1) {b j : Nat} {cs1 cs' : Array Value} (hy : Y b) (hbl : b < w.heap.size) (hb : w1.heap[b]? = some (.cells cs1 25 (0, 0))) (hgr : w1.grownBy w2 (some b))
    (h1 : w2.heap[b]? = some (.cells cs' 25 (0, 0))) (hsz : cs'.size = cs1.size) (hn : wt.grp cs' (j * 5) (.int .i64 3) (.int .i64 0) (.string mark) (.slice none 0 0) (.slice none 0 0)) (hrest : ∀ q, q < j * 5 ∨ j * 5 + 5 ≤ q → cs'[q]? = cs1[q]?) : wt.SimW Y mark w w2 := by
  have hne : ∀ i, i < w.heap.size → i ≠ b → w2.heap[i]? = w1.heap[i]? := fun i hi hib => hgr.block i (Nat.lt_of_lt_of_le hi h.size) (fun e => hib (Option.some.inj e))
  refine ⟨hgr.os.trans h.os, hgr.tape.trans h.tape, hgr.output.trans h.output, Nat.le_trans h.size hgr.size, fun i hi hi2 => (hne i hi (fun e => hi2 (e ▸ hy))).trans (h.out i hi hi2), fun i hi cs t hc => ?_⟩
  obtain ⟨c1, e1, e2, e3⟩ := h.ins i hi cs t hc
  by_cases hib : i = b
  · subst hib
    rw [hb] at e1
    injection e1 with e1
    injection e1 with e1 et
    subst e1; subst et
    refine ⟨cs', h1, hsz.trans e2, e3.trans ⟨fun _ q => ?_, fun h9 => absurd h9 (by decide)⟩⟩
    by_cases hq : q = j
    · subst hq; exact Or.inr hn
    · exact Or.inl fun r hr => hrest _ (by omega)
  · exact ⟨c1, (hne i (blk_lt hc) hib).trans e1, e2, e3⟩
/-- A text is wiped. -/
theorem wt.SimW.setK (h : wt.SimW Y mark w w1) {b j : Nat} {cs1 : Array Value} (hy : Y b) (hbl : b < w.heap.size) (hb : w1.heap[b]? = some (.cells cs1 9 (0, 0))) (hj : j < cs1.size) : wt.SimW Y mark w (w1.setCell ⟨b, j, none⟩ (.string mark)) := by
  have hne : ∀ i, i ≠ b → (w1.setCell ⟨b, j, none⟩ (.string mark)).heap[i]? = w1.heap[i]? := fun i hib => Below.heap_setCell w1 ⟨b, j, none⟩ (.string mark) i hib
  refine ⟨h.os, h.tape, h.output, by rw [Deep.nblk_setCell]; exact h.size, fun i hi hi2 => (hne i (fun e => hi2 (e ▸ hy))).trans (h.out i hi hi2), fun i hi cs t hc => ?_⟩
  obtain ⟨c1, e1, e2, e3⟩ := h.ins i hi cs t hc
  by_cases hib : i = b
  · subst hib
    rw [hb] at e1
    injection e1 with e1
    injection e1 with e1 et
    subst e1; subst et
    refine ⟨_, blk_put hb j (.string mark) rfl, by simpa using e2, e3.trans ⟨fun h25 => absurd h25 (by decide), fun _ q => ?_⟩⟩
    by_cases hq : q = j
    · subst hq; exact Or.inr (by simp [hj])
    · exact Or.inl (by simp [Array.getElem?_setIfInBounds, show ¬ j = q from fun e => hq e.symm])
  · exact ⟨c1, (hne i hib).trans e1, e2, e3⟩
theorem wt.KRow.simW (hS : wt.SimW Y mark w w1) {v : Value} {ks : List ByteArray} (h : wt.KRow w Y v ks) : ∃ ks', ks'.length = ks.length ∧ wt.KRow w1 Y v ks' := by
  rcases h with ⟨rfl, rfl⟩ | ⟨b, c, cs, rfl, hy, hh, hl, hsz, hmx, hc⟩
  · exact ⟨[], rfl, Or.inl ⟨rfl, rfl⟩⟩
  · obtain ⟨c1, e1, e2, e3⟩ := hS.ins b hy cs 9 hh
    have key : ∀ i : Fin ks.length, ∃ k', c1[i.val]? = some (.string k') := fun i => by
      rcases e3.2 rfl i.val with e | e
      · exact ⟨ks[i.val], by rw [e]; exact hc i.val _ (List.getElem?_eq_getElem i.isLt)⟩
      · exact ⟨_, e⟩
    refine ⟨List.ofFn fun i => Classical.choose (key i), by simp, Or.inr ⟨b, c, c1, by simp, hy, e1, by simpa using hl, by omega, hmx, fun i k hk => ?_⟩⟩
    have hi : i < ks.length := by
      have := (List.getElem?_eq_some_iff.1 hk).1
      simpa using this
    have := Classical.choose_spec (key ⟨i, hi⟩)
    rw [List.getElem?_ofFn] at hk
    simp only [hi, dite_true] at hk
    rw [← Option.some.inj hk]
    exact this
theorem wt.VRow.simW {B : Nat} (hS : wt.SimW Y mark w w1) : ∀ (d : Nat) {v : Value} {xs : List S25}, wt.VRow w Y d v xs → wt.szL B d xs → ∃ xs', xs'.length = xs.length ∧ wt.VRow w1 Y d v xs' ∧ wt.szL B d xs'
  | 0, v, xs, h, _ => h.elim
  | d + 1, v, xs, h, hb => by
    rcases h with ⟨rfl, rfl⟩ | ⟨b, c, cs, rfl, hy, hh, hl, hsz, hmx, hc⟩
    · exact ⟨[], rfl, Or.inl ⟨rfl, rfl⟩, Nat.zero_le _, fun x hx => by cases hx⟩
    · obtain ⟨c1, e1, e2, e3⟩ := hS.ins b hy cs 25 hh
      have key : ∀ i : Fin xs.length, ∃ x' : S25, (∃ u3 u4, wt.grp c1 (i.val * 5) (.int .i64 x'.f0) (.int .i64 x'.f1) (.string x'.f2) u3 u4 ∧ wt.VRow w1 Y d u3 x'.f3 ∧ wt.KRow w1 Y u4 x'.f4) ∧ wt.szL B d x'.f3 ∧ x'.f4.length ≤ B := fun i => by
        have hx := List.getElem?_eq_getElem i.isLt
        obtain ⟨u3, u4, hg, r3, r4⟩ := hc i.val _ hx
        have hB := hb.2 _ (List.getElem_mem i.isLt)
        rcases e3.1 rfl i.val with e | e
        · obtain ⟨l3, q1, q2, q3⟩ := wt.VRow.simW hS d r3 hB.1
          obtain ⟨l4, p1, p2⟩ := wt.KRow.simW hS r4
          refine ⟨⟨xs[i.val].f0, xs[i.val].f1, xs[i.val].f2, l3, l4⟩, ⟨u3, u4, ⟨(e 0 (by omega)).trans hg.1, (e 1 (by omega)).trans hg.2.1, (e 2 (by omega)).trans hg.2.2.1, (e 3 (by omega)).trans hg.2.2.2.1, (e 4 (by omega)).trans hg.2.2.2.2⟩, q2, p2⟩, q3, by rw [p1]; exact hB.2⟩
        · cases d with
          | zero => exact r3.elim
          | succ d => exact ⟨⟨3, 0, mark, [], []⟩, ⟨_, _, e, wt.VRow.nil _ _ _, Or.inl ⟨rfl, rfl⟩⟩, ⟨Nat.zero_le _, fun x hx => by cases hx⟩, Nat.zero_le _⟩
      refine ⟨List.ofFn fun i => Classical.choose (key i), by simp, Or.inr ⟨b, c, c1, by simp, hy, e1, by simpa using hl, by omega, hmx, fun i x hx => ?_⟩, by simpa using hb.1, fun x hx => ?_⟩
      · have hi : i < xs.length := by
          have := (List.getElem?_eq_some_iff.1 hx).1
          simpa using this
        have := (Classical.choose_spec (key ⟨i, hi⟩)).1
        rw [List.getElem?_ofFn] at hx
        simp only [hi, dite_true] at hx
        rw [← Option.some.inj hx]
        exact this
      · obtain ⟨i, rfl⟩ := List.mem_ofFn.1 hx
        exact (Classical.choose_spec (key i)).2
end
/-- A slice of so many elements, in a block of Z, whatever they are. -/
def wt.Row (w : World) (t size : Nat) (Z : Nat → Prop) (v : Value) (n : Nat) : Prop :=
  (v = .slice none 0 0 ∧ n = 0) ∨ ∃ b c cs, v = .slice (some ⟨b, 0, none⟩) n c ∧ Z b ∧ w.heap[b]? = some (.cells cs t (0, 0)) ∧ n ≤ c ∧ c * size ≤ cs.size
theorem wt.VRow.row {w : World} {Y Z : Nat → Prop} (hZ : ∀ k, Y k → Z k) : ∀ {d : Nat} {v : Value} {xs : List S25}, wt.VRow w Y d v xs → wt.Row w 25 5 Z v xs.length
  | 0, v, xs, h => h.elim
  | d + 1, v, xs, h => by
    rcases h with ⟨rfl, rfl⟩ | ⟨b, c, cs, rfl, hy, hh, hl, hsz, hmx, hc⟩
    · exact Or.inl ⟨rfl, rfl⟩
    · exact Or.inr ⟨b, c, cs, rfl, hZ b hy, hh, hl, hsz⟩
theorem wt.KRow.row {w : World} {Y Z : Nat → Prop} (hZ : ∀ k, Y k → Z k) {v : Value} {ks : List ByteArray} (h : wt.KRow w Y v ks) : wt.Row w 9 1 Z v ks.length := by
  rcases h with ⟨rfl, rfl⟩ | ⟨b, c, cs, rfl, hy, hh, hl, hsz, hmx, hc⟩
  · exact Or.inl ⟨rfl, rfl⟩
  · exact Or.inr ⟨b, c, cs, rfl, hZ b hy, hh, hl, by omega⟩
section
variable {P : Program} {ops : Array Oper} {rest : List Oper} {Q : Exit → Act → World → Prop}
/-- A whole value is laid into five cells. -/
theorem wt.st25L {oi : Oper} {a : Act} {W : World} (t : TypeId) (hgd : oi.guard = none) (hN : oi.dst = none) (p : Tmp) (x : Operand) (ho : oi.op = .store t (.tmp p) x) (hinf : (P.info? t).map (·.size) = some 5) (b o : Nat) (haddr : a.eval (.tmp p) = .pointer (some ⟨b, o, none⟩)) (v0 v1 v2 v3 v4 : Value) (hx : a.eval x = .agg #[v0, v1, v2, v3, v4]) (h1 : ∀ q ∈ [v0, v1, v2, v3, v4], q.oneCell' = true) (cur : Array Value) (e : TypeId) (hsz : o + 5 ≤ cur.size) (hh : W.heap[b]? = some (.cells cur e (0, 0)))
    (h : ∀ W1 cur', W1.heap[b]? = some (.cells cur' e (0, 0)) → cur'.size = cur.size → wt.grp cur' o v0 v1 v2 v3 v4 → (∀ j, j < o ∨ o + 5 ≤ j → cur'[j]? = cur[j]?) → W.grownBy W1 (some b) → wpList P ops Q rest a W1) : wpList P ops Q (oi :: rest) a W := by
  refine wpList_step fun K hK => ?_
  have := wt.st25 (P := P) (ops := ops) (Q := Q) (K := K) t (by simp [Region.wanted, hgd]) hN p x ho hinf b o haddr v0 v1 v2 v3 v4 hx h1 cur e hsz hh (fun W1 cur' q1 q2 q3 q4 q5 => hK _ _ (h W1 cur' q1 q2 q3 q4 q5))
  rw [hN]
  exact this
/-- An append to a slice of whatever room: it stays where it is, its room behind written, or comes into a new block. -/
theorem wt.row_append {w0 W : World} {o : Oper} {a : Act} (hgd : o.guard = none) (s x : Operand) (t e : TypeId) (hop : o.op = Op.call { callee := Callee.builtin Builtin.append, args := #[s, x], argTypes := #[t, t] }) (size bytes : Nat) (z : Value) (ht : P.underlying t = some (.slice e)) (hinfo : (P.info? e).map (fun i => (i.zero, i.size, i.bytes)) = some (some z, size, bytes)) (hz : z.cells.size = size) (hs0 : 0 < size)
    {Z : Nat → Prop} {v : Value} {n : Nat} (hs : a.eval s = v) (news : List Value) (hx : a.eval x = .slice (some ⟨W.heap.size, 0, none⟩) 1 1) (hn : news.length = size) (h1 : ∀ u ∈ news, u.oneCell' = true) (hr : wt.Row W e size Z v n) (hb : (n + 1) * bytes ≤ 140737488355328) (hb1 : n + 1 ≤ 9223372036854775807)
    (hroom : ∀ b c cs, v = .slice (some ⟨b, 0, none⟩) n c → Z b → W.heap[b]? = some (.cells cs e (0, 0)) → n * size + size ≤ cs.size → n + 1 ≤ c → c * size ≤ cs.size → ∀ W1 cs', W1.heap[b]? = some (.cells cs' e (0, 0)) → cs'.size = cs.size → (∀ j, j < size → cs'[n * size + j]? = news[j]?) → (∀ j, j < n * size ∨ n * size + size ≤ j → cs'[j]? = cs[j]?) → (W.alloc (.cells news.toArray e)).grownBy W1 (some b) → wpList P ops Q rest (a.put o.dst (.slice (some ⟨b, 0, none⟩) (n + 1) c)) W1)
    (hgrow : ∀ b c cs W1, W1.heap[b]? = some (.cells cs e (0, 0)) → W.heap.size < b → n + 1 ≤ c → c * size ≤ cs.size → (W.alloc (.cells news.toArray e)).grownBy W1 none → wpList P ops Q rest (a.put o.dst (.slice (some ⟨b, 0, none⟩) (n + 1) c)) W1) :
    wpList P ops Q (o :: rest) a (W.alloc (.cells news.toArray e)) := by
  obtain ⟨i0, hi0, hi1, hi2, hi3⟩ := info_parts hinfo
  have hnew : ∀ j u, news[j]? = some u → (W.alloc (.cells news.toArray e)).cell? ((⟨W.heap.size, 0, none⟩ : Addr).add j) = some u := fun j u hj => by
    rw [Addr.add_lit, Nat.zero_add]
    exact wt.cell_of (t := e) (heap_alloc_new W (.cells news.toArray e)) (by simpa using hj)
  have cont : ∀ (olds : List Value) (v' : Value) (w' : World), w'.ownsRow (W.alloc (.cells news.toArray e)).heap.size e size v' (n + 1) (olds ++ news) → (W.alloc (.cells news.toArray e)).grownBy w' none → wpList P ops Q rest (a.put o.dst v') w' := fun olds v' w' ho hg => by
    rcases ho.2 with ⟨_, h0⟩ | ⟨b, cap, cur, rfl, hbb, hh, hle, hmx, hcs, _⟩
    · omega
    · exact hgrow b cap cur w' hh (by rw [Deep.nblk_alloc] at hbb; omega) hle (by omega) hg
  rcases hr with ⟨rfl, rfl⟩ | ⟨b, c, cs, rfl, hZ, hh, hle, hcs⟩
  · exact wpList_append_grows _ hgd s x t hop e i0 z size bytes ht hi0 hi1 hi2 hi3 hz hs0 none 0 0 [] hs (fun _ => ⟨rfl, rfl⟩) (by simp) (fun b hb => by cases hb) ⟨W.heap.size, 0, none⟩ 1 1 news hx (by omega) hnew h1 (by omega) (by simp [maxLen]) hb (fun v' w' ho hg => cont [] v' w' ho hg)
  · have hh2 := blk_alloc hh (.cells news.toArray e)
    have holds : ∀ j u, (cs.toList.take (n * size))[j]? = some u → (W.alloc (.cells news.toArray e)).cell? ⟨b, 0 + j, none⟩ = some u := fun j u hj => by
      rw [Nat.zero_add]
      exact wt.cell_of hh2 (wt.take_at rfl hj)
    have hnc : n * size ≤ cs.size := Nat.le_trans (Nat.mul_le_mul_right _ hle) hcs
    refine wpList_append_arg _ hgd s x t hop e i0 z size bytes ht hi0 hi1 hi2 hi3 hz hs0 b 0 n c (cs.toList.take (n * size)) hs (by rw [List.length_take, Array.length_toList]; omega) holds ⟨W.heap.size, 0, none⟩ 1 1 news hx (by omega) hnew h1 (fun hroom2 j hj => ?_) (by simp [maxLen]; omega) hb (fun hroom2 => ?_) (fun hg v' w' ho hgw => cont _ v' w' ho hgw)
    · have hlt : 0 + n * size + j < cs.size := by
        have := Nat.mul_le_mul_right size hroom2
        rw [Nat.add_mul] at this
        omega
      refine ⟨?_, blk_frozen hh2 _⟩
      rw [wt.cell_of hh2 (Array.getElem?_eq_getElem hlt)]
      rfl
    · have hfit : n * size + size ≤ cs.size := by
        have := Nat.mul_le_mul_right size hroom2
        rw [Nat.add_mul] at this
        omega
      obtain ⟨cur', c1, c2, c3⟩ := setCells_row news (0 + n * size) (W.alloc (.cells news.toArray e)) cs hh2 (by omega)
      obtain ⟨s1, s2, s3, s4⟩ := setCells_same b news (0 + n * size) (W.alloc (.cells news.toArray e))
      rw [Nat.zero_add] at c1 c3 s1 s2 s3 s4 ⊢
      have hlen : (cs.toList.take (n * size)).length = n * size := by rw [List.length_take, Array.length_toList]; omega
      have hat : ∀ j, cur'[j]? = (cs.toList.take (n * size) ++ news ++ cs.toList.drop (n * size + size))[j]? := fun j => by rw [← Array.getElem?_toList, c3, hn]
      refine hroom b c cs rfl hZ hh hfit hroom2 hcs _ cur' c1 c2 (fun j hj => ?_) (fun j hj => ?_) ⟨s1, s2, s3, by omega, fun k hk hne => setCells_far _ _ k (fun e => hne (by rw [e]))⟩
      · rw [hat, List.append_assoc, List.getElem?_append_right (by omega), hlen, Nat.add_sub_cancel_left, List.getElem?_append_left (by omega)]
      · rw [hat]
        rcases hj with hj | hj
        · rw [List.append_assoc, List.getElem?_append_left (by omega), List.getElem?_take, if_pos hj, Array.getElem?_toList]
        · rw [List.append_assoc, List.getElem?_append_right (by omega), hlen, List.getElem?_append_right (by omega), List.getElem?_drop]
          have e2 : n * size + size + (j - n * size - news.length) = j := by omega
          rw [e2, Array.getElem?_toList]
end
end
end Go.Proofs.Ytnkbobblnhaclaa.X

/- Xxwwipe1: walks by hand, for the claim. -/
namespace Go.Proofs.Ytnkbobblnhaclaa.X
open Go.RowKit Go.Proofs.YtnkbobblnhaclaaW.PrintWords Go.Proofs.YtnkbobblnhaclaaW.PrintLast Go.Proofs.YtnkbobblnhaclaaW.PrintMore Go.Proofs.YtnkbobblnhaclaaW
section
set_option maxHeartbeats 4000000
set_option maxRecDepth 100000
section
variable {Y : Nat → Prop} {mark : ByteArray} {w W W1 : World} {b n : Nat} {cs cs' : Array Value} {O : Obj}
theorem wt.SimW.app25 (hS : wt.SimW Y mark w W) (hZ : Y b ∨ w.heap.size ≤ b) (hYl : ∀ k, Y k → k < w.heap.size) (hb : W.heap[b]? = some (.cells cs 25 (0, 0))) (h1 : W1.heap[b]? = some (.cells cs' 25 (0, 0))) (hsz : cs'.size = cs.size) (hn : wt.grp cs' (n * 5) (.int .i64 3) (.int .i64 0) (.string mark) (.slice none 0 0) (.slice none 0 0)) (hrest : ∀ q, q < n * 5 ∨ n * 5 + 5 ≤ q → cs'[q]? = cs[q]?) (hg : (W.alloc O).grownBy W1 (some b)) : wt.SimW Y mark w W1 := by
  have hS2 : wt.SimW Y mark w (W.alloc O) := hS.trans (wt.SimW.of_below ((Below.refl _ _).alloc (Nat.le_refl _) _))
  rcases hZ with hy | hge
  · exact hS2.storeG hy (hYl b hy) (blk_alloc hb O) hg h1 hsz hn hrest
  · exact hS2.grown hg (fun k e => by rw [← Option.some.inj e]; exact hge)
theorem wt.SimW.app9 (hS : wt.SimW Y mark w W) (hZ : Y b ∨ w.heap.size ≤ b) (hYl : ∀ k, Y k → k < w.heap.size) (hb : W.heap[b]? = some (.cells cs 9 (0, 0))) (h1 : W1.heap[b]? = some (.cells cs' 9 (0, 0))) (hsz : cs'.size = cs.size) (hn : cs'[n]? = some (.string mark)) (hrest : ∀ q, q < n ∨ n + 1 ≤ q → cs'[q]? = cs[q]?) (hg : (W.alloc O).grownBy W1 (some b)) : wt.SimW Y mark w W1 := by
  have hS2 : wt.SimW Y mark w (W.alloc O) := hS.trans (wt.SimW.of_below ((Below.refl _ _).alloc (Nat.le_refl _) _))
  rcases hZ with hy | hge
  · have hne : ∀ i, i < w.heap.size → i ≠ b → W1.heap[i]? = (W.alloc O).heap[i]? := fun i hi hib => hg.block i (Nat.lt_of_lt_of_le hi hS2.size) (fun e => hib (Option.some.inj e))
    refine ⟨hg.os.trans hS2.os, hg.tape.trans hS2.tape, hg.output.trans hS2.output, Nat.le_trans hS2.size hg.size, fun i hi hi2 => (hne i hi (fun e => hi2 (e ▸ hy))).trans (hS2.out i hi hi2), fun i hi c0 t hc => ?_⟩
    obtain ⟨c1, e1, e2, e3⟩ := hS2.ins i hi c0 t hc
    by_cases hib : i = b
    · subst hib
      rw [blk_alloc hb O] at e1
      injection e1 with e1
      injection e1 with e1 et
      subst e1; subst et
      refine ⟨cs', h1, hsz.trans e2, e3.trans ⟨fun h25 => absurd h25 (by decide), fun _ q => ?_⟩⟩
      by_cases hq : q = n
      · subst hq; exact Or.inr hn
      · exact Or.inl (hrest q (by omega))
    · exact ⟨c1, (hne i (blk_lt hc) hib).trans e1, e2, e3⟩
  · exact hS2.grown hg (fun k e => by rw [← Option.some.inj e]; exact hge)
theorem wt.Row.keep {t t' size : Nat} {Z : Nat → Prop} {v : Value} (h : wt.Row W t size Z v n) (hg : (W.alloc O).grownBy W1 (some b)) (hb : W.heap[b]? = some (.cells cs t' (0, 0))) (ht : t ≠ t') : wt.Row W1 t size Z v n := by
  rcases h with ⟨rfl, rfl⟩ | ⟨b', c, cs', rfl, hZ, hh, hle, hcs⟩
  · exact Or.inl ⟨rfl, rfl⟩
  · refine Or.inr ⟨b', c, cs', rfl, hZ, (hg.block b' (by rw [Deep.nblk_alloc]; have := blk_lt hh; omega) (fun e => ?_)).trans (blk_alloc hh O), hle, hcs⟩
    have e2 := Option.some.inj e
    subst e2
    rw [hb] at hh
    injection hh with hh
    injection hh with _ hh
    exact ht hh.symm
theorem wt.Row.keepN {t size : Nat} {Z : Nat → Prop} {v : Value} (h : wt.Row W t size Z v n) (hg : (W.alloc O).grownBy W1 none) : wt.Row W1 t size Z v n := by
  rcases h with ⟨rfl, rfl⟩ | ⟨b', c, cs', rfl, hZ, hh, hle, hcs⟩
  · exact Or.inl ⟨rfl, rfl⟩
  · exact Or.inr ⟨b', c, cs', rfl, hZ, (hg.block b' (by rw [Deep.nblk_alloc]; have := blk_lt hh; omega) (by simp)).trans (blk_alloc hh O), hle, hcs⟩
end
section
variable {ops : Array Oper} {rest : List Oper} {Q : Exit → Act → World → Prop} {Y : Nat → Prop} {mark : ByteArray} {w W : World} {o : Oper} {a : Act} {v v2 : Value} {n m : Nat}
theorem wt.app25 (hgd : o.guard = none) (s x : Operand) (hop : o.op = Op.call { callee := Callee.builtin Builtin.append, args := #[s, x], argTypes := #[22, 22] }) (hs : a.eval s = v) (hx : a.eval x = .slice (some ⟨W.heap.size, 0, none⟩) 1 1) (hYl : ∀ k, Y k → k < w.heap.size) (hS : wt.SimW Y mark w W) (hr : wt.Row W 25 5 (fun k => Y k ∨ w.heap.size ≤ k) v n) (hk : wt.Row W 9 1 (fun k => Y k ∨ w.heap.size ≤ k) v2 m) (hb : n ≤ 2000000)
    (h : ∀ v1 W1, wt.SimW Y mark w W1 → wt.Row W1 25 5 (fun k => Y k ∨ w.heap.size ≤ k) v1 (n + 1) → wt.Row W1 9 1 (fun k => Y k ∨ w.heap.size ≤ k) v2 m → wpList Try.prog ops Q rest (a.put o.dst v1) W1) :
    wpList Try.prog ops Q (o :: rest) a (W.alloc (.cells [Value.int .i64 3, .int .i64 0, .string mark, .slice none 0 0, .slice none 0 0].toArray 25)) := by
  have hsz : w.heap.size ≤ W.heap.size := hS.size
  refine wt.row_append (w0 := w) hgd s x 22 25 hop 5 80 (.agg #[(.int .i64 0), (.int .i64 0), (.string ⟨#[]⟩), (.slice none 0 0), (.slice none 0 0)]) Try.underlying22 info25 rfl (by decide) hs _ hx rfl (fun u hu => by simp at hu; rcases hu with rfl | rfl | rfl | rfl <;> rfl) hr (by omega) (by omega) ?_ ?_
  · intro b c cs hv hZ hh hfit hc hcs W1 cs' q1 q2 q3 q4 q5
    exact h _ _ (hS.app25 (n := n) hZ hYl hh q1 q2 ⟨q3 0 (by omega), q3 1 (by omega), q3 2 (by omega), q3 3 (by omega), q3 4 (by omega)⟩ q4 q5) (Or.inr ⟨b, c, cs', rfl, hZ, q1, hc, by omega⟩) (hk.keep q5 hh (by decide))
  · intro b c cs W1 q1 q2 q3 q4 q5
    exact h _ _ ((hS.trans (wt.SimW.of_below ((Below.refl _ _).alloc (Nat.le_refl _) _))).grown q5 (fun k e => by cases e)) (Or.inr ⟨b, c, cs, rfl, Or.inr (by omega), q1, q3, q4⟩) (hk.keepN q5)
theorem wt.app9 (hgd : o.guard = none) (s x : Operand) (hop : o.op = Op.call { callee := Callee.builtin Builtin.append, args := #[s, x], argTypes := #[23, 23] }) (hs : a.eval s = v) (hx : a.eval x = .slice (some ⟨W.heap.size, 0, none⟩) 1 1) (hYl : ∀ k, Y k → k < w.heap.size) (hS : wt.SimW Y mark w W) (hr : wt.Row W 9 1 (fun k => Y k ∨ w.heap.size ≤ k) v n) (hk : wt.Row W 25 5 (fun k => Y k ∨ w.heap.size ≤ k) v2 m) (hb : n ≤ 2000000)
    (h : ∀ v1 W1, wt.SimW Y mark w W1 → wt.Row W1 9 1 (fun k => Y k ∨ w.heap.size ≤ k) v1 (n + 1) → wt.Row W1 25 5 (fun k => Y k ∨ w.heap.size ≤ k) v2 m → wpList Try.prog ops Q rest (a.put o.dst v1) W1) :
    wpList Try.prog ops Q (o :: rest) a (W.alloc (.cells [Value.string mark].toArray 9)) := by
  have hsz : w.heap.size ≤ W.heap.size := hS.size
  refine wt.row_append (w0 := w) hgd s x 23 9 hop 1 16 (.string ⟨#[]⟩) Try.underlying23 info9 rfl (by decide) hs _ hx rfl (fun u hu => by simp at hu; subst hu; rfl) hr (by omega) (by omega) ?_ ?_
  · intro b c cs hv hZ hh hfit hc hcs W1 cs' q1 q2 q3 q4 q5
    rw [Nat.mul_one] at q3 q4
    exact h _ _ (hS.app9 (n := n) hZ hYl hh q1 q2 (q3 0 (by omega)) q4 q5) (Or.inr ⟨b, c, cs', rfl, hZ, q1, hc, by omega⟩) (hk.keep q5 hh (by decide))
  · intro b c cs W1 q1 q2 q3 q4 q5
    exact h _ _ ((hS.trans (wt.SimW.of_below ((Below.refl _ _).alloc (Nat.le_refl _) _))).grown q5 (fun k e => by cases e)) (Or.inr ⟨b, c, cs, rfl, Or.inr (by omega), q1, q3, q4⟩) (hk.keepN q5)
end
theorem wt.KRow.elem {w : World} {Y : Nat → Prop} {n c : Nat} {A : Option Addr} {ks : List ByteArray} (h : wt.KRow w Y (.slice A n c) ks) {j : Nat} (hj : j < n) (hn : ks.length = n) : ∃ b cs k, A = some ⟨b, 0, none⟩ ∧ Y b ∧ w.heap[b]? = some (.cells cs 9 (0, 0)) ∧ cs[j]? = some (.string k) := by
  rcases h with ⟨_, rfl⟩ | ⟨b, c', cs, e, hy, hh, hl, hsz, hm, hc⟩
  · simp at hn; omega
  · injection e with e1 e2 e3
    exact ⟨b, cs, _, e1, hy, hh, hc j _ (List.getElem?_eq_getElem (by omega))⟩
/-- wipe: what it writes is a mark, and into blocks of the value alone. -/
theorem wt.wipe1 {Y : Nat → Prop} {mark : ByteArray} {B : Nat} (hBB : B ≤ 1000000) : ∀ (d : Nat) (x : S25) (v3 v4 : Value) (w : World), (∀ k, Y k → k < w.heap.size) → wt.VRow w Y d v3 x.f3 → wt.KRow w Y v4 x.f4 → wt.szL B d x.f3 → x.f4.length ≤ B →
    Calls Try.prog 36 #[.agg #[.int .i64 x.f0, .int .i64 x.f1, .string x.f2, v3, v4], .string mark] w fun e w' => e = .returned (.tuple #[]) ∧ wt.SimW Y mark w w' := by
  intro d
  induction d with
  | zero => intro x v3 v4 w hY h; exact h.elim
  | succ d ih =>
  rintro ⟨f0, f1, f2, f3, f4⟩ v3 v4 w hY hV hK hS hk
  obtain ⟨A4, c4, e4, l4, g4⟩ := hK.C
  obtain ⟨A3, c3, e3, l3, g3⟩ := wt.VRow.C (d + 1) hV
  subst e3; subst e4
  dsimp only at *
  have hu25 := Try.underlying25
  have HV := Aside0.mk hV
  have HK := Aside0.mk hK
  have HY := Aside0.mk hY
  have HSZ := Aside0.mk hS
  obtain ⟨n, hn⟩ : ∃ n, f3.length = n := ⟨_, rfl⟩
  obtain ⟨m, hm⟩ : ∃ m, f4.length = m := ⟨_, rfl⟩
  have HNB := Aside0.mk (show n ≤ 1000000 ∧ m ≤ 1000000 from ⟨by have := hS.1; omega, by omega⟩)
  have HN := Aside0.mk hn
  have HM4 := Aside0.mk hm
  rw [hn] at HV ⊢
  rw [hm] at HK ⊢
  clear hY hV hK g3 g4 l3 l4 hS hk hn hm
  go_enter Try.func36, Try.ntmps36
  go_wp2_with (first | ((with_reducible refine gate_dst (N := 2) rfl ?_); refine box_event ?hg (N := 2) ?hd (cs := #[.int .i64 f0, .int .i64 f1, .string f2, .slice A3 n c3, .slice A4 m c4]) (t := 25) ?hr ?_; (case hd => rfl); (case hg => rfl); (case hr => first | (go_simp; done) | (go_simp; rfl)); intro pb hpb w1 hbox hb1; have HB1 := Aside0.mk hbox; have HS1 := Aside0.mk (wt.SimW.of_below (Y := Y) (mark := mark) hb1); have HPB := Aside0.mk (Nat.le_of_eq hpb.symm); clear hbox hb1 hpb))
  have HNY := Aside0.mk (show ¬ Y pb from fun y => by have := HY.out pb y; have := HPB.out; omega)
  go_loopw [4] (fun v4 wr => ∃ j : Nat, v4 = .int .i64 (j : Int) ∧ Aside0 (j ≤ n) ∧ Aside0 (wt.SimW Y mark w wr) ∧ Aside0 (wr.heap[pb]? = some (.cells #[.int .i64 f0, .int .i64 f1, .string f2, .slice A3 n c3, .slice A4 m c4] 25 (0, 0)))) (fun v4 _ => n - (intOf v4).toNat)
  case atStart => exact ⟨0, rfl, ⟨Nat.zero_le _⟩, HS1, HB1⟩
  case round =>
    clear HS1 HB1
    obtain ⟨j, rfl, HJ0, HS, HB⟩ := hrel
    have hz3 : wr.cell? ⟨pb, 3, none⟩ = some (.slice A3 n c3) := (blk_cell HB.out 3).trans rfl
    by_cases hlt : j < n
    · have i1 : decide ((j : Int) < (n : Int)) = true := decide_eq_true (by omega)
      have i2 : decide (j < n) = true := decide_eq_true hlt
      have i3 : (j < n) = True := eq_true hlt
      have HWR := Aside0.mk (show wrap64 ((j : Int) + 1) = (j : Int) + 1 by have := HNB.out; unfold wrap64; omega)
      have HM := Aside0.mk (wt.meas j n hlt HWR.out)
      have HJ := Aside0.mk (show j + 1 ≤ n by omega)
      have t3 : (j : Int) < (n : Int) := by omega
      obtain ⟨xs, hxl, hxv, hxs⟩ := wt.VRow.simW (B := B) HS.out (d + 1) HV.out HSZ.out
      rw [HN.out] at hxl
      obtain ⟨b, cs, x, u3, u4, hA, hyb, hcs, hnc, hsz, hx, hgr, r3, r4⟩ := hxv.elem hlt hxl
      obtain ⟨ad, had⟩ : ∃ ad, ad = (⟨b, 0, none⟩ : Addr) := ⟨_, rfl⟩
      rw [← had] at hA
      subst hA
      have hsx := hxs.2 x (List.mem_of_getElem? hx)
      have IH := Aside0.mk (ih x u3 u4 wr (fun k hk => Nat.lt_of_lt_of_le (HY.out k hk) HS.out.size) r3 r4 hsx.1 hsx.2)
      obtain ⟨z0, z1, z2, z3, z4⟩ := wt.five.of hcs hgr had
      clear hxl hxv hxs had hyb hcs hnc hsz hx hgr r3 r4 hsx hlt
      go_wp2_with (first | (go_at_call 36; refine IH.out.mono ?_; rintro e_ w7 ⟨rfl, hs⟩; have HS7 := Aside0.mk (HS.out.trans hs); have HB7 := Aside0.mk ((hs.out pb (blk_lt HB.out) HNY.out).trans HB.out); clear hs))
      go_roundw
      case rel => exact ⟨j + 1, by rw [HWR.out]; rfl, HJ, HS7, HB7⟩
      case measure => exact HM.out
    · have i1 : decide ((j : Int) < (n : Int)) = false := decide_eq_false (by omega)
      have i2 : decide (j < n) = false := decide_eq_false hlt
      have i3 : (j < n) = False := eq_false hlt
      clear hlt
      go_wp2
      clear hz3
      go_loopw [5] (fun v5 wr => ∃ j : Nat, v5 = .int .i64 (j : Int) ∧ Aside0 (j ≤ n) ∧ Aside0 (wt.SimW Y mark w wr) ∧ Aside0 (wr.heap[pb]? = some (.cells #[.int .i64 f0, .int .i64 f1, .string f2, .slice A3 n c3, .slice A4 m c4] 25 (0, 0)))) (fun v5 _ => n - (intOf v5).toNat)
      case atStart => exact ⟨0, rfl, ⟨Nat.zero_le _⟩, HS, HB⟩
      case round =>
        clear HS HB HJ0 i1 i2 i3
        obtain ⟨j, rfl, HJ0, HS, HB⟩ := hrel
        have hz3 : wr.cell? ⟨pb, 3, none⟩ = some (.slice A3 n c3) := (blk_cell HB.out 3).trans rfl
        by_cases hlt : j < n
        · have i1 : decide ((j : Int) < (n : Int)) = true := decide_eq_true (by omega)
          have i2 : decide (j < n) = true := decide_eq_true hlt
          have i3 : (j < n) = True := eq_true hlt
          have HWR := Aside0.mk (show wrap64 ((j : Int) + 1) = (j : Int) + 1 by have := HNB.out; unfold wrap64; omega)
          have HM := Aside0.mk (wt.meas j n hlt HWR.out)
          have HJ := Aside0.mk (show j + 1 ≤ n by omega)
          have t3 : (j : Int) < (n : Int) := by omega
          obtain ⟨xs, hxl, hxv, hxs⟩ := wt.VRow.simW (B := B) HS.out (d + 1) HV.out HSZ.out
          rw [HN.out] at hxl
          obtain ⟨b, cs, x, u3, u4, hA, hyb, hcs, hnc, hsz, hx, hgr, r3, r4⟩ := hxv.elem hlt hxl
          obtain ⟨ad, had⟩ : ∃ ad, ad = (⟨b, 0, none⟩ : Addr) := ⟨_, rfl⟩
          rw [← had] at hA
          subst hA
          have HAD := Aside0.mk had
          have HYB := Aside0.mk (And.intro hyb (HY.out b hyb))
          have HCS := Aside0.mk hcs
          have HFT := Aside0.mk (show j * 5 + 5 ≤ cs.size by omega)
          obtain ⟨z0, z1, z2, z3, z4⟩ := wt.five.of hcs hgr had
          clear hxl hxv hxs had hyb hcs hnc hsz hx hgr r3 r4 hlt
          go_wp2_with (first | ((with_reducible refine gate_store (p := 36) rfl ?_); refine wt.st25L 25 rfl rfl 36 (.tmp 35) rfl (by kernel_rfl) b (j * 5) ?haddr (.int .i64 3) (.int .i64 0) (.string mark) (.slice none 0 0) (.slice none 0 0) rfl (fun q hq => by simp at hq; rcases hq with rfl | rfl | rfl | rfl <;> rfl) cs 25 HFT.out HCS.out ?_; (case haddr => show Value.pointer (some (ad.add (j * 5))) = _; rw [HAD.out, Addr.add_lit, Nat.zero_add]); intro w7 cs' q1 q2 q3 q4 q5; have HS7 := Aside0.mk (HS.out.storeG HYB.out.1 HYB.out.2 HCS.out q5 q1 q2 q3 q4); have HB7 := Aside0.mk ((q5.block pb (blk_lt HB.out) (fun e_ => HNY.out (Option.some.inj e_ ▸ HYB.out.1))).trans HB.out); clear q1 q2 q3 q4 q5))
          go_roundw
          case rel => exact ⟨j + 1, by rw [HWR.out]; rfl, HJ, HS7, HB7⟩
          case measure => exact HM.out
        · have i1 : decide ((j : Int) < (n : Int)) = false := decide_eq_false (by omega)
          have i2 : decide (j < n) = false := decide_eq_false hlt
          have i3 : (j < n) = False := eq_false hlt
          clear hlt
          go_wp2
          clear hz3
          go_loopw [6] (fun v6 wr => ∃ j : Nat, v6 = .int .i64 (j : Int) ∧ Aside0 (j ≤ m) ∧ Aside0 (wt.SimW Y mark w wr) ∧ Aside0 (wr.heap[pb]? = some (.cells #[.int .i64 f0, .int .i64 f1, .string f2, .slice A3 n c3, .slice A4 m c4] 25 (0, 0)))) (fun v6 _ => m - (intOf v6).toNat)
          case atStart => exact ⟨0, rfl, ⟨Nat.zero_le _⟩, HS, HB⟩
          case round =>
            clear HS HB HJ0 i1 i2 i3
            obtain ⟨j, rfl, HJ0, HS, HB⟩ := hrel
            have hz4 : wr.cell? ⟨pb, 4, none⟩ = some (.slice A4 m c4) := (blk_cell HB.out 4).trans rfl
            by_cases hlt : j < m
            · have i1 : decide ((j : Int) < (m : Int)) = true := decide_eq_true (by omega)
              have i2 : decide (j < m) = true := decide_eq_true hlt
              have i3 : (j < m) = True := eq_true hlt
              have HWR := Aside0.mk (show wrap64 ((j : Int) + 1) = (j : Int) + 1 by have := HNB.out; unfold wrap64; omega)
              have HM := Aside0.mk (wt.meas j m hlt HWR.out)
              have HJ := Aside0.mk (show j + 1 ≤ m by omega)
              have t3 : (j : Int) < (m : Int) := by omega
              obtain ⟨ks, hkl, hkv⟩ := wt.KRow.simW HS.out HK.out
              rw [HM4.out] at hkl
              obtain ⟨b, cs, kk, hA, hyb, hcs, hcj⟩ := hkv.elem hlt hkl
              obtain ⟨ad, had⟩ : ∃ ad, ad = (⟨b, 0, none⟩ : Addr) := ⟨_, rfl⟩
              rw [← had] at hA
              subst hA
              have hadj : ad.add j = ⟨b, j, none⟩ := by rw [had, Addr.add_lit, Nat.zero_add]
              have HAD := Aside0.mk hadj
              have HYB := Aside0.mk (And.intro hyb (HY.out b hyb))
              have HCS := Aside0.mk hcs
              have HCJ := Aside0.mk (Array.getElem?_eq_some_iff.1 hcj).1
              have z0 : wr.cell? (ad.add j) = some (.string kk) := by rw [hadj]; exact wt.cell_of hcs hcj
              have zf : wr.frozen? (ad.add j) = false := by rw [hadj]; exact blk_frozen hcs j
              clear hkl hkv had hyb hcs hcj hadj hlt
              go_wp2
              go_roundw
              case rel => exact ⟨j + 1, by rw [HWR.out]; rfl, HJ, ⟨by rw [HAD.out]; exact HS.out.setK HYB.out.1 HYB.out.2 HCS.out HCJ.out⟩, ⟨by rw [HAD.out]; exact (Below.heap_setCell wr ⟨b, j, none⟩ (.string mark) pb (show pb ≠ b from fun e_ => HNY.out (e_ ▸ HYB.out.1))).trans HB.out⟩⟩
              case measure => exact HM.out
            · have i1 : decide ((j : Int) < (m : Int)) = false := decide_eq_false (by omega)
              have i2 : decide (j < m) = false := decide_eq_false hlt
              have i3 : (j < m) = False := eq_false hlt
              clear hlt
              have hz3 : wr.cell? ⟨pb, 3, none⟩ = some (.slice A3 n c3) := (blk_cell HB.out 3).trans rfl
              go_wp2
              clear hz3 hz4
              obtain ⟨xs, hxl, hxv, hxs⟩ := wt.VRow.simW (B := B) HS.out (d + 1) HV.out HSZ.out
              obtain ⟨ks, hkl, hkv⟩ := wt.KRow.simW HS.out HK.out
              rw [HN.out] at hxl
              rw [HM4.out] at hkl
              have R7 := hxv.row (Z := fun k => Y k ∨ w.heap.size ≤ k) (fun k hk => Or.inl hk)
              have R8 := hkv.row (Z := fun k => Y k ∨ w.heap.size ≤ k) (fun k hk => Or.inl hk)
              rw [hxl] at R7
              rw [hkl] at R8
              have R7 := Aside0.mk R7
              have R8 := Aside0.mk R8
              clear hxl hxv hxs hkl hkv
              go_loopw [9, 7, 8] (fun v9 v7 v8 wr => ∃ j : Nat, v9 = .int .i64 (j : Int) ∧ Aside0 (j ≤ 9) ∧ Aside0 (wt.SimW Y mark w wr) ∧ Aside0 (wt.Row wr 25 5 (fun k => Y k ∨ w.heap.size ≤ k) v7 (n + j)) ∧ Aside0 (wt.Row wr 9 1 (fun k => Y k ∨ w.heap.size ≤ k) v8 (m + j))) (fun v9 _ _ _ => 9 - (intOf v9).toNat)
              case atStart => exact ⟨0, rfl, ⟨by omega⟩, HS, R7, R8⟩
              case round =>
                clear HS HB HJ0 i1 i2 i3 R7 R8
                obtain ⟨j, rfl, HJ0, HS, R7, R8⟩ := hrel
                by_cases hlt : j < 9
                · have i1 : decide ((j : Int) < 9) = true := decide_eq_true (by omega)
                  have HWR := Aside0.mk (show wrap64 ((j : Int) + 1) = (j : Int) + 1 by unfold wrap64; omega)
                  have HM := Aside0.mk (wt.meas j 9 hlt HWR.out)
                  have HJ := Aside0.mk (show j + 1 ≤ 9 by omega)
                  clear hlt
                  go_wp2_with (first | ((with_reducible refine gate_dst (N := 61) rfl ?_); refine wt.app25 (mark := mark) rfl (.tmp 57) (.tmp 60) rfl rfl rfl HY.out HS.out R7.out R8.out (by have := HNB.out; have := HJ.out; omega) ?_; intro u7 w7 q1 q2 q3; have HS7 := Aside0.mk q1; have R77 := Aside0.mk q2; have R87 := Aside0.mk q3; clear q1 q2 q3) | ((with_reducible refine gate_dst (N := 65) rfl ?_); refine wt.app9 (mark := mark) rfl (.tmp 62) (.tmp 64) rfl rfl rfl HY.out HS7.out R87.out R77.out (by have := HNB.out; have := HJ.out; omega) ?_; intro u8 w8 q1 q2 q3; have HS8 := Aside0.mk q1; have R88 := Aside0.mk q2; have R78 := Aside0.mk q3; clear q1 q2 q3))
                  go_roundw
                  case rel => exact ⟨j + 1, by rw [HWR.out]; rfl, HJ, HS8, R78, R88⟩
                  case measure => exact HM.out
                · have i1 : decide ((j : Int) < 9) = false := decide_eq_false (by omega)
                  clear hlt
                  go_wp2
                  go_end0
                  exact ⟨rfl, HS.out⟩
end
end Go.Proofs.Ytnkbobblnhaclaa.X

/- Xxwover: walks by hand, for the claim. -/
namespace Go.Proofs.Ytnkbobblnhaclaa.X
open Go.RowKit Go.Proofs.YtnkbobblnhaclaaW.PrintWords Go.Proofs.YtnkbobblnhaclaaW.PrintLast Go.Proofs.YtnkbobblnhaclaaW.PrintMore Go.Proofs.YtnkbobblnhaclaaW
section
set_option maxHeartbeats 4000000
set_option maxRecDepth 100000
/-- over: a value's own memory is written, or nothing. -/
theorem wt.over1 {Y : Nat → Prop} {mark : ByteArray} {B d : Nat} (hBB : B ≤ 1000000) (x : S25) (v3 v4 : Value) (w : World) (hY : ∀ k, Y k → k < w.heap.size) (hV : wt.VRow w Y d v3 x.f3) (hK : wt.KRow w Y v4 x.f4) (hS : wt.szL B d x.f3) (hk : x.f4.length ≤ B) {kf : Nat} {fb : Bool} (hf : scruplelaw04_few.f kf x.f0 x.f1 x.f2 x.f3 x.f4 = some fb) :
    Calls Try.prog 21 #[.agg #[.int .i64 x.f0, .int .i64 x.f1, .string x.f2, v3, v4], .string mark] w fun e w' => e = .returned (.tuple #[]) ∧ wt.SimW Y mark w w' := by
  obtain ⟨A4, c4, e4, l4, g4⟩ := hK.C
  obtain ⟨A3, c3, e3, l3, g3⟩ := wt.VRow.C d hV
  subst e3; subst e4
  have hu25 := Try.underlying25
  have HFEW := Aside0.mk (fun (W : World) (hb : Below w.heap.size w W) => scruplelaw04_few.calls kf x.f0 x.f1 x.f2 A3 c3 x.f3 A4 c4 x.f4 fb W (Kd.C_below g3 hb) l3 (Kd.C_below g4 hb) l4 hf)
  have HW := Aside0.mk (fun (W : World) (hb : Below w.heap.size w W) => wt.wipe1 (mark := mark) hBB d x (.slice A3 x.f3.length c3) (.slice A4 x.f4.length c4) W (fun k hk => Nat.lt_of_lt_of_le (hY k hk) hb.size) (wt.VRow.move (fun _ h => h) (fun k _ hlt => hb.block k hlt) d hV) (hK.move (fun _ h => h) (fun k _ hlt => hb.block k hlt)) hS hk)
  clear hY hV hK hS hk g3 g4 l3 l4 hf
  obtain ⟨x0, x1, x2, x3, x4⟩ := x
  dsimp only at *
  generalize x3.length = n at *
  generalize x4.length = m at *
  have BXW := fun (pb : Nat) (W W1 : World) (h : W.heap[pb]? = some (.cells #[.int .i64 x0, .int .i64 x1, .string x2, .slice A3 n c3, .slice A4 m c4] 25 (0, 0))) (hb : Below W.heap.size W W1) => blk_below h hb
  cases fb with
  | false =>
    go_enter Try.func21, Try.ntmps21
    go_wp2_with (first | ((with_reducible refine gate_dst (N := 2) rfl ?_); refine box_event ?hg (N := 2) ?hd (cs := #[.int .i64 x0, .int .i64 x1, .string x2, .slice A3 n c3, .slice A4 m c4]) (t := 25) ?hr ?_; (case hd => rfl); (case hg => rfl); (case hr => first | (go_simp; done) | (go_simp; rfl)); intro pb hpb w1 hbox hb1; have HB1 := Aside0.mk hbox; have HL1 := Aside0.mk hb1; clear hbox hb1 hpb; have z0 := (blk_cell HB1.out 0).trans rfl; have z1 := (blk_cell HB1.out 1).trans rfl; have z2 := (blk_cell HB1.out 2).trans rfl; have z3 := (blk_cell HB1.out 3).trans rfl; have z4 := (blk_cell HB1.out 4).trans rfl) | (go_at_call 27; refine (HFEW.out _ HL1.out).mono ?_; rintro e_ w2 ⟨rfl, hb⟩; have HL2 := Aside0.mk (below_then HL1.out HL1.out.size hb); clear hb z0 z1 z2 z3 z4))
    go_end0
    exact ⟨rfl, wt.SimW.of_below HL2.out⟩
  | true =>
    go_enter Try.func21, Try.ntmps21
    go_wp2_with (first | ((with_reducible refine gate_dst (N := 2) rfl ?_); refine box_event ?hg (N := 2) ?hd (cs := #[.int .i64 x0, .int .i64 x1, .string x2, .slice A3 n c3, .slice A4 m c4]) (t := 25) ?hr ?_; (case hd => rfl); (case hg => rfl); (case hr => first | (go_simp; done) | (go_simp; rfl)); intro pb hpb w1 hbox hb1; have HB1 := Aside0.mk hbox; have HL1 := Aside0.mk hb1; clear hbox hb1 hpb; have z0 := (blk_cell HB1.out 0).trans rfl; have z1 := (blk_cell HB1.out 1).trans rfl; have z2 := (blk_cell HB1.out 2).trans rfl; have z3 := (blk_cell HB1.out 3).trans rfl; have z4 := (blk_cell HB1.out 4).trans rfl) | (go_at_call 27; refine (HFEW.out _ HL1.out).mono ?_; rintro e_ w2 ⟨rfl, hb⟩; have HL2 := Aside0.mk (below_then HL1.out HL1.out.size hb); have HB2 := Aside0.mk (blk_below HB1.out hb); clear hb z0 z1 z2 z3 z4; have z0 := (blk_cell HB2.out 0).trans rfl; have z1 := (blk_cell HB2.out 1).trans rfl; have z2 := (blk_cell HB2.out 2).trans rfl; have z3 := (blk_cell HB2.out 3).trans rfl; have z4 := (blk_cell HB2.out 4).trans rfl) | (go_at_call 36; refine (HW.out _ HL2.out).mono ?_; rintro e_ w3 ⟨rfl, hs⟩; have HS3 := Aside0.mk hs; clear hs z0 z1 z2 z3 z4))
    go_end0
    exact ⟨rfl, (wt.SimW.of_below HL2.out).trans HS3.out⟩
end
end Go.Proofs.Ytnkbobblnhaclaa.X

/- Xxwlent: walks by hand, for the claim. -/
namespace Go.Proofs.Ytnkbobblnhaclaa.X
open Go.RowKit Go.Proofs.YtnkbobblnhaclaaW.PrintWords Go.Proofs.YtnkbobblnhaclaaW.PrintLast Go.Proofs.YtnkbobblnhaclaaW.PrintMore Go.Proofs.YtnkbobblnhaclaaW
section
set_option maxHeartbeats 4000000
set_option maxRecDepth 100000
/-- What is behind lent bytes. -/
def wt.pad (i : Nat) : Int := ((100 + i % 50 : Nat) : Int)
/-- Lent bytes. -/
structure wt.LentL (bs xs : List Int) : Prop where
  len : xs.length = bs.length + 40
  lo : ∀ q, q < bs.length → xs[q]? = bs[q]?
  hi : ∀ q, bs.length ≤ q → q < bs.length + 40 → xs[q]? = some (wt.pad q)
theorem wt.LentL.take {bs xs : List Int} (h : wt.LentL bs xs) : xs.take bs.length = bs := by
  apply List.ext_getElem?
  intro i
  rw [List.getElem?_take]
  split
  next hi => exact h.lo i hi
  next hi => exact (List.getElem?_eq_none (by omega)).symm
theorem wt.tmod50 (i : Nat) : Int.tmod (i : Int) 50 = ((i % 50 : Nat) : Int) := by
  rw [Int.tmod_eq_emod_of_nonneg (by omega)]
  rfl
theorem wt.pad_eq (i : Nat) : (wrap64 (100 + Int.tmod (i : Int) 50)) % 256 = wt.pad i := by
  rw [wt.tmod50]
  unfold wt.pad wrap64
  omega
/-- Lent bytes stand still. -/
theorem wt.still_ok {bs xs : List Int} (h : wt.LentL bs xs) (hL : bs.length ≤ 140737488351232) : ∃ K, scruplelaw04_still.f K xs bs = some true := by
  have key : ∀ rem i : Nat, i + rem = xs.length → scruplelaw04_still.l0 (rem + 1) xs bs (i : Int) = some true := by
    intro rem
    induction rem with
    | zero =>
      intro i hi
      unfold scruplelaw04_still.l0
      rw [if_neg (by omega)]
    | succ rem ih =>
      intro i hi
      have hlen := h.len
      have hw : wrap64 ((i : Int) + 1) = ((i + 1 : Nat) : Int) := by unfold wrap64; omega
      have ihn := ih (i + 1) (by omega)
      unfold scruplelaw04_still.l0
      rw [if_pos (by omega), hw]
      by_cases hb : i < bs.length
      · have e1 : rd xs (i : Int) = rd bs (i : Int) := by
          unfold rd
          rw [Int.toNat_natCast, List.getD_eq_getElem?_getD, List.getD_eq_getElem?_getD, h.lo i hb]
        rw [if_pos (by omega), if_pos (by omega), if_pos e1, if_neg (by omega)]
        exact ihn
      · have e1 : rd xs (i : Int) = wt.pad i := by
          unfold rd
          rw [Int.toNat_natCast, List.getD_eq_getElem?_getD, h.hi i (by omega) (by omega)]
          rfl
        rw [if_neg (by omega), if_pos (by omega), if_pos (by omega), if_pos (by rw [e1, wt.pad_eq])]
        exact ihn
  exact ⟨xs.length + 1, key xs.length 0 (by omega)⟩
/-- lent: bytes with spare room behind, and all of that. -/
theorem wt.lent1 {bs : List Int} {A : Option Addr} {c : Nat} (w : World) (hC : (Kd.int .u8).C w A bs.length bs) (hc : bs.length ≤ c) (hL : bs.length ≤ 140737488351232) :
    Calls Try.prog 14 #[.slice A bs.length c] w fun e w' => ∃ (b cap : Nat) (xs : List Int), e = .returned (.tuple #[.slice (some ⟨b, 0, none⟩) bs.length cap, .slice (some ⟨b, 0, none⟩) (bs.length + 40) cap]) ∧ Kd.R (Kd.int .u8) 5 w' w.heap.size (fun _ => True) (.slice (some ⟨b, 0, none⟩) (bs.length + 40) cap) xs ∧ wt.LentL bs xs ∧ bs.length + 40 ≤ cap ∧ Below w.heap.size w w' := by
  have HC := Aside0.mk hC
  have HLL := Aside0.mk hL
  obtain ⟨n, hn⟩ : ∃ n, bs.length = n := ⟨_, rfl⟩
  have HN := Aside0.mk hn
  rw [hn]
  have hs0 : wrap64 ((n : Int) + 40) = (n : Int) + 40 := by unfold wrap64; omega
  have HS0 := Aside0.mk hs0
  clear hs0
  obtain ⟨i0, hi0, _⟩ := info_parts info5
  have hct := fun (A : Option Addr) (c2 : Nat) (h : n + 40 ≤ c2) => cut_to (P := Try.prog) 26 5 .i64 Try.underlying26 hi0 A (n + 40) c2 (n : Int) (by omega) (by omega) h
  have HCT := Aside0.mk hct
  clear hC hc hL hi0 hct
  rw [hn] at HC HLL
  clear hn
  go_enter Try.func14, Try.ntmps14
  go_wp2_with (first | ((with_reducible refine gate_dst (N := 9) rfl ?_); refine XWords.R_make_c (Kd.int .u8) (w0 := w) w.heap.size 5 rfl (N := 9) rfl 26 _ _ rfl (wrap64 ((n : Int) + 40)) (wrap64 ((n : Int) + 40)) rfl rfl Try.underlying26 (.int .u8 0) 1 info5 rfl (by decide) (by omega) 0 (ok := fun _ => True) (okp := fun _ => True) rfl (fun _ hk => hk) trivial (by rw [HS0.out]; omega) (Int.le_refl _) (by rw [HS0.out]; have := HLL.out; omega) (Below.refl _ _) (Nat.le_refl _) ?_; intro v1 w1 ho hb hg_ hnew_; clear hg_ hnew_; rw [HS0.out, show ((n : Int) + 40).toNat = n + 40 by omega] at ho; have HO1 := Aside0.mk ho; have HB1 := Aside0.mk hb; clear ho hb) | ((with_reducible refine gate_builtin (b := .copy) (xs := #[.tmp 10, .tmp 11]) rfl ?_); skip; refine XWords.R_copy_row (enc := (Value.int .u8)) (h1 := fun _ => rfl) 0 (w0 := w) w.heap.size rfl (.tmp 10) (.tmp 11) 26 26 5 rfl Try.underlying26 (by kernel_rfl) v1 (List.replicate (n + 40) 0) bs A n c (fun _ => True) rfl rfl HO1.out (Kd.C_below HC.out HB1.out) HB1.out (fun _ _ => trivial) HB1.out.size (by omega) ?_; intro w2 ho hb hg hat; have HO2 := Aside0.mk ho; have HB2 := Aside0.mk hb; clear ho hb hg hat))
  obtain ⟨y, hy⟩ : ∃ y, bs.take (min bs.length (List.replicate (n + 40) (0 : Int)).length) ++ (List.replicate (n + 40) 0).drop (min bs.length (List.replicate (n + 40) (0 : Int)).length) = y := ⟨_, rfl⟩
  have hye : y.length = n + 40 ∧ (∀ q, q < n → y[q]? = bs[q]?) := by
    rw [List.length_replicate, HN.out, Nat.min_eq_left (by omega)] at hy
    subst hy
    have e1 : (bs.take n).length = n := by rw [List.length_take, HN.out, Nat.min_self]
    refine ⟨by rw [List.length_append, e1, List.length_drop, List.length_replicate]; omega, fun q hq => ?_⟩
    rw [List.getElem?_append_left (by omega), List.getElem?_take, if_pos hq]
  rw [hy] at HO2
  clear hy
  obtain ⟨b, cap, hv, _, _, _⟩ := Kd.R_form HO2.out (by omega)
  rw [hye.1] at hv
  subst hv
  have HCAP := Aside0.mk (show n + 40 ≤ cap from (Kd.R_reads' HO2.out).2.1)
  have HYE := Aside0.mk hye
  have hct := HCT.out (some ⟨b, 0, none⟩) cap HCAP.out
  rw [Int.toNat_natCast] at hct
  obtain ⟨ad, had⟩ : ∃ ad, ad = (⟨b, 0, none⟩ : Addr) := ⟨_, rfl⟩
  have HAD := Aside0.mk had
  rw [← had] at hct ⊢
  clear hye had
  go_wp2
  go_loopw [5] (fun v5 wr => ∃ (j : Nat) (xs : List Int), v5 = .int .i64 (j : Int) ∧ Aside0 (n ≤ j ∧ j ≤ n + 40) ∧ Aside0 (xs.length = n + 40 ∧ (∀ q, q < n → xs[q]? = bs[q]?) ∧ (∀ q, n ≤ q → q < j → xs[q]? = some (wt.pad q))) ∧ Aside0 (Kd.R (Kd.int .u8) 5 wr w.heap.size (fun _ => True) (.slice (some ⟨b, 0, none⟩) (n + 40) cap) xs) ∧ Aside0 (Below w.heap.size w wr)) (fun v5 _ => (n + 40) - (intOf v5).toNat)
  case atStart => exact ⟨n, y, rfl, ⟨by omega⟩, ⟨HYE.out.1, HYE.out.2, fun q h1 h2 => by omega⟩, HO2, HB2⟩
  case round =>
    clear HO2 HB2 HO1 HB1
    obtain ⟨j, xs, rfl, HJ0, HX, HO, HB⟩ := hrel
    by_cases hlt : j < n + 40
    · have i1 : decide ((j : Int) < ((n + 40 : Nat) : Int)) = true := decide_eq_true (by omega)
      have i1b : decide ((j : Int) < (n : Int) + 40) = true := decide_eq_true (by omega)
      have i2 : decide (j < n + 40) = true := decide_eq_true hlt
      have i3 : (j < n + 40) = True := eq_true hlt
      have t3 : (j : Int) < ((n + 40 : Nat) : Int) := by omega
      have t3b : (j : Int) < (n : Int) + 40 := by omega
      have HWR := Aside0.mk (show wrap64 ((j : Int) + 1) = (j : Int) + 1 by have := HLL.out; unfold wrap64; omega)
      have HM := Aside0.mk (wt.meas j (n + 40) hlt HWR.out)
      have HJ := Aside0.mk (show n ≤ j + 1 ∧ j + 1 ≤ n + 40 by have := HJ0.out; omega)
      have hp := wt.pad_eq j
      have hx := (Kd.R_reads' HO.out).2.2
      rw [HX.out.1] at hx
      obtain ⟨ad', ea, hz⟩ := Kd.at_int hx (j : Int) (by omega) (by omega)
      have ea2 := Option.some.inj ea
      rw [← ea2, Int.toNat_natCast, ← HAD.out] at hz
      have hadj : ad.add j = ⟨b, j, none⟩ := by rw [HAD.out, Addr.add_lit, Nat.zero_add]
      have hzf : wr.frozen? (ad.add j) = false := by
        obtain ⟨g, cap', e1, _, _, cells, hcl⟩ := Kd.R_form HO.out (by have := HX.out.1; omega)
        injection e1 with e1
        injection e1 with e1
        injection e1 with e1
        rw [hadj, e1]
        exact blk_frozen hcl j
      have HADJ := Aside0.mk hadj
      have HLT := Aside0.mk hlt
      clear hx ea ea2 hadj hlt
      go_wp2
      go_roundw
      case rel =>
        refine ⟨j + 1, xs.set j (wt.pad j), by rw [HWR.out]; rfl, HJ, ⟨by rw [List.length_set]; exact HX.out.1, fun q hq => ?_, fun q h1 h2 => ?_⟩, ⟨?_⟩, ⟨?_⟩⟩
        · rw [List.getElem?_set_ne (by have := HJ0.out; omega)]
          exact HX.out.2.1 q hq
        · by_cases hq : q = j
          · subst hq
            rw [List.getElem?_set_self (by rw [HX.out.1]; exact HLT.out)]
          · rw [List.getElem?_set_ne (fun e => hq e.symm)]
            exact HX.out.2.2 q h1 (by omega)
        · have := (Kd.R_putg HO.out (j : Int) (wt.pad j)).1
          rw [Int.toNat_natCast] at this
          rw [HADJ.out]
          exact this
        · rw [HADJ.out]
          exact HB.out.setCell (Kd.R_base HO.out b rfl) _
      case measure => exact HM.out
    · have i1 : decide ((j : Int) < ((n + 40 : Nat) : Int)) = false := decide_eq_false (by omega)
      have i1b : decide ((j : Int) < (n : Int) + 40) = false := decide_eq_false (by omega)
      have i2 : decide (j < n + 40) = false := decide_eq_false hlt
      have i3 : (j < n + 40) = False := eq_false hlt
      have hje : j = n + 40 := by have := HJ0.out; omega
      subst hje
      clear hlt
      go_wp2
      go_ret2
      refine ⟨b, cap, xs, by rw [HAD.out]; rfl, HO.out, ⟨by rw [HN.out]; exact HX.out.1, fun q hq => HX.out.2.1 q (by have := HN.out; omega), fun q h1 h2 => HX.out.2.2 q (by have := HN.out; omega) (by have := HN.out; omega)⟩, HCAP.out, HB.out⟩
end
end Go.Proofs.Ytnkbobblnhaclaa.X

