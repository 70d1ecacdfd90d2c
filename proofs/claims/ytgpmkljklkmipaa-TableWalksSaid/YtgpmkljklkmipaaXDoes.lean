/- XDoes: walks by hand, for the claim. -/
import Derived.Test.YtgpmkljklkmipaaXx0
import Derived.Test.YtgpmkljklkmipaaXWords
import Derived.RangeFuncMany
import Derived.Laws.Pointers
import Derived.Shelf.Abstract
import Derived.Lib.SliceRun
import Derived.OwnWalkIn
import Derived.TacticsInMore
import Derived.LoopNIn
import Derived.LoopIn
import Derived.Deep.DeepMust
import Derived.Deep.QuietTactic
import Derived.BigQuiet
import Derived.Test.YtgpmkljklkmipaaXIntTab
set_option linter.unusedVariables false
set_option linter.unusedSimpArgs false
namespace Go.Proofs.Ytgpmkljklkmipaa.X
open Go.RowKit Go.Proofs.YtgpmkljklkmipaaW.PrintWords Go.Proofs.YtgpmkljklkmipaaW.PrintLast Go.Proofs.YtgpmkljklkmipaaW.PrintMore Go.Proofs.YtgpmkljklkmipaaW
section
set_option maxHeartbeats 4000000
set_option maxRecDepth 100000
attribute [local go_sem high] it.eqn1
/-- A table's pointer, and the pairs that it must have. -/
def kp : Kd (Nat × List S50) := Kd.pair (Kd.scalar (fun g : Nat => Value.pointer (some ⟨g, 0, none⟩)) (fun _ => rfl)) (Kd.slice 50 k50)
theorem kp_openM {w : World} {base : Nat} {ok : Nat → Prop} {x : Nat × List S50} {cs : List Value} (h : kp.M w base ok x cs) : ∃ v1, cs = [.pointer (some ⟨x.1, 0, none⟩), v1] ∧ k50.R 50 w base ok v1 x.2 := by
  obtain ⟨_, _, rfl, rfl, v1, rfl, h⟩ := h
  exact ⟨v1, rfl, h⟩
theorem kp_mkM (w : World) (base : Nat) (ok : Nat → Prop) (x : Nat × List S50) {v1 : Value} (g1 : k50.R 50 w base ok v1 x.2) : kp.M w base ok x [.pointer (some ⟨x.1, 0, none⟩), v1] := ⟨[.pointer (some ⟨x.1, 0, none⟩)], [v1], rfl, rfl, ⟨v1, rfl, g1⟩⟩
def pr (p : Nat × List S80) : Nat × List S50 := (p.1, p.2.map it.r5)
/-- All tables of a script: their row; each table; keys rise; no table twice. -/
structure St (w : World) (base m : Nat) (v : Value) (ps : List (Nat × List S80)) : Prop where
  row : Kd.R kp 42 w base (fun _ => True) v (ps.map pr)
  tab : ∀ p ∈ ps, base ≤ p.1 ∧ it.Srt p.2 ∧ p.2.length ≤ m ∧ ∃ A c, it.Tab w base p.1 p.2 A c
  one : (ps.map (·.1)).Nodup
  lo : 0 < ps.length
  hi : ps.length ≤ 6
theorem St.below {w w1 : World} {base m : Nat} {v : Value} {ps : List (Nat × List S80)} (h : St w base m v ps) (hb : Below w.heap.size w w1) : St w1 base m v ps :=
  ⟨Kd.R_below h.row hb, fun p hp => by obtain ⟨h1, h2, h3, A, c, h4⟩ := h.tab p hp; exact ⟨h1, h2, h3, A, c, h4.below hb⟩, h.one, h.lo, h.hi⟩
/-- What it means to be at a place of them. -/
theorem St.at_ {w : World} {base m : Nat} {v : Value} {ps : List (Nat × List S80)} (h : St w base m v ps) (i : Nat) (hi : i < ps.length) : ∃ (b cap g : Nat) (l : List S80) (A : Option Addr) (c : Nat) (RA : Option Addr) (rc : Nat), v = .slice (some ⟨b, 0, none⟩) ps.length cap ∧ ps[i]? = some (g, l) ∧ base ≤ g ∧ it.Srt l ∧ l.length ≤ m ∧ it.Tab w base g l A c ∧
    (∃ cells, w.heap[b]? = some (.cells cells 42 (0, 0))) ∧ base ≤ b ∧ w.cell? ⟨b, i * 2, none⟩ = some (.pointer (some ⟨g, 0, none⟩)) ∧ w.cell? ⟨b, i * 2 + 1, none⟩ = some (.slice RA (l.map it.r5).length rc) ∧ k50.R 50 w base (fun k => True ∧ k ≠ b) (.slice RA (l.map it.r5).length rc) (l.map it.r5) := by
  have hrow := h.row
  obtain ⟨b, cap, rfl, h1, h2, h3⟩ := Kd.R_form hrow (by rw [List.length_map]; exact h.lo)
  have hi2 : i < (ps.map pr).length := by rw [List.length_map]; exact hi
  obtain ⟨c0, hc1, hc2, hc3, _⟩ := Kd.R_elem hrow (0, []) (i : Int) (by omega) (by omega)
  rw [Int.toNat_natCast] at hc2 hc3
  have e1 : (ps.map pr).getD i (0, []) = pr ps[i] := by rw [List.getD_eq_getElem?_getD, List.getElem?_map, List.getElem?_eq_getElem hi]; rfl
  rw [e1] at hc2
  obtain ⟨v1, rfl, hr⟩ := kp_openM hc2
  obtain ⟨RA, rc, rfl⟩ := Kd.R_slice hr
  obtain ⟨t1, t2, t3, A, c, t4⟩ := h.tab ps[i] (List.getElem_mem hi)
  exact ⟨b, cap, ps[i].1, ps[i].2, A, c, RA, rc, by rw [List.length_map], List.getElem?_eq_getElem hi, t1, t2, t3, t4, h3, h1, hc3 0 _ rfl, hc3 1 _ rfl, hr⟩
/-- Behind a change of one table and of its pairs. -/
theorem St.upd {w w1 w2 : World} {base m b cap g i : Nat} {l l' : List S80} {ps : List (Nat × List S80)} {A' : Option Addr} {c' : Nat} (h : St w base m (.slice (some ⟨b, 0, none⟩) ps.length cap) ps) (hi : ps[i]? = some (g, l)) (BK : ∃ cs, w.heap[g]? = some (.cells cs 78 (0, 0)))
    (h1 : it.Fr g w w1) (hT : it.Tab w1 base g l' A' c') (hg : w1.grownBy w2 (some b)) (hb : ∃ cells, w.heap[b]? = some (.cells cells 42 (0, 0)))
    (hrow : Kd.R kp 42 w2 base (fun _ => True) (.slice (some ⟨b, 0, none⟩) ps.length cap) ((ps.set i (g, l')).map pr)) (hs : it.Srt l') (hl : l'.length ≤ m + 1) : St w2 base (m + 1) (.slice (some ⟨b, 0, none⟩) ps.length cap) (ps.set i (g, l')) := by
  obtain ⟨cs, BK⟩ := BK
  obtain ⟨cells, hb⟩ := hb
  have hgb : g ≠ b := by
    rintro rfl
    rw [BK] at hb
    injection hb with hb
    injection hb with _ hb
    exact absurd hb (by decide)
  have hil : i < ps.length := (List.getElem?_eq_some_iff.1 hi).1
  have hbn : ∀ g' l0 A0 c0, it.Tab w1 base g' l0 A0 c0 → it.Tab w2 base g' l0 A0 c0 := fun g' l0 A0 c0 hT0 => by
    have hne : g' ≠ b := by
      rintro rfl
      have hb1 : w1.heap[g']? = some (.cells cells 42 (0, 0)) := (h1.2 g' (blk_lt hb) (Ne.symm hgb)).trans hb
      have := hT0.cel
      rw [hb1] at this
      injection this with this
      injection this with _ this
      exact absurd this (by decide)
    have hb1 : w1.heap[b]? = some (.cells cells 42 (0, 0)) := (h1.2 b (blk_lt hb) (Ne.symm hgb)).trans hb
    exact ⟨blk_grown hT0.cel hg (fun e => hne (by injection e with e)), Kd.R_mono (Kd.R_grown (Kd.R_types hT0.row hb1 (by decide)) hg (fun k hk e => hk.2 (by injection e with e))) (fun _ hk => hk.1), hT0.len⟩
  refine ⟨hrow, fun p hp => ?_, ?_, ?_, ?_⟩
  · obtain ⟨j, hj⟩ := List.mem_iff_getElem?.1 hp
    rw [List.getElem?_set] at hj
    by_cases hij : i = j
    · rw [if_pos hij, if_pos hil] at hj
      obtain rfl := Option.some.inj hj
      obtain ⟨t1, _⟩ := h.tab _ (List.mem_of_getElem? hi)
      exact ⟨t1, hs, hl, A', c', hbn _ _ _ _ hT⟩
    · rw [if_neg hij] at hj
      obtain ⟨t1, t2, t3, A, c, t4⟩ := h.tab p (List.mem_of_getElem? hj)
      have e : p.1 ≠ g := fun e => by
        have hjl : j < ps.length := (List.getElem?_eq_some_iff.1 hj).1
        have hi1 : (ps.map (·.1))[i]'(by rw [List.length_map]; exact hil) = g := by
          rw [List.getElem_map]; rw [List.getElem?_eq_getElem hil] at hi; rw [Option.some.inj hi]
        have hj1 : (ps.map (·.1))[j]'(by rw [List.length_map]; exact hjl) = p.1 := by
          rw [List.getElem_map]; rw [List.getElem?_eq_getElem hjl] at hj; rw [Option.some.inj hj]
        have hn := List.pairwise_iff_getElem.1 h.one
        rcases Nat.lt_or_gt_of_ne hij with hlt | hlt
        · exact hn i j (by rw [List.length_map]; exact hil) (by rw [List.length_map]; exact hjl) hlt (by rw [hi1, hj1, e])
        · exact hn j i (by rw [List.length_map]; exact hjl) (by rw [List.length_map]; exact hil) hlt (by rw [hi1, hj1, e])
      exact ⟨t1, t2, by omega, A, c, hbn _ _ _ _ (it.Fr.tab h1 BK e t4)⟩
  · have e : (ps.set i (g, l')).map (·.1) = ps.map (·.1) := by
      rw [List.map_set]
      refine List.ext_getElem? fun j => ?_
      rw [List.getElem?_set]
      split
      · rename_i hj
        subst hj
        rw [List.length_map, if_pos hil, List.getElem?_map, hi, Option.map_some]
      · rfl
    rw [e]; exact h.one
  · rw [List.length_set]; exact h.lo
  · rw [List.length_set]; exact h.hi
theorem pick_ok (on : Int) (n : Nat) (h0 : 0 < n) (h6 : n ≤ 6) : ∃ i : Nat, i < n ∧ scruplelaw05_pick.f on (n : Int) = some (i : Int) := by
  unfold scruplelaw05_pick.f
  rw [if_neg (by omega)]
  have hb1 := Int.lt_tmod_of_pos on (show (0 : Int) < n by omega)
  have hb2 := Int.tmod_lt_of_pos on (show (0 : Int) < n by omega)
  by_cases h : Int.tmod on (n : Int) < 0
  · rw [if_pos h]
    exact ⟨(Int.tmod on n + n).toNat, by omega, by congr 1; unfold wrap64; omega⟩
  · rw [if_neg h]
    exact ⟨(Int.tmod on n).toNat, by omega, by congr 1; omega⟩
/-- What a step leaves: all but tables and their row; the row is the same one, or new. -/
def FrT (v v' : Value) (w w' : World) : Prop := w.heap.size ≤ w'.heap.size ∧ (∀ (k : Nat) (cells : Array Value) (t : TypeId) (fr : Nat × Nat), w.heap[k]? = some (.cells cells t fr) → t ≠ 78 → v.ownBlock ≠ some k → w'.heap[k]? = some (.cells cells t fr)) ∧ ∀ k, v'.ownBlock = some k → v.ownBlock = some k ∨ w.heap.size ≤ k
theorem FrT.of_below {w w' : World} (v : Value) (h : Below w.heap.size w w') : FrT v v w w' := ⟨h.size, fun k cells t fr hk _ _ => blk_below hk h, fun k h => .inl h⟩
theorem FrT.trans {v v1 v2 : Value} {w w1 w2 : World} (h : FrT v v1 w w1) (h2 : FrT v1 v2 w1 w2) : FrT v v2 w w2 := ⟨Nat.le_trans h.1 h2.1, fun k cells t fr hk a b => h2.2.1 k cells t fr (h.2.1 k cells t fr hk a b) a (fun e => by
  rcases h.2.2 k e with e | e
  · exact b e
  · have := blk_lt hk; omega), fun k e => by
  rcases h2.2.2 k e with e | e
  · exact h.2.2 k e
  · exact .inr (Nat.le_trans h.1 e)⟩
theorem FrT.of_fr {w w' : World} {g : Nat} (v : Value) (h : it.Fr g w w') (BK : ∃ cs, w.heap[g]? = some (.cells cs 78 (0, 0))) : FrT v v w w' := ⟨h.1, fun k cells t fr hk a _ => by
  obtain ⟨cs, BK⟩ := BK
  refine (h.2 k (blk_lt hk) ?_).trans hk
  rintro rfl
  rw [BK] at hk
  injection hk with hk
  injection hk with _ hk
  exact a hk.symm, fun k e => .inl e⟩
theorem FrT.of_grown {w w' : World} {b : Nat} {v v' : Value} (h : w.grownBy w' (some b)) (hv : v.ownBlock = some b) (hv' : v'.ownBlock = v.ownBlock ∨ ∃ b', v'.ownBlock = some b' ∧ w.heap.size ≤ b') : FrT v v' w w' := ⟨h.size, fun k cells t fr hk _ a => by
  refine (h.block k (blk_lt hk) ?_).trans hk
  intro e
  exact a (hv.trans e.symm), fun k e => by
  rcases hv' with e1 | ⟨b', e1, e2⟩
  · rw [e1] at e; exact .inl e
  · rw [e1] at e; injection e with e; exact .inr (by omega)⟩
/-- The cells that a step reads: a place of the tables' row, and the step's own. -/
structure Lay (W : World) (b i g : Nat) (RA : Option Addr) (n1 rc gs : Nat) (kd on k z : Int) : Prop where
  p0 : W.cell? ⟨b, i * 2, none⟩ = some (.pointer (some ⟨g, 0, none⟩))
  p1 : W.cell? ⟨b, i * 2 + 1, none⟩ = some (.slice RA n1 rc)
  bs : W.heap[gs]? = some (.cells #[.int .i64 kd, .int .i64 on, .int .i64 k, .int .i64 z] 60 (0, 0))
  bb : ∃ cells, W.heap[b]? = some (.cells cells 42 (0, 0))
theorem Lay.fz {W : World} {b i g : Nat} {RA : Option Addr} {n1 rc gs : Nat} {kd on k z : Int} (h : Lay W b i g RA n1 rc gs kd on k z) (o : Nat) : W.frozen? ⟨b, o, none⟩ = false := by
  obtain ⟨cells, hc⟩ := h.bb
  exact blk_frozen hc o
theorem Lay.s0 {W : World} {b i g : Nat} {RA : Option Addr} {n1 rc gs : Nat} {kd on k z : Int} (h : Lay W b i g RA n1 rc gs kd on k z) : W.cell? ⟨gs, 0, none⟩ = some (.int .i64 kd) := (blk_cell h.bs 0).trans rfl
theorem Lay.s1 {W : World} {b i g : Nat} {RA : Option Addr} {n1 rc gs : Nat} {kd on k z : Int} (h : Lay W b i g RA n1 rc gs kd on k z) : W.cell? ⟨gs, 1, none⟩ = some (.int .i64 on) := (blk_cell h.bs 1).trans rfl
theorem Lay.s2 {W : World} {b i g : Nat} {RA : Option Addr} {n1 rc gs : Nat} {kd on k z : Int} (h : Lay W b i g RA n1 rc gs kd on k z) : W.cell? ⟨gs, 2, none⟩ = some (.int .i64 k) := (blk_cell h.bs 2).trans rfl
theorem Lay.s3 {W : World} {b i g : Nat} {RA : Option Addr} {n1 rc gs : Nat} {kd on k z : Int} (h : Lay W b i g RA n1 rc gs kd on k z) : W.cell? ⟨gs, 3, none⟩ = some (.int .i64 z) := (blk_cell h.bs 3).trans rfl
theorem Lay.below {W W1 : World} {b i g : Nat} {RA : Option Addr} {n1 rc gs : Nat} {kd on k z : Int} (h : Lay W b i g RA n1 rc gs kd on k z) (hb : Below W.heap.size W W1) : Lay W1 b i g RA n1 rc gs kd on k z :=
  ⟨(hb.cell (World.block_lt_of_cell? W _ h.p0)).trans h.p0, (hb.cell (World.block_lt_of_cell? W _ h.p1)).trans h.p1, blk_below h.bs hb, by obtain ⟨cells, hc⟩ := h.bb; exact ⟨cells, blk_below hc hb⟩⟩
theorem cell_eq {w w1 : World} {b : Nat} (e : w1.heap[b]? = w.heap[b]?) (o : Nat) : w1.cell? ⟨b, o, none⟩ = w.cell? ⟨b, o, none⟩ := by simp [World.cell?, e]
theorem Lay.fr {W W1 : World} {b i g : Nat} {RA : Option Addr} {n1 rc gs : Nat} {kd on k z : Int} (h : Lay W b i g RA n1 rc gs kd on k z) (hF : it.Fr g W W1) (BK : ∃ cs, W.heap[g]? = some (.cells cs 78 (0, 0))) : Lay W1 b i g RA n1 rc gs kd on k z := by
  obtain ⟨cs, BK⟩ := BK
  obtain ⟨cells, hcb⟩ := h.bb
  have h1 : b ≠ g := by
    rintro rfl
    rw [BK] at hcb
    injection hcb with hcb
    injection hcb with _ hcb
    exact absurd hcb (by decide)
  have h2 : gs ≠ g := by
    rintro rfl
    have := h.bs
    rw [BK] at this
    injection this with this
    injection this with _ this
    exact absurd this (by decide)
  have e := (hF.2 b (blk_lt hcb) h1)
  refine ⟨?_, ?_, (hF.2 gs (blk_lt h.bs) h2).trans h.bs, cells, e.trans hcb⟩
  · exact (cell_eq e (i * 2)).trans h.p0
  · exact (cell_eq e (i * 2 + 1)).trans h.p1
theorem refFindC (l : List S80) (k : Int) (RA : Option Addr) (n1 rc : Nat) (e1 : (l.map it.r5).length = n1) {W : World} {base : Nat} {ok : Nat → Prop} (hR : k50.R 50 W base ok (.slice RA n1 rc) (l.map it.r5)) (hF : scrupleref05_Find.f (l.length + 1) (l.map it.r5) k = some ((it.fnd l k : Int), it.has l k)) :
    Calls Try.prog 16 #[.slice RA n1 rc, .int .i64 k] W fun e w' => e = .returned (.tuple #[.int .i64 (it.fnd l k : Int), .bool (it.has l k)]) ∧ Drawn0 W w' := by
  subst e1
  exact scrupleref05_Find.calls _ RA rc _ k _ _ W (Kd.R_reads' hR).2.2 (Kd.R_reads' hR).2.1 hF
theorem refPutC (l : List S80) (k z : Int) (RA : Option Addr) (n1 rc : Nat) (e1 : (l.map it.r5).length = n1) {W : World} {base : Nat} {ok : Nat → Prop} (hbase : base ≤ W.heap.size) (hR : k50.R 50 W base ok (.slice RA n1 rc) (l.map it.r5)) (hl : l.length < 8796093022206) :
    Calls Try.prog 40 #[.slice RA n1 rc, .int .i64 k, .int .i64 z] W fun e w' => ∃ v : Value, e = .returned (.tuple #[v, .bool (it.has l k)]) ∧ k50.R 50 w' base (fun _ => True) v ((it.put l k z).map it.r5) ∧ Below W.heap.size W w' := by
  subst e1
  refine (scrupleref05_Put.calls _ RA rc _ k z _ _ W (Kd.R_reads' hR).2.2 (Kd.R_reads' hR).2.1 (it.ref_put l k z hl)).mono ?_
  rintro e w' ⟨v, rfl, ho, hb⟩
  exact ⟨v, rfl, Kd.R_lower ho hbase, hb⟩
theorem refDelC (l : List S80) (k : Int) (RA : Option Addr) (n1 rc : Nat) (e1 : (l.map it.r5).length = n1) {W : World} {base : Nat} {ok : Nat → Prop} (hbase : base ≤ W.heap.size) (hR : k50.R 50 W base ok (.slice RA n1 rc) (l.map it.r5)) (hl : l.length * 16 ≤ 140737488355328) :
    Calls Try.prog 41 #[.slice RA n1 rc, .int .i64 k] W fun e w' => ∃ v : Value, e = .returned (.tuple #[v, .bool (it.has l k)]) ∧ k50.R 50 w' base (fun _ => True) v ((it.del l k).map it.r5) ∧ Below W.heap.size W w' := by
  subst e1
  exact it.refDel l k RA rc (Kd.R_reads' hR).2.2 (Kd.R_reads' hR).2.1 hl base hbase (Kd.R_mono hR (fun _ _ => trivial))
theorem doesClose {w0 w w3 w4 w5 : World} {m b cap g i : Nat} {l l' : List S80} {ps : List (Nat × List S80)} {A' : Option Addr} {c' : Nat} {v5 : Value} (hB : Below w0.heap.size w0 w) (h : St w w0.heap.size m (.slice (some ⟨b, 0, none⟩) ps.length cap) ps) (hpi : ps[i]? = some (g, l))
    (hb3 : Below w.heap.size w w3) (hF : it.Fr g w3 w4) (hT : it.Tab w4 w0.heap.size g l' A' c') (hB4 : Below w0.heap.size w0 w4) (hb5 : Below w4.heap.size w4 w5) (ho5 : k50.R 50 w5 w0.heap.size (fun _ => True) v5 (l'.map it.r5)) (hs : it.Srt l') (hl : l'.length ≤ m + 1) :
    St (w5.setCell ⟨b, i * 2 + 1, none⟩ v5) w0.heap.size (m + 1) (.slice (some ⟨b, 0, none⟩) ps.length cap) (ps.set i (g, l')) ∧ Below w0.heap.size w0 (w5.setCell ⟨b, i * 2 + 1, none⟩ v5) ∧ FrT (.slice (some ⟨b, 0, none⟩) ps.length cap) (.slice (some ⟨b, 0, none⟩) ps.length cap) w (w5.setCell ⟨b, i * 2 + 1, none⟩ v5) := by
  have hil : i < ps.length := (List.getElem?_eq_some_iff.1 hpi).1
  have h3 := h.below hb3
  obtain ⟨b', cap', g', l0, A, c, RA, rc, e1, e2, hbg, hsl, hlm, hT3, hcb3, hbb, hc0, hc1, hR⟩ := h3.at_ i hil
  injection e1 with e1 _ _
  injection e1 with e1
  injection e1 with e1
  subst e1
  rw [hpi] at e2
  obtain ⟨rfl, rfl⟩ := Prod.mk.inj (Option.some.inj e2)
  have BK3 : ∃ cs, w3.heap[g]? = some (.cells cs 78 (0, 0)) := ⟨_, hT3.cel⟩
  have hF5 : it.Fr g w3 w5 := hF.trans (it.Fr.of_below hb5)
  have hT5 := hT.below hb5
  have hrow5 : Kd.R kp 42 w5 w0.heap.size (fun _ => True) (.slice (some ⟨b, 0, none⟩) ps.length cap) (ps.map pr) := it.Fr.rowk hF5 hT3.cel h3.row (by decide)
  have hgb : b ≠ g := by
    rintro rfl
    obtain ⟨cells, hcb⟩ := hcb3
    obtain ⟨cs, BK⟩ := BK3
    rw [BK] at hcb
    injection hcb with hcb
    injection hcb with _ hcb
    exact absurd hcb (by decide)
  have hcb5 : ∃ cells, w5.heap[b]? = some (.cells cells 42 (0, 0)) := by
    obtain ⟨cells, hcb⟩ := hcb3
    exact ⟨cells, (hF5.2 b (blk_lt hcb) hgb).trans hcb⟩
  obtain ⟨cells5, hcb5'⟩ := hcb5
  obtain ⟨c0, hc1', hc2', hc3', _⟩ := Kd.R_elem hrow5 (0, []) (i : Int) (by omega) (by omega)
  have e1 : (ps.map pr).getD (i : Int).toNat (0, []) = pr (g, l) := by rw [Int.toNat_natCast, List.getD_eq_getElem?_getD, List.getElem?_map, hpi]; rfl
  rw [e1] at hc2'
  obtain ⟨v1, rfl, _⟩ := kp_openM hc2'
  have hM : kp.M w5 w0.heap.size (fun k => True ∧ k ≠ b) (pr (g, l')) ([.pointer (some ⟨g, 0, none⟩), v1].take 1 ++ [v5] ++ [.pointer (some ⟨g, 0, none⟩), v1].drop (1 + [v5].length)) := kp_mkM _ _ _ (pr (g, l')) (Kd.R_types ho5 hcb5' (by decide))
  obtain ⟨hrow6, hg6⟩ := Kd.R_seg hrow5 (i : Int) (by omega) (by omega) hc1' hc3' (show 1 + [v5].length ≤ 2 from Nat.le_refl 2) hM (fun k hk => hk)
  have e6 : w5.setCells b ((i : Int).toNat * kp.sz + 1) [v5] = w5.setCell ⟨b, i * 2 + 1, none⟩ v5 := by rw [Int.toNat_natCast]; rfl
  rw [e6] at hrow6 hg6
  rw [Int.toNat_natCast, ← List.map_set] at hrow6
  have hB5 := below_then hB4 hB4.size hb5
  exact ⟨St.upd h3 hpi BK3 hF5 hT5 hg6 hcb3 hrow6 hs hl, hB5.setCell hbb _, (FrT.of_below _ hb3).trans ((FrT.of_fr _ hF5 BK3).trans (FrT.of_grown hg6 (by simp [Value.ownBlock]) (.inl rfl)))⟩
theorem doesPut {w0 w : World} {m : Nat} {v : Value} {ps : List (Nat × List S80)} (hB : Below w0.heap.size w0 w) (h : St w w0.heap.size m v ps) (on k z : Int) (i : Nat) (hpk : scruplelaw05_pick.f on (ps.length : Int) = some (i : Int)) (hi : i < ps.length) (hm : (m + 4) * 16 ≤ 140737488355328) :
    Calls Try.prog 27 #[v, .agg #[.int .i64 1, .int .i64 on, .int .i64 k, .int .i64 z]] w fun e w' => ∃ (v' : Value) (ps' : List (Nat × List S80)), e = .returned (.tuple #[v', .bool true]) ∧ St w' w0.heap.size (m + 1) v' ps' ∧ Below w0.heap.size w0 w' ∧ FrT v v' w w' := by
  obtain ⟨b, cap, g, l, A, c, RA, rc, rfl, hpi, hbg, hsl, hlm, hT, hcb, hbb, hc0, hc1, hR⟩ := h.at_ i hi
  have hu60 := Try.underlying60
  have HP := Aside0.mk hpk
  have HF := Aside0.mk (it.ref_find l k (by omega))
  have HST := Aside0.mk h
  have HT := Aside0.mk hT
  have HR := Aside0.mk hR
  have HPI := Aside0.mk hpi
  have HSL := Aside0.mk hsl
  have HLM := Aside0.mk hlm
  have HCB := Aside0.mk hcb
  have HM := Aside0.mk hm
  have HBG := Aside0.mk hbg
  have HB := Aside0.mk hB
  have hcap := (Kd.R_reads' h.row).2.1
  have hle := it.fnd_le k l
  have HLE := Aside0.mk hle
  generalize hn1 : (l.map it.r5).length = n1 at *
  have HN1 := Aside0.mk hn1
  generalize hnp : ps.length = np at *
  have HNP := Aside0.mk hnp
  have hi0 : 0 ≤ (i : Int) := by omega
  have hi1 : (i : Int) < (np : Int) := by omega
  have hi2 : decide (i < np) = true := decide_eq_true hi
  clear hpk h hT hR hpi hsl hlm hcb hm hbg hB hbb hn1 hnp hcap hle
  go_enter Try.func27, Try.ntmps27
  go_wp2_with (first | ((with_reducible refine gate_dst (N := 3) rfl ?_); refine box_event ?hg (N := 3) ?hd (cs := #[.int .i64 1, .int .i64 on, .int .i64 k, .int .i64 z]) (t := 60) ?hr ?_; (case hd => rfl); (case hg => rfl); (case hr => first | (go_simp; done) | (go_simp; rfl)); intro gs hg w1 hbox hb; have HB1 := Aside0.mk hb; have L1 := Aside0.mk (show Lay w1 b i g RA n1 rc gs 1 on k z from ⟨(hb.cell (World.block_lt_of_cell? w _ hc0)).trans hc0, (hb.cell (World.block_lt_of_cell? w _ hc1)).trans hc1, hbox, by obtain ⟨cells, hc⟩ := HCB.out; exact ⟨cells, blk_below hc hb⟩⟩); clear hg hbox hb hc0 hc1; have hp0_ := L1.out.p0; have hp1_ := L1.out.p1; have hs0_ := L1.out.s0; have hs1_ := L1.out.s1; have hs2_ := L1.out.s2; have hs3_ := L1.out.s3) | (go_at_call 39; refine (scruplelaw05_pick.calls on (np : Int) (i : Int) _ HP.out).mono ?_; rintro e_ w2 ⟨rfl, hd⟩; have HB2 := Aside0.mk (below_then HB1.out HB1.out.size hd.below); have L2 := Aside0.mk (L1.out.below hd.below); clear hd; clear hp0_ hp1_ hs0_ hs1_ hs2_ hs3_; have hp0_ := L2.out.p0; have hp1_ := L2.out.p1; have hs0_ := L2.out.s0; have hs1_ := L2.out.s1; have hs2_ := L2.out.s2; have hs3_ := L2.out.s3))
  refine start_ (n := 12) (S := fun w' => w'.cell? ⟨b, i * 2, none⟩ = some (.pointer (some ⟨g, 0, none⟩)) ∧ w'.cell? ⟨b, i * 2 + 1, none⟩ = some (.slice RA n1 rc) ∧ w'.cell? ⟨gs, 0, none⟩ = some (.int .i64 1) ∧ w'.cell? ⟨gs, 1, none⟩ = some (.int .i64 on) ∧ w'.cell? ⟨gs, 2, none⟩ = some (.int .i64 k) ∧ w'.cell? ⟨gs, 3, none⟩ = some (.int .i64 z)) (ds := []) #[false, false, false, false, false, false, false, false, false, false, false, false] (by kernel_rfl) rfl rfl ⟨(L2.out.below (below_drew (Below.refl _ _))).p0, (L2.out.below (below_drew (Below.refl _ _))).p1, (L2.out.below (below_drew (Below.refl _ _))).s0, (L2.out.below (below_drew (Below.refl _ _))).s1, (L2.out.below (below_drew (Below.refl _ _))).s2, (L2.out.below (below_drew (Below.refl _ _))).s3⟩ (fun hHeld => ?_)
  generalize hwd : w2.drew = wd2 at hHeld ⊢
  have Ld2 := Aside0.mk (hwd ▸ (L2.out.below (below_drew (Below.refl _ _))))
  have HBd2 := Aside0.mk (hwd ▸ (below_drew HB2.out))
  clear hwd
  clear hp0_ hp1_ hs0_ hs1_ hs2_ hs3_
  refine pure_ (i := 0) (N := some 27) (v := ?_) (a' := ?_) #[true, false, false, false, false, false, false, false, false, false, false, false] rfl rfl (by kernel_rfl) (fun _ _ _ h => h) (Or.inl ⟨by rfl, ?_⟩) ?_ ?_
  rotate_left
  · intro w'
    go_simp
    with_reducible rfl
  rotate_left
  · simp only [Act.put, List.setIfInBounds_toArray, List.set_cons_zero, List.set_cons_succ, i64_w, i32_w]
    rfl
  refine pure_ (i := 1) (N := some 28) (v := ?_) (a' := ?_) #[true, true, false, false, false, false, false, false, false, false, false, false] rfl rfl (by kernel_rfl) (fun _ _ _ h => h) (Or.inl ⟨by rfl, ?_⟩) ?_ ?_
  rotate_left
  · intro w'
    go_simp
    with_reducible rfl
  rotate_left
  · simp only [Act.put, List.setIfInBounds_toArray, List.set_cons_zero, List.set_cons_succ, i64_w, i32_w]
    rfl
  refine pure_ (i := 2) (N := some 29) (v := ?_) (a' := ?_) #[true, true, true, false, false, false, false, false, false, false, false, false] rfl rfl (by kernel_rfl) (fun _ _ _ h => h) (Or.inl ⟨by rfl, ?_⟩) ?_ ?_
  rotate_left
  · intro w'
    go_simp
    with_reducible rfl
  rotate_left
  · simp only [Act.put, List.setIfInBounds_toArray, List.set_cons_zero, List.set_cons_succ, i64_w, i32_w]
    rfl
  refine pure_ (i := 4) (N := some 31) (v := ?_) (a' := ?_) #[true, true, true, false, true, false, false, false, false, false, false, false] rfl rfl (by kernel_rfl) (fun _ _ _ h => h) (Or.inl ⟨by rfl, ?_⟩) ?_ ?_
  rotate_left
  · intro w'
    go_simp
    with_reducible rfl
  rotate_left
  · simp only [Act.put, List.setIfInBounds_toArray, List.set_cons_zero, List.set_cons_succ, i64_w, i32_w]
    rfl
  refine take_ (i := 3) (N := some 30) (v := ?_) (a' := ?_) #[true, true, true, true, true, false, false, false, false, false, false, false] rfl rfl (by kernel_rfl) (fun _ _ _ h => h) (Or.inl ⟨by rfl, ?_⟩) hHeld ?_ ?_
  rotate_left
  · rintro w' ⟨s0, s1, s2, s3, s4, s5⟩
    go_simp
    with_reducible rfl
  rotate_left
  · simp only [Act.put, List.setIfInBounds_toArray, List.set_cons_zero, List.set_cons_succ, i64_w, i32_w]
    rfl
  refine take_ (i := 5) (N := some 32) (v := ?_) (a' := ?_) #[true, true, true, true, true, true, false, false, false, false, false, false] rfl rfl (by kernel_rfl) (fun _ _ _ h => h) (Or.inl ⟨by rfl, ?_⟩) hHeld ?_ ?_
  rotate_left
  · rintro w' ⟨s0, s1, s2, s3, s4, s5⟩
    go_simp
    with_reducible rfl
  rotate_left
  · simp only [Act.put, List.setIfInBounds_toArray, List.set_cons_zero, List.set_cons_succ, i64_w, i32_w]
    rfl
  refine one_ (i := 6) (N := some 33) #[true, true, true, true, true, true, true, false, false, false, false, false] rfl rfl (by kernel_rfl) (by decide) (fun K hK => ?_)
  refine goes_ Try.func16 (by kernel_rfl) rfl #[.slice RA n1 rc, .int .i64 k] (by rfl) rfl rfl (by (try simp only [List.map_toArray, List.map_cons, List.map_nil]); first | done | rfl) ?_
  refine (refFindC l k RA n1 rc HN1.out (Kd.R_below HR.out HBd2.out) HF.out).mono ?_
  rintro e w3 ⟨rfl, hd⟩
  refine ⟨_, rfl, ?_⟩
  have HB3 := Aside0.mk (below_then HBd2.out HBd2.out.size hd.below)
  have L3 := Aside0.mk (Ld2.out.below hd.below)
  clear hd
  have hp0_ := L3.out.p0
  have hp1_ := L3.out.p1
  have hs0_ := L3.out.s0
  have hs1_ := L3.out.s1
  have hs2_ := L3.out.s2
  have hs3_ := L3.out.s3
  refine hK.out _ _ ⟨L3.out.p0, L3.out.p1, L3.out.s0, L3.out.s1, L3.out.s2, L3.out.s3⟩ (fun hHeld => ?_)
  clear hK K
  refine norm_ (a' := ?_) ?_ ?_
  rotate_left
  · show Act.put _ (some 33) _ = _
    simp only [Act.put, List.setIfInBounds_toArray, List.set_cons_zero, List.set_cons_succ, i64_w, i32_w]
    rfl
  refine pure_ (i := 7) (N := some 26) (v := ?_) (a' := ?_) #[true, true, true, true, true, true, true, true, false, false, false, false] rfl rfl (by kernel_rfl) (fun _ _ _ h => h) (Or.inl ⟨by rfl, ?_⟩) ?_ ?_
  rotate_left
  · intro w'
    go_simp
    with_reducible rfl
  rotate_left
  · simp only [Act.put, List.setIfInBounds_toArray, List.set_cons_zero, List.set_cons_succ, i64_w, i32_w]
    rfl
  refine pure_ (i := 8) (N := some 34) (v := ?_) (a' := ?_) #[true, true, true, true, true, true, true, true, true, false, false, false] rfl rfl (by kernel_rfl) (fun _ _ _ h => h) (Or.inl ⟨by rfl, ?_⟩) ?_ ?_
  rotate_left
  · intro w'
    go_simp
    with_reducible rfl
  rotate_left
  · simp only [Act.put, List.setIfInBounds_toArray, List.set_cons_zero, List.set_cons_succ, i64_w, i32_w]
    rfl
  refine pure_ (i := 9) (N := some 35) (v := ?_) (a' := ?_) #[true, true, true, true, true, true, true, true, true, true, false, false] rfl rfl (by kernel_rfl) (fun _ _ _ h => h) (Or.inl ⟨by rfl, ?_⟩) ?_ ?_
  rotate_left
  · intro w'
    go_simp
    with_reducible rfl
  rotate_left
  · simp only [Act.put, List.setIfInBounds_toArray, List.set_cons_zero, List.set_cons_succ, i64_w, i32_w]
    rfl
  refine pure_ (i := 10) (N := some 7) (v := ?_) (a' := ?_) #[true, true, true, true, true, true, true, true, true, true, true, false] rfl rfl (by kernel_rfl) (fun _ _ _ h => h) (Or.inl ⟨by rfl, ?_⟩) ?_ ?_
  rotate_left
  · intro w'
    go_simp
    with_reducible rfl
  rotate_left
  · simp only [Act.put, List.setIfInBounds_toArray, List.set_cons_zero, List.set_cons_succ, i64_w, i32_w]
    rfl
  refine pure_ (i := 11) (N := some 8) (v := ?_) (a' := ?_) #[true, true, true, true, true, true, true, true, true, true, true, true] rfl rfl (by kernel_rfl) (fun _ _ _ h => h) (Or.inl ⟨by rfl, ?_⟩) ?_ ?_
  rotate_left
  · intro w'
    go_simp
    with_reducible rfl
  rotate_left
  · simp only [Act.put, List.setIfInBounds_toArray, List.set_cons_zero, List.set_cons_succ, i64_w, i32_w]
    rfl
  refine done_ (by kernel_rfl) ?_
  try go_wp2
  refine start_ (n := 10) (S := fun w' => w'.cell? ⟨b, i * 2, none⟩ = some (.pointer (some ⟨g, 0, none⟩)) ∧ w'.cell? ⟨b, i * 2 + 1, none⟩ = some (.slice RA n1 rc) ∧ w'.cell? ⟨gs, 0, none⟩ = some (.int .i64 1) ∧ w'.cell? ⟨gs, 1, none⟩ = some (.int .i64 on) ∧ w'.cell? ⟨gs, 2, none⟩ = some (.int .i64 k) ∧ w'.cell? ⟨gs, 3, none⟩ = some (.int .i64 z)) (ds := []) #[false, false, false, false, false, false, false, false, false, false] (by kernel_rfl) rfl rfl ⟨(L3.out.below (below_drew (Below.refl _ _))).p0, (L3.out.below (below_drew (Below.refl _ _))).p1, (L3.out.below (below_drew (Below.refl _ _))).s0, (L3.out.below (below_drew (Below.refl _ _))).s1, (L3.out.below (below_drew (Below.refl _ _))).s2, (L3.out.below (below_drew (Below.refl _ _))).s3⟩ (fun hHeld => ?_)
  generalize hwd : w3.drew = wd3 at hHeld ⊢
  have Ld3 := Aside0.mk (hwd ▸ (L3.out.below (below_drew (Below.refl _ _))))
  have HBd3 := Aside0.mk (hwd ▸ (below_drew HB3.out))
  clear hwd
  clear hp0_ hp1_ hs0_ hs1_ hs2_ hs3_
  refine pure_ (i := 0) (N := some 40) (v := ?_) (a' := ?_) #[true, false, false, false, false, false, false, false, false, false] rfl rfl (by kernel_rfl) (fun _ _ _ h => h) (Or.inl ⟨by rfl, ?_⟩) ?_ ?_
  rotate_left
  · intro w'
    go_simp
    with_reducible rfl
  rotate_left
  · simp only [Act.put, List.setIfInBounds_toArray, List.set_cons_zero, List.set_cons_succ, i64_w, i32_w]
    rfl
  refine pure_ (i := 1) (N := some 41) (v := ?_) (a' := ?_) #[true, true, false, false, false, false, false, false, false, false] rfl rfl (by kernel_rfl) (fun _ _ _ h => h) (Or.inl ⟨by rfl, ?_⟩) ?_ ?_
  rotate_left
  · intro w'
    go_simp
    with_reducible rfl
  rotate_left
  · simp only [Act.put, List.setIfInBounds_toArray, List.set_cons_zero, List.set_cons_succ, i64_w, i32_w]
    rfl
  refine pure_ (i := 2) (N := some 42) (v := ?_) (a' := ?_) #[true, true, true, false, false, false, false, false, false, false] rfl rfl (by kernel_rfl) (fun _ _ _ h => h) (Or.inl ⟨by rfl, ?_⟩) ?_ ?_
  rotate_left
  · intro w'
    go_simp
    with_reducible rfl
  rotate_left
  · simp only [Act.put, List.setIfInBounds_toArray, List.set_cons_zero, List.set_cons_succ, i64_w, i32_w]
    rfl
  refine pure_ (i := 4) (N := some 44) (v := ?_) (a' := ?_) #[true, true, true, false, true, false, false, false, false, false] rfl rfl (by kernel_rfl) (fun _ _ _ h => h) (Or.inl ⟨by rfl, ?_⟩) ?_ ?_
  rotate_left
  · intro w'
    go_simp
    with_reducible rfl
  rotate_left
  · simp only [Act.put, List.setIfInBounds_toArray, List.set_cons_zero, List.set_cons_succ, i64_w, i32_w]
    rfl
  refine pure_ (i := 6) (N := some 46) (v := ?_) (a' := ?_) #[true, true, true, false, true, false, true, false, false, false] rfl rfl (by kernel_rfl) (fun _ _ _ h => h) (Or.inl ⟨by rfl, ?_⟩) ?_ ?_
  rotate_left
  · intro w'
    go_simp
    with_reducible rfl
  rotate_left
  · simp only [Act.put, List.setIfInBounds_toArray, List.set_cons_zero, List.set_cons_succ, i64_w, i32_w]
    rfl
  refine take_ (i := 3) (N := some 43) (v := ?_) (a' := ?_) #[true, true, true, true, true, false, true, false, false, false] rfl rfl (by kernel_rfl) (fun _ _ _ h => h) (Or.inl ⟨by rfl, ?_⟩) hHeld ?_ ?_
  rotate_left
  · rintro w' ⟨s0, s1, s2, s3, s4, s5⟩
    go_simp
    with_reducible rfl
  rotate_left
  · simp only [Act.put, List.setIfInBounds_toArray, List.set_cons_zero, List.set_cons_succ, i64_w, i32_w]
    rfl
  refine take_ (i := 5) (N := some 45) (v := ?_) (a' := ?_) #[true, true, true, true, true, true, true, false, false, false] rfl rfl (by kernel_rfl) (fun _ _ _ h => h) (Or.inl ⟨by rfl, ?_⟩) hHeld ?_ ?_
  rotate_left
  · rintro w' ⟨s0, s1, s2, s3, s4, s5⟩
    go_simp
    with_reducible rfl
  rotate_left
  · simp only [Act.put, List.setIfInBounds_toArray, List.set_cons_zero, List.set_cons_succ, i64_w, i32_w]
    rfl
  refine take_ (i := 7) (N := some 47) (v := ?_) (a' := ?_) #[true, true, true, true, true, true, true, true, false, false] rfl rfl (by kernel_rfl) (fun _ _ _ h => h) (Or.inl ⟨by rfl, ?_⟩) hHeld ?_ ?_
  rotate_left
  · rintro w' ⟨s0, s1, s2, s3, s4, s5⟩
    go_simp
    with_reducible rfl
  rotate_left
  · simp only [Act.put, List.setIfInBounds_toArray, List.set_cons_zero, List.set_cons_succ, i64_w, i32_w]
    rfl
  refine one_ (i := 8) (N := some 48) #[true, true, true, true, true, true, true, true, true, false] rfl rfl (by kernel_rfl) (by decide) (fun K hK => ?_)
  refine goes_ Try.func21 (by kernel_rfl) rfl #[.pointer (some ⟨g, 0, none⟩), .int .i64 k, .int .i64 z] (by rfl) rfl rfl (by (try simp only [List.map_toArray, List.map_cons, List.map_nil]); first | done | rfl) ?_
  refine (it.putT (below_then HB.out HB.out.size HBd3.out) HBG.out (HT.out.below HBd3.out) HSL.out k z (by have := HLM.out; have := HM.out; omega)).mono ?_
  rintro e w4 ⟨A4, c4, rfl, ht4, hf4, hb4⟩
  refine ⟨_, rfl, ?_⟩
  have HT4 := Aside0.mk ht4
  have HF4 := Aside0.mk hf4
  have HB4 := Aside0.mk hb4
  have HW3 := Aside0.mk HBd3.out
  have L4 := Aside0.mk (Ld3.out.fr hf4 ⟨_, (HT.out.below HBd3.out).cel⟩)
  clear ht4 hf4 hb4
  have hp0_ := L4.out.p0
  have hp1_ := L4.out.p1
  have hs0_ := L4.out.s0
  have hs1_ := L4.out.s1
  have hs2_ := L4.out.s2
  have hs3_ := L4.out.s3
  refine hK.out _ _ ⟨L4.out.p0, L4.out.p1, L4.out.s0, L4.out.s1, L4.out.s2, L4.out.s3⟩ (fun hHeld => ?_)
  clear hK K
  refine norm_ (a' := ?_) ?_ ?_
  rotate_left
  · show Act.put _ (some 48) _ = _
    simp only [Act.put, List.setIfInBounds_toArray, List.set_cons_zero, List.set_cons_succ, i64_w, i32_w]
    rfl
  refine pure_ (i := 9) (N := some 9) (v := ?_) (a' := ?_) #[true, true, true, true, true, true, true, true, true, true] rfl rfl (by kernel_rfl) (fun _ _ _ h => h) (Or.inl ⟨by rfl, ?_⟩) ?_ ?_
  rotate_left
  · intro w'
    go_simp
    with_reducible rfl
  rotate_left
  · simp only [Act.put, List.setIfInBounds_toArray, List.set_cons_zero, List.set_cons_succ, i64_w, i32_w]
    rfl
  refine done_ (by kernel_rfl) ?_
  try go_wp2
  refine start_ (n := 16) (S := fun w' => w'.cell? ⟨b, i * 2, none⟩ = some (.pointer (some ⟨g, 0, none⟩)) ∧ w'.cell? ⟨b, i * 2 + 1, none⟩ = some (.slice RA n1 rc) ∧ w'.cell? ⟨gs, 0, none⟩ = some (.int .i64 1) ∧ w'.cell? ⟨gs, 1, none⟩ = some (.int .i64 on) ∧ w'.cell? ⟨gs, 2, none⟩ = some (.int .i64 k) ∧ w'.cell? ⟨gs, 3, none⟩ = some (.int .i64 z)) (ds := [15]) #[false, false, false, false, false, false, false, false, false, false, false, false, false, false, false, false] (by kernel_rfl) rfl rfl ⟨(L4.out.below (below_drew (Below.refl _ _))).p0, (L4.out.below (below_drew (Below.refl _ _))).p1, (L4.out.below (below_drew (Below.refl _ _))).s0, (L4.out.below (below_drew (Below.refl _ _))).s1, (L4.out.below (below_drew (Below.refl _ _))).s2, (L4.out.below (below_drew (Below.refl _ _))).s3⟩ (fun hHeld => ?_)
  generalize hwd : w4.drew = wd4 at hHeld ⊢
  have Ld4 := Aside0.mk (hwd ▸ (L4.out.below (below_drew (Below.refl _ _))))
  have HBd4 := Aside0.mk (hwd ▸ (below_drew (Below.refl w4.heap.size w4)))
  clear hwd
  clear hp0_ hp1_ hs0_ hs1_ hs2_ hs3_
  have HR4 := Aside0.mk (Kd.R_below (it.Fr.rowk HF4.out (HT.out.below HW3.out).cel (Kd.R_below HR.out HW3.out) (by decide)) HBd4.out)
  refine pure_ (i := 0) (N := some 50) (v := ?_) (a' := ?_) #[true, false, false, false, false, false, false, false, false, false, false, false, false, false, false, false] rfl rfl (by kernel_rfl) (fun _ _ _ h => h) (Or.inl ⟨by rfl, ?_⟩) ?_ ?_
  rotate_left
  · intro w'
    go_simp
    with_reducible rfl
  rotate_left
  · simp only [Act.put, List.setIfInBounds_toArray, List.set_cons_zero, List.set_cons_succ, i64_w, i32_w]
    rfl
  refine pure_ (i := 1) (N := some 51) (v := ?_) (a' := ?_) #[true, true, false, false, false, false, false, false, false, false, false, false, false, false, false, false] rfl rfl (by kernel_rfl) (fun _ _ _ h => h) (Or.inl ⟨by rfl, ?_⟩) ?_ ?_
  rotate_left
  · intro w'
    go_simp
    with_reducible rfl
  rotate_left
  · simp only [Act.put, List.setIfInBounds_toArray, List.set_cons_zero, List.set_cons_succ, i64_w, i32_w]
    rfl
  refine pure_ (i := 2) (N := some 52) (v := ?_) (a' := ?_) #[true, true, true, false, false, false, false, false, false, false, false, false, false, false, false, false] rfl rfl (by kernel_rfl) (fun _ _ _ h => h) (Or.inl ⟨by rfl, ?_⟩) ?_ ?_
  rotate_left
  · intro w'
    go_simp
    with_reducible rfl
  rotate_left
  · simp only [Act.put, List.setIfInBounds_toArray, List.set_cons_zero, List.set_cons_succ, i64_w, i32_w]
    rfl
  refine pure_ (i := 3) (N := some 53) (v := ?_) (a' := ?_) #[true, true, true, true, false, false, false, false, false, false, false, false, false, false, false, false] rfl rfl (by kernel_rfl) (fun _ _ _ h => h) (Or.inl ⟨by rfl, ?_⟩) ?_ ?_
  rotate_left
  · intro w'
    go_simp
    with_reducible rfl
  rotate_left
  · simp only [Act.put, List.setIfInBounds_toArray, List.set_cons_zero, List.set_cons_succ, i64_w, i32_w]
    rfl
  refine pure_ (i := 5) (N := some 55) (v := ?_) (a' := ?_) #[true, true, true, true, false, true, false, false, false, false, false, false, false, false, false, false] rfl rfl (by kernel_rfl) (fun _ _ _ h => h) (Or.inl ⟨by rfl, ?_⟩) ?_ ?_
  rotate_left
  · intro w'
    go_simp
    with_reducible rfl
  rotate_left
  · simp only [Act.put, List.setIfInBounds_toArray, List.set_cons_zero, List.set_cons_succ, i64_w, i32_w]
    rfl
  refine pure_ (i := 7) (N := some 57) (v := ?_) (a' := ?_) #[true, true, true, true, false, true, false, true, false, false, false, false, false, false, false, false] rfl rfl (by kernel_rfl) (fun _ _ _ h => h) (Or.inl ⟨by rfl, ?_⟩) ?_ ?_
  rotate_left
  · intro w'
    go_simp
    with_reducible rfl
  rotate_left
  · simp only [Act.put, List.setIfInBounds_toArray, List.set_cons_zero, List.set_cons_succ, i64_w, i32_w]
    rfl
  refine take_ (i := 4) (N := some 54) (v := ?_) (a' := ?_) #[true, true, true, true, true, true, false, true, false, false, false, false, false, false, false, false] rfl rfl (by kernel_rfl) (fun _ _ _ h => h) (Or.inl ⟨by rfl, ?_⟩) hHeld ?_ ?_
  rotate_left
  · rintro w' ⟨s0, s1, s2, s3, s4, s5⟩
    go_simp
    with_reducible rfl
  rotate_left
  · simp only [Act.put, List.setIfInBounds_toArray, List.set_cons_zero, List.set_cons_succ, i64_w, i32_w]
    rfl
  refine take_ (i := 6) (N := some 56) (v := ?_) (a' := ?_) #[true, true, true, true, true, true, true, true, false, false, false, false, false, false, false, false] rfl rfl (by kernel_rfl) (fun _ _ _ h => h) (Or.inl ⟨by rfl, ?_⟩) hHeld ?_ ?_
  rotate_left
  · rintro w' ⟨s0, s1, s2, s3, s4, s5⟩
    go_simp
    with_reducible rfl
  rotate_left
  · simp only [Act.put, List.setIfInBounds_toArray, List.set_cons_zero, List.set_cons_succ, i64_w, i32_w]
    rfl
  refine take_ (i := 8) (N := some 58) (v := ?_) (a' := ?_) #[true, true, true, true, true, true, true, true, true, false, false, false, false, false, false, false] rfl rfl (by kernel_rfl) (fun _ _ _ h => h) (Or.inl ⟨by rfl, ?_⟩) hHeld ?_ ?_
  rotate_left
  · rintro w' ⟨s0, s1, s2, s3, s4, s5⟩
    go_simp
    with_reducible rfl
  rotate_left
  · simp only [Act.put, List.setIfInBounds_toArray, List.set_cons_zero, List.set_cons_succ, i64_w, i32_w]
    rfl
  refine one_ (i := 9) (N := some 59) #[true, true, true, true, true, true, true, true, true, true, false, false, false, false, false, false] rfl rfl (by kernel_rfl) (by decide) (fun K hK => ?_)
  refine goes_ Try.func40 (by kernel_rfl) rfl #[.slice RA n1 rc, .int .i64 k, .int .i64 z] (by rfl) rfl rfl (by (try simp only [List.map_toArray, List.map_cons, List.map_nil]); first | done | rfl) ?_
  refine (refPutC l k z RA n1 rc HN1.out (Nat.le_trans HB4.out.size HBd4.out.size) HR4.out (by have := HLM.out; have := HM.out; omega)).mono ?_
  rintro e w5 ⟨v5, rfl, ho5, hb5⟩
  refine ⟨_, rfl, ?_⟩
  have HO5 := Aside0.mk ho5
  have HW5 := Aside0.mk (below_then HBd4.out HBd4.out.size hb5)
  have L5 := Aside0.mk (Ld4.out.below hb5)
  obtain ⟨RA5, rc5, e5⟩ := Kd.R_slice HO5.out
  subst e5
  clear ho5 hb5
  have hp0_ := L5.out.p0
  have hp1_ := L5.out.p1
  have hs0_ := L5.out.s0
  have hs1_ := L5.out.s1
  have hs2_ := L5.out.s2
  have hs3_ := L5.out.s3
  have hyb := L5.out.fz (i * 2 + 1)
  refine hK.out _ _ ⟨L5.out.p0, L5.out.p1, L5.out.s0, L5.out.s1, L5.out.s2, L5.out.s3⟩ (fun hHeld => ?_)
  clear hK K
  refine norm_ (a' := ?_) ?_ ?_
  rotate_left
  · show Act.put _ (some 59) _ = _
    simp only [Act.put, List.setIfInBounds_toArray, List.set_cons_zero, List.set_cons_succ, i64_w, i32_w]
    rfl
  refine pure_ (i := 10) (N := some 49) (v := ?_) (a' := ?_) #[true, true, true, true, true, true, true, true, true, true, true, false, false, false, false, false] rfl rfl (by kernel_rfl) (fun _ _ _ h => h) (Or.inl ⟨by rfl, ?_⟩) ?_ ?_
  rotate_left
  · intro w'
    go_simp
    with_reducible rfl
  rotate_left
  · simp only [Act.put, List.setIfInBounds_toArray, List.set_cons_zero, List.set_cons_succ, i64_w, i32_w]
    rfl
  refine pure_ (i := 11) (N := some 60) (v := ?_) (a' := ?_) #[true, true, true, true, true, true, true, true, true, true, true, true, false, false, false, false] rfl rfl (by kernel_rfl) (fun _ _ _ h => h) (Or.inl ⟨by rfl, ?_⟩) ?_ ?_
  rotate_left
  · intro w'
    go_simp
    with_reducible rfl
  rotate_left
  · simp only [Act.put, List.setIfInBounds_toArray, List.set_cons_zero, List.set_cons_succ, i64_w, i32_w]
    rfl
  refine pure_ (i := 12) (N := some 61) (v := ?_) (a' := ?_) #[true, true, true, true, true, true, true, true, true, true, true, true, true, false, false, false] rfl rfl (by kernel_rfl) (fun _ _ _ h => h) (Or.inl ⟨by rfl, ?_⟩) ?_ ?_
  rotate_left
  · intro w'
    go_simp
    with_reducible rfl
  rotate_left
  · simp only [Act.put, List.setIfInBounds_toArray, List.set_cons_zero, List.set_cons_succ, i64_w, i32_w]
    rfl
  refine pure_ (i := 13) (N := some 62) (v := ?_) (a' := ?_) #[true, true, true, true, true, true, true, true, true, true, true, true, true, true, false, false] rfl rfl (by kernel_rfl) (fun _ _ _ h => h) (Or.inl ⟨by rfl, ?_⟩) ?_ ?_
  rotate_left
  · intro w'
    go_simp
    with_reducible rfl
  rotate_left
  · simp only [Act.put, List.setIfInBounds_toArray, List.set_cons_zero, List.set_cons_succ, i64_w, i32_w]
    rfl
  refine pure_ (i := 14) (N := some 63) (v := ?_) (a' := ?_) #[true, true, true, true, true, true, true, true, true, true, true, true, true, true, true, false] rfl rfl (by kernel_rfl) (fun _ _ _ h => h) (Or.inl ⟨by rfl, ?_⟩) ?_ ?_
  rotate_left
  · intro w'
    go_simp
    with_reducible rfl
  rotate_left
  · simp only [Act.put, List.setIfInBounds_toArray, List.set_cons_zero, List.set_cons_succ, i64_w, i32_w]
    rfl
  refine last_ (i := 15) (N := none) #[true, true, true, true, true, true, true, true, true, true, true, true, true, true, true, true] rfl rfl (by kernel_rfl) (by decide) (fun K hK => ?_)
  refine skip_ (w1 := ?_) (by rfl) rfl ?_ ?_
  rotate_left
  · go_simp
    rfl
  refine hK.out _ _ ?_
  clear hK K
  refine done_ (by kernel_rfl) ?_
  go_wp2
  go_ret2
  have e0 := HNP.out
  subst e0
  obtain ⟨f1, f2, f3⟩ := doesClose (i := i) HB.out HST.out HPI.out HW3.out HF4.out HT4.out HB4.out HW5.out HO5.out (it.srt_put HSL.out k z) (by have := it.len_put l k z; have := HLM.out; omega)
  rw [List.length_map] at f1 f2 f3
  exact ⟨.slice (some ⟨b, 0, none⟩) ps.length cap, _, by simp, f1, f2, f3⟩
theorem doesDel {w0 w : World} {m : Nat} {v : Value} {ps : List (Nat × List S80)} (hB : Below w0.heap.size w0 w) (h : St w w0.heap.size m v ps) (on k z : Int) (i : Nat) (hpk : scruplelaw05_pick.f on (ps.length : Int) = some (i : Int)) (hi : i < ps.length) (hm : (m + 4) * 16 ≤ 140737488355328) :
    Calls Try.prog 27 #[v, .agg #[.int .i64 2, .int .i64 on, .int .i64 k, .int .i64 z]] w fun e w' => ∃ (v' : Value) (ps' : List (Nat × List S80)), e = .returned (.tuple #[v', .bool true]) ∧ St w' w0.heap.size (m + 1) v' ps' ∧ Below w0.heap.size w0 w' ∧ FrT v v' w w' := by
  obtain ⟨b, cap, g, l, A, c, RA, rc, rfl, hpi, hbg, hsl, hlm, hT, hcb, hbb, hc0, hc1, hR⟩ := h.at_ i hi
  have hu60 := Try.underlying60
  have HP := Aside0.mk hpk
  have HF := Aside0.mk (it.ref_find l k (by omega))
  have HST := Aside0.mk h
  have HT := Aside0.mk hT
  have HR := Aside0.mk hR
  have HPI := Aside0.mk hpi
  have HSL := Aside0.mk hsl
  have HLM := Aside0.mk hlm
  have HCB := Aside0.mk hcb
  have HM := Aside0.mk hm
  have HBG := Aside0.mk hbg
  have HB := Aside0.mk hB
  have hcap := (Kd.R_reads' h.row).2.1
  have hle := it.fnd_le k l
  have HLE := Aside0.mk hle
  generalize hn1 : (l.map it.r5).length = n1 at *
  have HN1 := Aside0.mk hn1
  generalize hnp : ps.length = np at *
  have HNP := Aside0.mk hnp
  have hi0 : 0 ≤ (i : Int) := by omega
  have hi1 : (i : Int) < (np : Int) := by omega
  have hi2 : decide (i < np) = true := decide_eq_true hi
  clear hpk h hT hR hpi hsl hlm hcb hm hbg hB hbb hn1 hnp hcap hle
  go_enter Try.func27, Try.ntmps27
  go_wp2_with (first | ((with_reducible refine gate_dst (N := 3) rfl ?_); refine box_event ?hg (N := 3) ?hd (cs := #[.int .i64 2, .int .i64 on, .int .i64 k, .int .i64 z]) (t := 60) ?hr ?_; (case hd => rfl); (case hg => rfl); (case hr => first | (go_simp; done) | (go_simp; rfl)); intro gs hg w1 hbox hb; have HB1 := Aside0.mk hb; have L1 := Aside0.mk (show Lay w1 b i g RA n1 rc gs 2 on k z from ⟨(hb.cell (World.block_lt_of_cell? w _ hc0)).trans hc0, (hb.cell (World.block_lt_of_cell? w _ hc1)).trans hc1, hbox, by obtain ⟨cells, hc⟩ := HCB.out; exact ⟨cells, blk_below hc hb⟩⟩); clear hg hbox hb hc0 hc1; have hp0_ := L1.out.p0; have hp1_ := L1.out.p1; have hs0_ := L1.out.s0; have hs1_ := L1.out.s1; have hs2_ := L1.out.s2; have hs3_ := L1.out.s3) | (go_at_call 39; refine (scruplelaw05_pick.calls on (np : Int) (i : Int) _ HP.out).mono ?_; rintro e_ w2 ⟨rfl, hd⟩; have HB2 := Aside0.mk (below_then HB1.out HB1.out.size hd.below); have L2 := Aside0.mk (L1.out.below hd.below); clear hd; clear hp0_ hp1_ hs0_ hs1_ hs2_ hs3_; have hp0_ := L2.out.p0; have hp1_ := L2.out.p1; have hs0_ := L2.out.s0; have hs1_ := L2.out.s1; have hs2_ := L2.out.s2; have hs3_ := L2.out.s3))
  refine start_ (n := 12) (S := fun w' => w'.cell? ⟨b, i * 2, none⟩ = some (.pointer (some ⟨g, 0, none⟩)) ∧ w'.cell? ⟨b, i * 2 + 1, none⟩ = some (.slice RA n1 rc) ∧ w'.cell? ⟨gs, 0, none⟩ = some (.int .i64 2) ∧ w'.cell? ⟨gs, 1, none⟩ = some (.int .i64 on) ∧ w'.cell? ⟨gs, 2, none⟩ = some (.int .i64 k) ∧ w'.cell? ⟨gs, 3, none⟩ = some (.int .i64 z)) (ds := []) #[false, false, false, false, false, false, false, false, false, false, false, false] (by kernel_rfl) rfl rfl ⟨(L2.out.below (below_drew (Below.refl _ _))).p0, (L2.out.below (below_drew (Below.refl _ _))).p1, (L2.out.below (below_drew (Below.refl _ _))).s0, (L2.out.below (below_drew (Below.refl _ _))).s1, (L2.out.below (below_drew (Below.refl _ _))).s2, (L2.out.below (below_drew (Below.refl _ _))).s3⟩ (fun hHeld => ?_)
  generalize hwd : w2.drew = wd2 at hHeld ⊢
  have Ld2 := Aside0.mk (hwd ▸ (L2.out.below (below_drew (Below.refl _ _))))
  have HBd2 := Aside0.mk (hwd ▸ (below_drew HB2.out))
  clear hwd
  clear hp0_ hp1_ hs0_ hs1_ hs2_ hs3_
  refine pure_ (i := 0) (N := some 27) (v := ?_) (a' := ?_) #[true, false, false, false, false, false, false, false, false, false, false, false] rfl rfl (by kernel_rfl) (fun _ _ _ h => h) (Or.inl ⟨by rfl, ?_⟩) ?_ ?_
  rotate_left
  · intro w'
    go_simp
    with_reducible rfl
  rotate_left
  · simp only [Act.put, List.setIfInBounds_toArray, List.set_cons_zero, List.set_cons_succ, i64_w, i32_w]
    rfl
  refine pure_ (i := 1) (N := some 28) (v := ?_) (a' := ?_) #[true, true, false, false, false, false, false, false, false, false, false, false] rfl rfl (by kernel_rfl) (fun _ _ _ h => h) (Or.inl ⟨by rfl, ?_⟩) ?_ ?_
  rotate_left
  · intro w'
    go_simp
    with_reducible rfl
  rotate_left
  · simp only [Act.put, List.setIfInBounds_toArray, List.set_cons_zero, List.set_cons_succ, i64_w, i32_w]
    rfl
  refine pure_ (i := 2) (N := some 29) (v := ?_) (a' := ?_) #[true, true, true, false, false, false, false, false, false, false, false, false] rfl rfl (by kernel_rfl) (fun _ _ _ h => h) (Or.inl ⟨by rfl, ?_⟩) ?_ ?_
  rotate_left
  · intro w'
    go_simp
    with_reducible rfl
  rotate_left
  · simp only [Act.put, List.setIfInBounds_toArray, List.set_cons_zero, List.set_cons_succ, i64_w, i32_w]
    rfl
  refine pure_ (i := 4) (N := some 31) (v := ?_) (a' := ?_) #[true, true, true, false, true, false, false, false, false, false, false, false] rfl rfl (by kernel_rfl) (fun _ _ _ h => h) (Or.inl ⟨by rfl, ?_⟩) ?_ ?_
  rotate_left
  · intro w'
    go_simp
    with_reducible rfl
  rotate_left
  · simp only [Act.put, List.setIfInBounds_toArray, List.set_cons_zero, List.set_cons_succ, i64_w, i32_w]
    rfl
  refine take_ (i := 3) (N := some 30) (v := ?_) (a' := ?_) #[true, true, true, true, true, false, false, false, false, false, false, false] rfl rfl (by kernel_rfl) (fun _ _ _ h => h) (Or.inl ⟨by rfl, ?_⟩) hHeld ?_ ?_
  rotate_left
  · rintro w' ⟨s0, s1, s2, s3, s4, s5⟩
    go_simp
    with_reducible rfl
  rotate_left
  · simp only [Act.put, List.setIfInBounds_toArray, List.set_cons_zero, List.set_cons_succ, i64_w, i32_w]
    rfl
  refine take_ (i := 5) (N := some 32) (v := ?_) (a' := ?_) #[true, true, true, true, true, true, false, false, false, false, false, false] rfl rfl (by kernel_rfl) (fun _ _ _ h => h) (Or.inl ⟨by rfl, ?_⟩) hHeld ?_ ?_
  rotate_left
  · rintro w' ⟨s0, s1, s2, s3, s4, s5⟩
    go_simp
    with_reducible rfl
  rotate_left
  · simp only [Act.put, List.setIfInBounds_toArray, List.set_cons_zero, List.set_cons_succ, i64_w, i32_w]
    rfl
  refine one_ (i := 6) (N := some 33) #[true, true, true, true, true, true, true, false, false, false, false, false] rfl rfl (by kernel_rfl) (by decide) (fun K hK => ?_)
  refine goes_ Try.func16 (by kernel_rfl) rfl #[.slice RA n1 rc, .int .i64 k] (by rfl) rfl rfl (by (try simp only [List.map_toArray, List.map_cons, List.map_nil]); first | done | rfl) ?_
  refine (refFindC l k RA n1 rc HN1.out (Kd.R_below HR.out HBd2.out) HF.out).mono ?_
  rintro e w3 ⟨rfl, hd⟩
  refine ⟨_, rfl, ?_⟩
  have HB3 := Aside0.mk (below_then HBd2.out HBd2.out.size hd.below)
  have L3 := Aside0.mk (Ld2.out.below hd.below)
  clear hd
  have hp0_ := L3.out.p0
  have hp1_ := L3.out.p1
  have hs0_ := L3.out.s0
  have hs1_ := L3.out.s1
  have hs2_ := L3.out.s2
  have hs3_ := L3.out.s3
  refine hK.out _ _ ⟨L3.out.p0, L3.out.p1, L3.out.s0, L3.out.s1, L3.out.s2, L3.out.s3⟩ (fun hHeld => ?_)
  clear hK K
  refine norm_ (a' := ?_) ?_ ?_
  rotate_left
  · show Act.put _ (some 33) _ = _
    simp only [Act.put, List.setIfInBounds_toArray, List.set_cons_zero, List.set_cons_succ, i64_w, i32_w]
    rfl
  refine pure_ (i := 7) (N := some 26) (v := ?_) (a' := ?_) #[true, true, true, true, true, true, true, true, false, false, false, false] rfl rfl (by kernel_rfl) (fun _ _ _ h => h) (Or.inl ⟨by rfl, ?_⟩) ?_ ?_
  rotate_left
  · intro w'
    go_simp
    with_reducible rfl
  rotate_left
  · simp only [Act.put, List.setIfInBounds_toArray, List.set_cons_zero, List.set_cons_succ, i64_w, i32_w]
    rfl
  refine pure_ (i := 8) (N := some 34) (v := ?_) (a' := ?_) #[true, true, true, true, true, true, true, true, true, false, false, false] rfl rfl (by kernel_rfl) (fun _ _ _ h => h) (Or.inl ⟨by rfl, ?_⟩) ?_ ?_
  rotate_left
  · intro w'
    go_simp
    with_reducible rfl
  rotate_left
  · simp only [Act.put, List.setIfInBounds_toArray, List.set_cons_zero, List.set_cons_succ, i64_w, i32_w]
    rfl
  refine pure_ (i := 9) (N := some 35) (v := ?_) (a' := ?_) #[true, true, true, true, true, true, true, true, true, true, false, false] rfl rfl (by kernel_rfl) (fun _ _ _ h => h) (Or.inl ⟨by rfl, ?_⟩) ?_ ?_
  rotate_left
  · intro w'
    go_simp
    with_reducible rfl
  rotate_left
  · simp only [Act.put, List.setIfInBounds_toArray, List.set_cons_zero, List.set_cons_succ, i64_w, i32_w]
    rfl
  refine pure_ (i := 10) (N := some 7) (v := ?_) (a' := ?_) #[true, true, true, true, true, true, true, true, true, true, true, false] rfl rfl (by kernel_rfl) (fun _ _ _ h => h) (Or.inl ⟨by rfl, ?_⟩) ?_ ?_
  rotate_left
  · intro w'
    go_simp
    with_reducible rfl
  rotate_left
  · simp only [Act.put, List.setIfInBounds_toArray, List.set_cons_zero, List.set_cons_succ, i64_w, i32_w]
    rfl
  refine pure_ (i := 11) (N := some 8) (v := ?_) (a' := ?_) #[true, true, true, true, true, true, true, true, true, true, true, true] rfl rfl (by kernel_rfl) (fun _ _ _ h => h) (Or.inl ⟨by rfl, ?_⟩) ?_ ?_
  rotate_left
  · intro w'
    go_simp
    with_reducible rfl
  rotate_left
  · simp only [Act.put, List.setIfInBounds_toArray, List.set_cons_zero, List.set_cons_succ, i64_w, i32_w]
    rfl
  refine done_ (by kernel_rfl) ?_
  try go_wp2
  refine start_ (n := 8) (S := fun w' => w'.cell? ⟨b, i * 2, none⟩ = some (.pointer (some ⟨g, 0, none⟩)) ∧ w'.cell? ⟨b, i * 2 + 1, none⟩ = some (.slice RA n1 rc) ∧ w'.cell? ⟨gs, 0, none⟩ = some (.int .i64 2) ∧ w'.cell? ⟨gs, 1, none⟩ = some (.int .i64 on) ∧ w'.cell? ⟨gs, 2, none⟩ = some (.int .i64 k) ∧ w'.cell? ⟨gs, 3, none⟩ = some (.int .i64 z)) (ds := []) #[false, false, false, false, false, false, false, false] (by kernel_rfl) rfl rfl ⟨(L3.out.below (below_drew (Below.refl _ _))).p0, (L3.out.below (below_drew (Below.refl _ _))).p1, (L3.out.below (below_drew (Below.refl _ _))).s0, (L3.out.below (below_drew (Below.refl _ _))).s1, (L3.out.below (below_drew (Below.refl _ _))).s2, (L3.out.below (below_drew (Below.refl _ _))).s3⟩ (fun hHeld => ?_)
  generalize hwd : w3.drew = wd3 at hHeld ⊢
  have Ld3 := Aside0.mk (hwd ▸ (L3.out.below (below_drew (Below.refl _ _))))
  have HBd3 := Aside0.mk (hwd ▸ (below_drew HB3.out))
  clear hwd
  clear hp0_ hp1_ hs0_ hs1_ hs2_ hs3_
  refine pure_ (i := 0) (N := some 70) (v := ?_) (a' := ?_) #[true, false, false, false, false, false, false, false] rfl rfl (by kernel_rfl) (fun _ _ _ h => h) (Or.inl ⟨by rfl, ?_⟩) ?_ ?_
  rotate_left
  · intro w'
    go_simp
    with_reducible rfl
  rotate_left
  · simp only [Act.put, List.setIfInBounds_toArray, List.set_cons_zero, List.set_cons_succ, i64_w, i32_w]
    rfl
  refine pure_ (i := 1) (N := some 71) (v := ?_) (a' := ?_) #[true, true, false, false, false, false, false, false] rfl rfl (by kernel_rfl) (fun _ _ _ h => h) (Or.inl ⟨by rfl, ?_⟩) ?_ ?_
  rotate_left
  · intro w'
    go_simp
    with_reducible rfl
  rotate_left
  · simp only [Act.put, List.setIfInBounds_toArray, List.set_cons_zero, List.set_cons_succ, i64_w, i32_w]
    rfl
  refine pure_ (i := 2) (N := some 72) (v := ?_) (a' := ?_) #[true, true, true, false, false, false, false, false] rfl rfl (by kernel_rfl) (fun _ _ _ h => h) (Or.inl ⟨by rfl, ?_⟩) ?_ ?_
  rotate_left
  · intro w'
    go_simp
    with_reducible rfl
  rotate_left
  · simp only [Act.put, List.setIfInBounds_toArray, List.set_cons_zero, List.set_cons_succ, i64_w, i32_w]
    rfl
  refine pure_ (i := 4) (N := some 74) (v := ?_) (a' := ?_) #[true, true, true, false, true, false, false, false] rfl rfl (by kernel_rfl) (fun _ _ _ h => h) (Or.inl ⟨by rfl, ?_⟩) ?_ ?_
  rotate_left
  · intro w'
    go_simp
    with_reducible rfl
  rotate_left
  · simp only [Act.put, List.setIfInBounds_toArray, List.set_cons_zero, List.set_cons_succ, i64_w, i32_w]
    rfl
  refine take_ (i := 3) (N := some 73) (v := ?_) (a' := ?_) #[true, true, true, true, true, false, false, false] rfl rfl (by kernel_rfl) (fun _ _ _ h => h) (Or.inl ⟨by rfl, ?_⟩) hHeld ?_ ?_
  rotate_left
  · rintro w' ⟨s0, s1, s2, s3, s4, s5⟩
    go_simp
    with_reducible rfl
  rotate_left
  · simp only [Act.put, List.setIfInBounds_toArray, List.set_cons_zero, List.set_cons_succ, i64_w, i32_w]
    rfl
  refine take_ (i := 5) (N := some 75) (v := ?_) (a' := ?_) #[true, true, true, true, true, true, false, false] rfl rfl (by kernel_rfl) (fun _ _ _ h => h) (Or.inl ⟨by rfl, ?_⟩) hHeld ?_ ?_
  rotate_left
  · rintro w' ⟨s0, s1, s2, s3, s4, s5⟩
    go_simp
    with_reducible rfl
  rotate_left
  · simp only [Act.put, List.setIfInBounds_toArray, List.set_cons_zero, List.set_cons_succ, i64_w, i32_w]
    rfl
  refine one_ (i := 6) (N := some 76) #[true, true, true, true, true, true, true, false] rfl rfl (by kernel_rfl) (by decide) (fun K hK => ?_)
  refine goes_ Try.func22 (by kernel_rfl) rfl #[.pointer (some ⟨g, 0, none⟩), .int .i64 k] (by rfl) rfl rfl (by (try simp only [List.map_toArray, List.map_cons, List.map_nil]); first | done | rfl) ?_
  refine (it.delT (below_then HB.out HB.out.size HBd3.out) HBG.out (HT.out.below HBd3.out) HSL.out k (by have := HLM.out; have := HM.out; omega)).mono ?_
  rintro e w4 ⟨A4, c4, rfl, ht4, hf4, hb4⟩
  refine ⟨_, rfl, ?_⟩
  have HT4 := Aside0.mk ht4
  have HF4 := Aside0.mk hf4
  have HB4 := Aside0.mk hb4
  have HW3 := Aside0.mk HBd3.out
  have L4 := Aside0.mk (Ld3.out.fr hf4 ⟨_, (HT.out.below HBd3.out).cel⟩)
  clear ht4 hf4 hb4
  have hp0_ := L4.out.p0
  have hp1_ := L4.out.p1
  have hs0_ := L4.out.s0
  have hs1_ := L4.out.s1
  have hs2_ := L4.out.s2
  have hs3_ := L4.out.s3
  refine hK.out _ _ ⟨L4.out.p0, L4.out.p1, L4.out.s0, L4.out.s1, L4.out.s2, L4.out.s3⟩ (fun hHeld => ?_)
  clear hK K
  refine norm_ (a' := ?_) ?_ ?_
  rotate_left
  · show Act.put _ (some 76) _ = _
    simp only [Act.put, List.setIfInBounds_toArray, List.set_cons_zero, List.set_cons_succ, i64_w, i32_w]
    rfl
  refine pure_ (i := 7) (N := some 10) (v := ?_) (a' := ?_) #[true, true, true, true, true, true, true, true] rfl rfl (by kernel_rfl) (fun _ _ _ h => h) (Or.inl ⟨by rfl, ?_⟩) ?_ ?_
  rotate_left
  · intro w'
    go_simp
    with_reducible rfl
  rotate_left
  · simp only [Act.put, List.setIfInBounds_toArray, List.set_cons_zero, List.set_cons_succ, i64_w, i32_w]
    rfl
  refine done_ (by kernel_rfl) ?_
  try go_wp2
  refine start_ (n := 14) (S := fun w' => w'.cell? ⟨b, i * 2, none⟩ = some (.pointer (some ⟨g, 0, none⟩)) ∧ w'.cell? ⟨b, i * 2 + 1, none⟩ = some (.slice RA n1 rc) ∧ w'.cell? ⟨gs, 0, none⟩ = some (.int .i64 2) ∧ w'.cell? ⟨gs, 1, none⟩ = some (.int .i64 on) ∧ w'.cell? ⟨gs, 2, none⟩ = some (.int .i64 k) ∧ w'.cell? ⟨gs, 3, none⟩ = some (.int .i64 z)) (ds := [13]) #[false, false, false, false, false, false, false, false, false, false, false, false, false, false] (by kernel_rfl) rfl rfl ⟨(L4.out.below (below_drew (Below.refl _ _))).p0, (L4.out.below (below_drew (Below.refl _ _))).p1, (L4.out.below (below_drew (Below.refl _ _))).s0, (L4.out.below (below_drew (Below.refl _ _))).s1, (L4.out.below (below_drew (Below.refl _ _))).s2, (L4.out.below (below_drew (Below.refl _ _))).s3⟩ (fun hHeld => ?_)
  generalize hwd : w4.drew = wd4 at hHeld ⊢
  have Ld4 := Aside0.mk (hwd ▸ (L4.out.below (below_drew (Below.refl _ _))))
  have HBd4 := Aside0.mk (hwd ▸ (below_drew (Below.refl w4.heap.size w4)))
  clear hwd
  clear hp0_ hp1_ hs0_ hs1_ hs2_ hs3_
  have HR4 := Aside0.mk (Kd.R_below (it.Fr.rowk HF4.out (HT.out.below HW3.out).cel (Kd.R_below HR.out HW3.out) (by decide)) HBd4.out)
  refine pure_ (i := 0) (N := some 78) (v := ?_) (a' := ?_) #[true, false, false, false, false, false, false, false, false, false, false, false, false, false] rfl rfl (by kernel_rfl) (fun _ _ _ h => h) (Or.inl ⟨by rfl, ?_⟩) ?_ ?_
  rotate_left
  · intro w'
    go_simp
    with_reducible rfl
  rotate_left
  · simp only [Act.put, List.setIfInBounds_toArray, List.set_cons_zero, List.set_cons_succ, i64_w, i32_w]
    rfl
  refine pure_ (i := 1) (N := some 79) (v := ?_) (a' := ?_) #[true, true, false, false, false, false, false, false, false, false, false, false, false, false] rfl rfl (by kernel_rfl) (fun _ _ _ h => h) (Or.inl ⟨by rfl, ?_⟩) ?_ ?_
  rotate_left
  · intro w'
    go_simp
    with_reducible rfl
  rotate_left
  · simp only [Act.put, List.setIfInBounds_toArray, List.set_cons_zero, List.set_cons_succ, i64_w, i32_w]
    rfl
  refine pure_ (i := 2) (N := some 80) (v := ?_) (a' := ?_) #[true, true, true, false, false, false, false, false, false, false, false, false, false, false] rfl rfl (by kernel_rfl) (fun _ _ _ h => h) (Or.inl ⟨by rfl, ?_⟩) ?_ ?_
  rotate_left
  · intro w'
    go_simp
    with_reducible rfl
  rotate_left
  · simp only [Act.put, List.setIfInBounds_toArray, List.set_cons_zero, List.set_cons_succ, i64_w, i32_w]
    rfl
  refine pure_ (i := 3) (N := some 81) (v := ?_) (a' := ?_) #[true, true, true, true, false, false, false, false, false, false, false, false, false, false] rfl rfl (by kernel_rfl) (fun _ _ _ h => h) (Or.inl ⟨by rfl, ?_⟩) ?_ ?_
  rotate_left
  · intro w'
    go_simp
    with_reducible rfl
  rotate_left
  · simp only [Act.put, List.setIfInBounds_toArray, List.set_cons_zero, List.set_cons_succ, i64_w, i32_w]
    rfl
  refine pure_ (i := 5) (N := some 83) (v := ?_) (a' := ?_) #[true, true, true, true, false, true, false, false, false, false, false, false, false, false] rfl rfl (by kernel_rfl) (fun _ _ _ h => h) (Or.inl ⟨by rfl, ?_⟩) ?_ ?_
  rotate_left
  · intro w'
    go_simp
    with_reducible rfl
  rotate_left
  · simp only [Act.put, List.setIfInBounds_toArray, List.set_cons_zero, List.set_cons_succ, i64_w, i32_w]
    rfl
  refine take_ (i := 4) (N := some 82) (v := ?_) (a' := ?_) #[true, true, true, true, true, true, false, false, false, false, false, false, false, false] rfl rfl (by kernel_rfl) (fun _ _ _ h => h) (Or.inl ⟨by rfl, ?_⟩) hHeld ?_ ?_
  rotate_left
  · rintro w' ⟨s0, s1, s2, s3, s4, s5⟩
    go_simp
    with_reducible rfl
  rotate_left
  · simp only [Act.put, List.setIfInBounds_toArray, List.set_cons_zero, List.set_cons_succ, i64_w, i32_w]
    rfl
  refine take_ (i := 6) (N := some 84) (v := ?_) (a' := ?_) #[true, true, true, true, true, true, true, false, false, false, false, false, false, false] rfl rfl (by kernel_rfl) (fun _ _ _ h => h) (Or.inl ⟨by rfl, ?_⟩) hHeld ?_ ?_
  rotate_left
  · rintro w' ⟨s0, s1, s2, s3, s4, s5⟩
    go_simp
    with_reducible rfl
  rotate_left
  · simp only [Act.put, List.setIfInBounds_toArray, List.set_cons_zero, List.set_cons_succ, i64_w, i32_w]
    rfl
  refine one_ (i := 7) (N := some 85) #[true, true, true, true, true, true, true, true, false, false, false, false, false, false] rfl rfl (by kernel_rfl) (by decide) (fun K hK => ?_)
  refine goes_ Try.func41 (by kernel_rfl) rfl #[.slice RA n1 rc, .int .i64 k] (by rfl) rfl rfl (by (try simp only [List.map_toArray, List.map_cons, List.map_nil]); first | done | rfl) ?_
  refine (refDelC l k RA n1 rc HN1.out (Nat.le_trans HB4.out.size HBd4.out.size) HR4.out (by have := HLM.out; have := HM.out; omega)).mono ?_
  rintro e w5 ⟨v5, rfl, ho5, hb5⟩
  refine ⟨_, rfl, ?_⟩
  have HO5 := Aside0.mk ho5
  have HW5 := Aside0.mk (below_then HBd4.out HBd4.out.size hb5)
  have L5 := Aside0.mk (Ld4.out.below hb5)
  obtain ⟨RA5, rc5, e5⟩ := Kd.R_slice HO5.out
  subst e5
  clear ho5 hb5
  have hp0_ := L5.out.p0
  have hp1_ := L5.out.p1
  have hs0_ := L5.out.s0
  have hs1_ := L5.out.s1
  have hs2_ := L5.out.s2
  have hs3_ := L5.out.s3
  have hyb := L5.out.fz (i * 2 + 1)
  refine hK.out _ _ ⟨L5.out.p0, L5.out.p1, L5.out.s0, L5.out.s1, L5.out.s2, L5.out.s3⟩ (fun hHeld => ?_)
  clear hK K
  refine norm_ (a' := ?_) ?_ ?_
  rotate_left
  · show Act.put _ (some 85) _ = _
    simp only [Act.put, List.setIfInBounds_toArray, List.set_cons_zero, List.set_cons_succ, i64_w, i32_w]
    rfl
  refine pure_ (i := 8) (N := some 77) (v := ?_) (a' := ?_) #[true, true, true, true, true, true, true, true, true, false, false, false, false, false] rfl rfl (by kernel_rfl) (fun _ _ _ h => h) (Or.inl ⟨by rfl, ?_⟩) ?_ ?_
  rotate_left
  · intro w'
    go_simp
    with_reducible rfl
  rotate_left
  · simp only [Act.put, List.setIfInBounds_toArray, List.set_cons_zero, List.set_cons_succ, i64_w, i32_w]
    rfl
  refine pure_ (i := 9) (N := some 86) (v := ?_) (a' := ?_) #[true, true, true, true, true, true, true, true, true, true, false, false, false, false] rfl rfl (by kernel_rfl) (fun _ _ _ h => h) (Or.inl ⟨by rfl, ?_⟩) ?_ ?_
  rotate_left
  · intro w'
    go_simp
    with_reducible rfl
  rotate_left
  · simp only [Act.put, List.setIfInBounds_toArray, List.set_cons_zero, List.set_cons_succ, i64_w, i32_w]
    rfl
  refine pure_ (i := 10) (N := some 87) (v := ?_) (a' := ?_) #[true, true, true, true, true, true, true, true, true, true, true, false, false, false] rfl rfl (by kernel_rfl) (fun _ _ _ h => h) (Or.inl ⟨by rfl, ?_⟩) ?_ ?_
  rotate_left
  · intro w'
    go_simp
    with_reducible rfl
  rotate_left
  · simp only [Act.put, List.setIfInBounds_toArray, List.set_cons_zero, List.set_cons_succ, i64_w, i32_w]
    rfl
  refine pure_ (i := 11) (N := some 88) (v := ?_) (a' := ?_) #[true, true, true, true, true, true, true, true, true, true, true, true, false, false] rfl rfl (by kernel_rfl) (fun _ _ _ h => h) (Or.inl ⟨by rfl, ?_⟩) ?_ ?_
  rotate_left
  · intro w'
    go_simp
    with_reducible rfl
  rotate_left
  · simp only [Act.put, List.setIfInBounds_toArray, List.set_cons_zero, List.set_cons_succ, i64_w, i32_w]
    rfl
  refine pure_ (i := 12) (N := some 89) (v := ?_) (a' := ?_) #[true, true, true, true, true, true, true, true, true, true, true, true, true, false] rfl rfl (by kernel_rfl) (fun _ _ _ h => h) (Or.inl ⟨by rfl, ?_⟩) ?_ ?_
  rotate_left
  · intro w'
    go_simp
    with_reducible rfl
  rotate_left
  · simp only [Act.put, List.setIfInBounds_toArray, List.set_cons_zero, List.set_cons_succ, i64_w, i32_w]
    rfl
  refine last_ (i := 13) (N := none) #[true, true, true, true, true, true, true, true, true, true, true, true, true, true] rfl rfl (by kernel_rfl) (by decide) (fun K hK => ?_)
  refine skip_ (w1 := ?_) (by rfl) rfl ?_ ?_
  rotate_left
  · go_simp
    rfl
  refine hK.out _ _ ?_
  clear hK K
  refine done_ (by kernel_rfl) ?_
  go_wp2
  go_ret2
  have e0 := HNP.out
  subst e0
  obtain ⟨f1, f2, f3⟩ := doesClose (i := i) HB.out HST.out HPI.out HW3.out HF4.out HT4.out HB4.out HW5.out HO5.out (it.srt_del HSL.out k) (by have := it.len_del l k; have := HLM.out; omega)
  rw [List.length_map] at f1 f2 f3
  exact ⟨.slice (some ⟨b, 0, none⟩) ps.length cap, _, by simp, f1, f2, f3⟩
theorem St.more {w : World} {base m : Nat} {v : Value} {ps : List (Nat × List S80)} (h : St w base m v ps) : St w base (m + 1) v ps :=
  ⟨h.row, fun p hp => by obtain ⟨h1, h2, h3, h4⟩ := h.tab p hp; exact ⟨h1, h2, by omega, h4⟩, h.one, h.lo, h.hi⟩
theorem doesGetN {w0 w : World} {m : Nat} {v : Value} {ps : List (Nat × List S80)} (hB : Below w0.heap.size w0 w) (h : St w w0.heap.size m v ps) (on k z : Int) (i : Nat) (hpk : scruplelaw05_pick.f on (ps.length : Int) = some (i : Int)) (hi : i < ps.length) (hm : (m + 4) * 16 ≤ 140737488355328) (htb : ∀ g l, ps[i]? = some (g, l) → it.has l k = false) :
    Calls Try.prog 27 #[v, .agg #[.int .i64 3, .int .i64 on, .int .i64 k, .int .i64 z]] w fun e w' => ∃ (v' : Value) (ps' : List (Nat × List S80)), e = .returned (.tuple #[v', .bool true]) ∧ St w' w0.heap.size (m + 1) v' ps' ∧ Below w0.heap.size w0 w' ∧ FrT v v' w w' := by
  obtain ⟨b, cap, g, l, A, c, RA, rc, rfl, hpi, hbg, hsl, hlm, hT, hcb, hbb, hc0, hc1, hR⟩ := h.at_ i hi
  have hu60 := Try.underlying60
  have HP := Aside0.mk hpk
  have HF := Aside0.mk (it.ref_find l k (by omega))
  have HST := Aside0.mk h
  have HT := Aside0.mk hT
  have HR := Aside0.mk hR
  have HPI := Aside0.mk hpi
  have HSL := Aside0.mk hsl
  have HLM := Aside0.mk hlm
  have HCB := Aside0.mk hcb
  have HM := Aside0.mk hm
  have HBG := Aside0.mk hbg
  have HB := Aside0.mk hB
  have hcap := (Kd.R_reads' h.row).2.1
  have hle := it.fnd_le k l
  have HLE := Aside0.mk hle
  generalize hn1 : (l.map it.r5).length = n1 at *
  have HN1 := Aside0.mk hn1
  generalize hnp : ps.length = np at *
  have HNP := Aside0.mk hnp
  have hi0 : 0 ≤ (i : Int) := by omega
  have hi1 : (i : Int) < (np : Int) := by omega
  have hi2 : decide (i < np) = true := decide_eq_true hi
  clear hpk h hT hR hpi hsl hlm hcb hm hbg hB hbb hn1 hnp hcap hle
  have hh := htb g l HPI.out
  clear htb
  go_enter Try.func27, Try.ntmps27
  go_wp2_with (first | ((with_reducible refine gate_dst (N := 3) rfl ?_); refine box_event ?hg (N := 3) ?hd (cs := #[.int .i64 3, .int .i64 on, .int .i64 k, .int .i64 z]) (t := 60) ?hr ?_; (case hd => rfl); (case hg => rfl); (case hr => first | (go_simp; done) | (go_simp; rfl)); intro gs hg w1 hbox hb; have HB1 := Aside0.mk hb; have L1 := Aside0.mk (show Lay w1 b i g RA n1 rc gs 3 on k z from ⟨(hb.cell (World.block_lt_of_cell? w _ hc0)).trans hc0, (hb.cell (World.block_lt_of_cell? w _ hc1)).trans hc1, hbox, by obtain ⟨cells, hc⟩ := HCB.out; exact ⟨cells, blk_below hc hb⟩⟩); clear hg hbox hb hc0 hc1; have hp0_ := L1.out.p0; have hp1_ := L1.out.p1; have hs0_ := L1.out.s0; have hs1_ := L1.out.s1; have hs2_ := L1.out.s2; have hs3_ := L1.out.s3) | (go_at_call 39; refine (scruplelaw05_pick.calls on (np : Int) (i : Int) _ HP.out).mono ?_; rintro e_ w2 ⟨rfl, hd⟩; have HB2 := Aside0.mk (below_then HB1.out HB1.out.size hd.below); have L2 := Aside0.mk (L1.out.below hd.below); clear hd; clear hp0_ hp1_ hs0_ hs1_ hs2_ hs3_; have hp0_ := L2.out.p0; have hp1_ := L2.out.p1; have hs0_ := L2.out.s0; have hs1_ := L2.out.s1; have hs2_ := L2.out.s2; have hs3_ := L2.out.s3))
  refine start_ (n := 12) (S := fun w' => w'.cell? ⟨b, i * 2, none⟩ = some (.pointer (some ⟨g, 0, none⟩)) ∧ w'.cell? ⟨b, i * 2 + 1, none⟩ = some (.slice RA n1 rc) ∧ w'.cell? ⟨gs, 0, none⟩ = some (.int .i64 3) ∧ w'.cell? ⟨gs, 1, none⟩ = some (.int .i64 on) ∧ w'.cell? ⟨gs, 2, none⟩ = some (.int .i64 k) ∧ w'.cell? ⟨gs, 3, none⟩ = some (.int .i64 z)) (ds := []) #[false, false, false, false, false, false, false, false, false, false, false, false] (by kernel_rfl) rfl rfl ⟨(L2.out.below (below_drew (Below.refl _ _))).p0, (L2.out.below (below_drew (Below.refl _ _))).p1, (L2.out.below (below_drew (Below.refl _ _))).s0, (L2.out.below (below_drew (Below.refl _ _))).s1, (L2.out.below (below_drew (Below.refl _ _))).s2, (L2.out.below (below_drew (Below.refl _ _))).s3⟩ (fun hHeld => ?_)
  generalize hwd : w2.drew = wd2 at hHeld ⊢
  have Ld2 := Aside0.mk (hwd ▸ (L2.out.below (below_drew (Below.refl _ _))))
  have HBd2 := Aside0.mk (hwd ▸ (below_drew HB2.out))
  clear hwd
  clear hp0_ hp1_ hs0_ hs1_ hs2_ hs3_
  refine pure_ (i := 0) (N := some 27) (v := ?_) (a' := ?_) #[true, false, false, false, false, false, false, false, false, false, false, false] rfl rfl (by kernel_rfl) (fun _ _ _ h => h) (Or.inl ⟨by rfl, ?_⟩) ?_ ?_
  rotate_left
  · intro w'
    go_simp
    with_reducible rfl
  rotate_left
  · simp only [Act.put, List.setIfInBounds_toArray, List.set_cons_zero, List.set_cons_succ, i64_w, i32_w]
    rfl
  refine pure_ (i := 1) (N := some 28) (v := ?_) (a' := ?_) #[true, true, false, false, false, false, false, false, false, false, false, false] rfl rfl (by kernel_rfl) (fun _ _ _ h => h) (Or.inl ⟨by rfl, ?_⟩) ?_ ?_
  rotate_left
  · intro w'
    go_simp
    with_reducible rfl
  rotate_left
  · simp only [Act.put, List.setIfInBounds_toArray, List.set_cons_zero, List.set_cons_succ, i64_w, i32_w]
    rfl
  refine pure_ (i := 2) (N := some 29) (v := ?_) (a' := ?_) #[true, true, true, false, false, false, false, false, false, false, false, false] rfl rfl (by kernel_rfl) (fun _ _ _ h => h) (Or.inl ⟨by rfl, ?_⟩) ?_ ?_
  rotate_left
  · intro w'
    go_simp
    with_reducible rfl
  rotate_left
  · simp only [Act.put, List.setIfInBounds_toArray, List.set_cons_zero, List.set_cons_succ, i64_w, i32_w]
    rfl
  refine pure_ (i := 4) (N := some 31) (v := ?_) (a' := ?_) #[true, true, true, false, true, false, false, false, false, false, false, false] rfl rfl (by kernel_rfl) (fun _ _ _ h => h) (Or.inl ⟨by rfl, ?_⟩) ?_ ?_
  rotate_left
  · intro w'
    go_simp
    with_reducible rfl
  rotate_left
  · simp only [Act.put, List.setIfInBounds_toArray, List.set_cons_zero, List.set_cons_succ, i64_w, i32_w]
    rfl
  refine take_ (i := 3) (N := some 30) (v := ?_) (a' := ?_) #[true, true, true, true, true, false, false, false, false, false, false, false] rfl rfl (by kernel_rfl) (fun _ _ _ h => h) (Or.inl ⟨by rfl, ?_⟩) hHeld ?_ ?_
  rotate_left
  · rintro w' ⟨s0, s1, s2, s3, s4, s5⟩
    go_simp
    with_reducible rfl
  rotate_left
  · simp only [Act.put, List.setIfInBounds_toArray, List.set_cons_zero, List.set_cons_succ, i64_w, i32_w]
    rfl
  refine take_ (i := 5) (N := some 32) (v := ?_) (a' := ?_) #[true, true, true, true, true, true, false, false, false, false, false, false] rfl rfl (by kernel_rfl) (fun _ _ _ h => h) (Or.inl ⟨by rfl, ?_⟩) hHeld ?_ ?_
  rotate_left
  · rintro w' ⟨s0, s1, s2, s3, s4, s5⟩
    go_simp
    with_reducible rfl
  rotate_left
  · simp only [Act.put, List.setIfInBounds_toArray, List.set_cons_zero, List.set_cons_succ, i64_w, i32_w]
    rfl
  refine one_ (i := 6) (N := some 33) #[true, true, true, true, true, true, true, false, false, false, false, false] rfl rfl (by kernel_rfl) (by decide) (fun K hK => ?_)
  refine goes_ Try.func16 (by kernel_rfl) rfl #[.slice RA n1 rc, .int .i64 k] (by rfl) rfl rfl (by (try simp only [List.map_toArray, List.map_cons, List.map_nil]); first | done | rfl) ?_
  refine (refFindC l k RA n1 rc HN1.out (Kd.R_below HR.out HBd2.out) HF.out).mono ?_
  rintro e w3 ⟨rfl, hd⟩
  refine ⟨_, rfl, ?_⟩
  have HB3 := Aside0.mk (below_then HBd2.out HBd2.out.size hd.below)
  have L3 := Aside0.mk (Ld2.out.below hd.below)
  clear hd
  have hp0_ := L3.out.p0
  have hp1_ := L3.out.p1
  have hs0_ := L3.out.s0
  have hs1_ := L3.out.s1
  have hs2_ := L3.out.s2
  have hs3_ := L3.out.s3
  refine hK.out _ _ ⟨L3.out.p0, L3.out.p1, L3.out.s0, L3.out.s1, L3.out.s2, L3.out.s3⟩ (fun hHeld => ?_)
  clear hK K
  refine norm_ (a' := ?_) ?_ ?_
  rotate_left
  · show Act.put _ (some 33) _ = _
    simp only [Act.put, List.setIfInBounds_toArray, List.set_cons_zero, List.set_cons_succ, i64_w, i32_w]
    rfl
  refine pure_ (i := 7) (N := some 26) (v := ?_) (a' := ?_) #[true, true, true, true, true, true, true, true, false, false, false, false] rfl rfl (by kernel_rfl) (fun _ _ _ h => h) (Or.inl ⟨by rfl, ?_⟩) ?_ ?_
  rotate_left
  · intro w'
    go_simp
    with_reducible rfl
  rotate_left
  · simp only [Act.put, List.setIfInBounds_toArray, List.set_cons_zero, List.set_cons_succ, i64_w, i32_w]
    rfl
  refine pure_ (i := 8) (N := some 34) (v := ?_) (a' := ?_) #[true, true, true, true, true, true, true, true, true, false, false, false] rfl rfl (by kernel_rfl) (fun _ _ _ h => h) (Or.inl ⟨by rfl, ?_⟩) ?_ ?_
  rotate_left
  · intro w'
    go_simp
    with_reducible rfl
  rotate_left
  · simp only [Act.put, List.setIfInBounds_toArray, List.set_cons_zero, List.set_cons_succ, i64_w, i32_w]
    rfl
  refine pure_ (i := 9) (N := some 35) (v := ?_) (a' := ?_) #[true, true, true, true, true, true, true, true, true, true, false, false] rfl rfl (by kernel_rfl) (fun _ _ _ h => h) (Or.inl ⟨by rfl, ?_⟩) ?_ ?_
  rotate_left
  · intro w'
    go_simp
    with_reducible rfl
  rotate_left
  · simp only [Act.put, List.setIfInBounds_toArray, List.set_cons_zero, List.set_cons_succ, i64_w, i32_w]
    rfl
  refine pure_ (i := 10) (N := some 7) (v := ?_) (a' := ?_) #[true, true, true, true, true, true, true, true, true, true, true, false] rfl rfl (by kernel_rfl) (fun _ _ _ h => h) (Or.inl ⟨by rfl, ?_⟩) ?_ ?_
  rotate_left
  · intro w'
    go_simp
    with_reducible rfl
  rotate_left
  · simp only [Act.put, List.setIfInBounds_toArray, List.set_cons_zero, List.set_cons_succ, i64_w, i32_w]
    rfl
  refine pure_ (i := 11) (N := some 8) (v := ?_) (a' := ?_) #[true, true, true, true, true, true, true, true, true, true, true, true] rfl rfl (by kernel_rfl) (fun _ _ _ h => h) (Or.inl ⟨by rfl, ?_⟩) ?_ ?_
  rotate_left
  · intro w'
    go_simp
    with_reducible rfl
  rotate_left
  · simp only [Act.put, List.setIfInBounds_toArray, List.set_cons_zero, List.set_cons_succ, i64_w, i32_w]
    rfl
  refine done_ (by kernel_rfl) ?_
  try go_wp2
  refine start_ (n := 12) (S := fun w' => w'.cell? ⟨b, i * 2, none⟩ = some (.pointer (some ⟨g, 0, none⟩)) ∧ w'.cell? ⟨b, i * 2 + 1, none⟩ = some (.slice RA n1 rc) ∧ w'.cell? ⟨gs, 0, none⟩ = some (.int .i64 3) ∧ w'.cell? ⟨gs, 1, none⟩ = some (.int .i64 on) ∧ w'.cell? ⟨gs, 2, none⟩ = some (.int .i64 k) ∧ w'.cell? ⟨gs, 3, none⟩ = some (.int .i64 z)) (ds := []) #[false, false, false, false, false, false, false, false, false, false, false, false] (by kernel_rfl) rfl rfl ⟨(L3.out.below (below_drew (Below.refl _ _))).p0, (L3.out.below (below_drew (Below.refl _ _))).p1, (L3.out.below (below_drew (Below.refl _ _))).s0, (L3.out.below (below_drew (Below.refl _ _))).s1, (L3.out.below (below_drew (Below.refl _ _))).s2, (L3.out.below (below_drew (Below.refl _ _))).s3⟩ (fun hHeld => ?_)
  generalize hwd : w3.drew = wd3 at hHeld ⊢
  have Ld3 := Aside0.mk (hwd ▸ (L3.out.below (below_drew (Below.refl _ _))))
  have HBd3 := Aside0.mk (hwd ▸ (below_drew HB3.out))
  clear hwd
  clear hp0_ hp1_ hs0_ hs1_ hs2_ hs3_
  refine pure_ (i := 0) (N := some 97) (v := ?_) (a' := ?_) #[true, false, false, false, false, false, false, false, false, false, false, false] rfl rfl (by kernel_rfl) (fun _ _ _ h => h) (Or.inl ⟨by rfl, ?_⟩) ?_ ?_
  rotate_left
  · intro w'
    go_simp
    with_reducible rfl
  rotate_left
  · simp only [Act.put, List.setIfInBounds_toArray, List.set_cons_zero, List.set_cons_succ, i64_w, i32_w]
    rfl
  refine pure_ (i := 1) (N := some 98) (v := ?_) (a' := ?_) #[true, true, false, false, false, false, false, false, false, false, false, false] rfl rfl (by kernel_rfl) (fun _ _ _ h => h) (Or.inl ⟨by rfl, ?_⟩) ?_ ?_
  rotate_left
  · intro w'
    go_simp
    with_reducible rfl
  rotate_left
  · simp only [Act.put, List.setIfInBounds_toArray, List.set_cons_zero, List.set_cons_succ, i64_w, i32_w]
    rfl
  refine pure_ (i := 2) (N := some 99) (v := ?_) (a' := ?_) #[true, true, true, false, false, false, false, false, false, false, false, false] rfl rfl (by kernel_rfl) (fun _ _ _ h => h) (Or.inl ⟨by rfl, ?_⟩) ?_ ?_
  rotate_left
  · intro w'
    go_simp
    with_reducible rfl
  rotate_left
  · simp only [Act.put, List.setIfInBounds_toArray, List.set_cons_zero, List.set_cons_succ, i64_w, i32_w]
    rfl
  refine pure_ (i := 4) (N := some 101) (v := ?_) (a' := ?_) #[true, true, true, false, true, false, false, false, false, false, false, false] rfl rfl (by kernel_rfl) (fun _ _ _ h => h) (Or.inl ⟨by rfl, ?_⟩) ?_ ?_
  rotate_left
  · intro w'
    go_simp
    with_reducible rfl
  rotate_left
  · simp only [Act.put, List.setIfInBounds_toArray, List.set_cons_zero, List.set_cons_succ, i64_w, i32_w]
    rfl
  refine take_ (i := 3) (N := some 100) (v := ?_) (a' := ?_) #[true, true, true, true, true, false, false, false, false, false, false, false] rfl rfl (by kernel_rfl) (fun _ _ _ h => h) (Or.inl ⟨by rfl, ?_⟩) hHeld ?_ ?_
  rotate_left
  · rintro w' ⟨s0, s1, s2, s3, s4, s5⟩
    go_simp
    with_reducible rfl
  rotate_left
  · simp only [Act.put, List.setIfInBounds_toArray, List.set_cons_zero, List.set_cons_succ, i64_w, i32_w]
    rfl
  refine take_ (i := 5) (N := some 102) (v := ?_) (a' := ?_) #[true, true, true, true, true, true, false, false, false, false, false, false] rfl rfl (by kernel_rfl) (fun _ _ _ h => h) (Or.inl ⟨by rfl, ?_⟩) hHeld ?_ ?_
  rotate_left
  · rintro w' ⟨s0, s1, s2, s3, s4, s5⟩
    go_simp
    with_reducible rfl
  rotate_left
  · simp only [Act.put, List.setIfInBounds_toArray, List.set_cons_zero, List.set_cons_succ, i64_w, i32_w]
    rfl
  refine one_ (i := 6) (N := some 103) #[true, true, true, true, true, true, true, false, false, false, false, false] rfl rfl (by kernel_rfl) (by decide) (fun K hK => ?_)
  refine goes_ Try.func18 (by kernel_rfl) rfl #[.pointer (some ⟨g, 0, none⟩), .int .i64 k] (by rfl) rfl rfl (by (try simp only [List.map_toArray, List.map_cons, List.map_nil]); first | done | rfl) ?_
  refine (it.getT (HT.out.below HBd3.out) HSL.out k).mono ?_
  rintro e w4 ⟨vv, hvv, rfl, hb4⟩
  rw [hh, if_neg (by simp)] at hvv
  subst hvv
  refine ⟨_, rfl, ?_⟩
  have HB4 := Aside0.mk (below_then HBd3.out HBd3.out.size hb4)
  have L4 := Aside0.mk (Ld3.out.below hb4)
  clear hb4
  have hp0_ := L4.out.p0
  have hp1_ := L4.out.p1
  have hs0_ := L4.out.s0
  have hs1_ := L4.out.s1
  have hs2_ := L4.out.s2
  have hs3_ := L4.out.s3
  refine hK.out _ _ ⟨L4.out.p0, L4.out.p1, L4.out.s0, L4.out.s1, L4.out.s2, L4.out.s3⟩ (fun hHeld => ?_)
  clear hK K
  refine norm_ (a' := ?_) ?_ ?_
  rotate_left
  · show Act.put _ (some 103) _ = _
    simp only [Act.put, List.setIfInBounds_toArray, List.set_cons_zero, List.set_cons_succ, i64_w, i32_w]
    rfl
  refine pure_ (i := 7) (N := some 96) (v := ?_) (a' := ?_) #[true, true, true, true, true, true, true, true, false, false, false, false] rfl rfl (by kernel_rfl) (fun _ _ _ h => h) (Or.inl ⟨by rfl, ?_⟩) ?_ ?_
  rotate_left
  · intro w'
    go_simp
    with_reducible rfl
  rotate_left
  · simp only [Act.put, List.setIfInBounds_toArray, List.set_cons_zero, List.set_cons_succ, i64_w, i32_w]
    rfl
  refine pure_ (i := 8) (N := some 104) (v := ?_) (a' := ?_) #[true, true, true, true, true, true, true, true, true, false, false, false] rfl rfl (by kernel_rfl) (fun _ _ _ h => h) (Or.inl ⟨by rfl, ?_⟩) ?_ ?_
  rotate_left
  · intro w'
    go_simp
    with_reducible rfl
  rotate_left
  · simp only [Act.put, List.setIfInBounds_toArray, List.set_cons_zero, List.set_cons_succ, i64_w, i32_w]
    rfl
  refine pure_ (i := 9) (N := some 105) (v := ?_) (a' := ?_) #[true, true, true, true, true, true, true, true, true, true, false, false] rfl rfl (by kernel_rfl) (fun _ _ _ h => h) (Or.inl ⟨by rfl, ?_⟩) ?_ ?_
  rotate_left
  · intro w'
    go_simp
    with_reducible rfl
  rotate_left
  · simp only [Act.put, List.setIfInBounds_toArray, List.set_cons_zero, List.set_cons_succ, i64_w, i32_w]
    rfl
  refine pure_ (i := 10) (N := some 11) (v := ?_) (a' := ?_) #[true, true, true, true, true, true, true, true, true, true, true, false] rfl rfl (by kernel_rfl) (fun _ _ _ h => h) (Or.inl ⟨by rfl, ?_⟩) ?_ ?_
  rotate_left
  · intro w'
    go_simp
    with_reducible rfl
  rotate_left
  · simp only [Act.put, List.setIfInBounds_toArray, List.set_cons_zero, List.set_cons_succ, i64_w, i32_w]
    rfl
  refine pure_ (i := 11) (N := some 12) (v := ?_) (a' := ?_) #[true, true, true, true, true, true, true, true, true, true, true, true] rfl rfl (by kernel_rfl) (fun _ _ _ h => h) (Or.inl ⟨by rfl, ?_⟩) ?_ ?_
  rotate_left
  · intro w'
    go_simp
    with_reducible rfl
  rotate_left
  · simp only [Act.put, List.setIfInBounds_toArray, List.set_cons_zero, List.set_cons_succ, i64_w, i32_w]
    rfl
  refine done_ (by kernel_rfl) ?_
  try go_wp2
  go_quiet (fail)
  go_wp2
  go_ret2
  have e0 := HNP.out
  subst e0
  exact ⟨.slice (some ⟨b, 0, none⟩) ps.length cap, ps, by simp, (HST.out.below (pw_below_drewN HB4.out _)).more, below_then HB.out HB.out.size (pw_below_drewN HB4.out _), FrT.of_below _ (pw_below_drewN HB4.out _)⟩
theorem doesGetY {w0 w : World} {m : Nat} {v : Value} {ps : List (Nat × List S80)} (hB : Below w0.heap.size w0 w) (h : St w w0.heap.size m v ps) (on k z : Int) (i : Nat) (hpk : scruplelaw05_pick.f on (ps.length : Int) = some (i : Int)) (hi : i < ps.length) (hm : (m + 4) * 16 ≤ 140737488355328) (htb : ∀ g l, ps[i]? = some (g, l) → it.has l k = true) :
    Calls Try.prog 27 #[v, .agg #[.int .i64 3, .int .i64 on, .int .i64 k, .int .i64 z]] w fun e w' => ∃ (v' : Value) (ps' : List (Nat × List S80)), e = .returned (.tuple #[v', .bool true]) ∧ St w' w0.heap.size (m + 1) v' ps' ∧ Below w0.heap.size w0 w' ∧ FrT v v' w w' := by
  obtain ⟨b, cap, g, l, A, c, RA, rc, rfl, hpi, hbg, hsl, hlm, hT, hcb, hbb, hc0, hc1, hR⟩ := h.at_ i hi
  have hu60 := Try.underlying60
  have HP := Aside0.mk hpk
  have HF := Aside0.mk (it.ref_find l k (by omega))
  have HST := Aside0.mk h
  have HT := Aside0.mk hT
  have HR := Aside0.mk hR
  have HPI := Aside0.mk hpi
  have HSL := Aside0.mk hsl
  have HLM := Aside0.mk hlm
  have HCB := Aside0.mk hcb
  have HM := Aside0.mk hm
  have HBG := Aside0.mk hbg
  have HB := Aside0.mk hB
  have hcap := (Kd.R_reads' h.row).2.1
  have hle := it.fnd_le k l
  have HLE := Aside0.mk hle
  generalize hn1 : (l.map it.r5).length = n1 at *
  have HN1 := Aside0.mk hn1
  generalize hnp : ps.length = np at *
  have HNP := Aside0.mk hnp
  have hi0 : 0 ≤ (i : Int) := by omega
  have hi1 : (i : Int) < (np : Int) := by omega
  have hi2 : decide (i < np) = true := decide_eq_true hi
  clear hpk h hT hR hpi hsl hlm hcb hm hbg hB hbb hn1 hnp hcap hle
  have hh := htb g l HPI.out
  clear htb
  have hlt := it.has_lt hh
  obtain ⟨adR, rfl, _, hx1⟩ := at_T50 (HN1.out ▸ (Kd.R_reads' HR.out).2.2) (it.fnd l k : Int) (by omega) (by have := HN1.out; rw [List.length_map] at this; omega)
  rw [Int.toNat_natCast, it.rd5 hlt] at hx1
  simp only [it.r5] at hx1
  have HX := Aside0.mk hx1
  have hlt1 : (it.fnd l k : Int) < (n1 : Int) := by have := HN1.out; rw [List.length_map] at this; omega
  have hlt2 : it.fnd l k < n1 := by omega
  clear hx1 hlt
  go_enter Try.func27, Try.ntmps27
  go_wp2_with (first | ((with_reducible refine gate_dst (N := 3) rfl ?_); refine box_event ?hg (N := 3) ?hd (cs := #[.int .i64 3, .int .i64 on, .int .i64 k, .int .i64 z]) (t := 60) ?hr ?_; (case hd => rfl); (case hg => rfl); (case hr => first | (go_simp; done) | (go_simp; rfl)); intro gs hg w1 hbox hb; have HB1 := Aside0.mk hb; have L1 := Aside0.mk (show Lay w1 b i g (some adR) n1 rc gs 3 on k z from ⟨(hb.cell (World.block_lt_of_cell? w _ hc0)).trans hc0, (hb.cell (World.block_lt_of_cell? w _ hc1)).trans hc1, hbox, by obtain ⟨cells, hc⟩ := HCB.out; exact ⟨cells, blk_below hc hb⟩⟩); clear hg hbox hb hc0 hc1; have hp0_ := L1.out.p0; have hp1_ := L1.out.p1; have hs0_ := L1.out.s0; have hs1_ := L1.out.s1; have hs2_ := L1.out.s2; have hs3_ := L1.out.s3) | (go_at_call 39; refine (scruplelaw05_pick.calls on (np : Int) (i : Int) _ HP.out).mono ?_; rintro e_ w2 ⟨rfl, hd⟩; have HB2 := Aside0.mk (below_then HB1.out HB1.out.size hd.below); have L2 := Aside0.mk (L1.out.below hd.below); clear hd; clear hp0_ hp1_ hs0_ hs1_ hs2_ hs3_; have hp0_ := L2.out.p0; have hp1_ := L2.out.p1; have hs0_ := L2.out.s0; have hs1_ := L2.out.s1; have hs2_ := L2.out.s2; have hs3_ := L2.out.s3))
  refine start_ (n := 12) (S := fun w' => w'.cell? ⟨b, i * 2, none⟩ = some (.pointer (some ⟨g, 0, none⟩)) ∧ w'.cell? ⟨b, i * 2 + 1, none⟩ = some (.slice (some adR) n1 rc) ∧ w'.cell? ⟨gs, 0, none⟩ = some (.int .i64 3) ∧ w'.cell? ⟨gs, 1, none⟩ = some (.int .i64 on) ∧ w'.cell? ⟨gs, 2, none⟩ = some (.int .i64 k) ∧ w'.cell? ⟨gs, 3, none⟩ = some (.int .i64 z)) (ds := []) #[false, false, false, false, false, false, false, false, false, false, false, false] (by kernel_rfl) rfl rfl ⟨(L2.out.below (below_drew (Below.refl _ _))).p0, (L2.out.below (below_drew (Below.refl _ _))).p1, (L2.out.below (below_drew (Below.refl _ _))).s0, (L2.out.below (below_drew (Below.refl _ _))).s1, (L2.out.below (below_drew (Below.refl _ _))).s2, (L2.out.below (below_drew (Below.refl _ _))).s3⟩ (fun hHeld => ?_)
  generalize hwd : w2.drew = wd2 at hHeld ⊢
  have Ld2 := Aside0.mk (hwd ▸ (L2.out.below (below_drew (Below.refl _ _))))
  have HBd2 := Aside0.mk (hwd ▸ (below_drew HB2.out))
  clear hwd
  clear hp0_ hp1_ hs0_ hs1_ hs2_ hs3_
  refine pure_ (i := 0) (N := some 27) (v := ?_) (a' := ?_) #[true, false, false, false, false, false, false, false, false, false, false, false] rfl rfl (by kernel_rfl) (fun _ _ _ h => h) (Or.inl ⟨by rfl, ?_⟩) ?_ ?_
  rotate_left
  · intro w'
    go_simp
    with_reducible rfl
  rotate_left
  · simp only [Act.put, List.setIfInBounds_toArray, List.set_cons_zero, List.set_cons_succ, i64_w, i32_w]
    rfl
  refine pure_ (i := 1) (N := some 28) (v := ?_) (a' := ?_) #[true, true, false, false, false, false, false, false, false, false, false, false] rfl rfl (by kernel_rfl) (fun _ _ _ h => h) (Or.inl ⟨by rfl, ?_⟩) ?_ ?_
  rotate_left
  · intro w'
    go_simp
    with_reducible rfl
  rotate_left
  · simp only [Act.put, List.setIfInBounds_toArray, List.set_cons_zero, List.set_cons_succ, i64_w, i32_w]
    rfl
  refine pure_ (i := 2) (N := some 29) (v := ?_) (a' := ?_) #[true, true, true, false, false, false, false, false, false, false, false, false] rfl rfl (by kernel_rfl) (fun _ _ _ h => h) (Or.inl ⟨by rfl, ?_⟩) ?_ ?_
  rotate_left
  · intro w'
    go_simp
    with_reducible rfl
  rotate_left
  · simp only [Act.put, List.setIfInBounds_toArray, List.set_cons_zero, List.set_cons_succ, i64_w, i32_w]
    rfl
  refine pure_ (i := 4) (N := some 31) (v := ?_) (a' := ?_) #[true, true, true, false, true, false, false, false, false, false, false, false] rfl rfl (by kernel_rfl) (fun _ _ _ h => h) (Or.inl ⟨by rfl, ?_⟩) ?_ ?_
  rotate_left
  · intro w'
    go_simp
    with_reducible rfl
  rotate_left
  · simp only [Act.put, List.setIfInBounds_toArray, List.set_cons_zero, List.set_cons_succ, i64_w, i32_w]
    rfl
  refine take_ (i := 3) (N := some 30) (v := ?_) (a' := ?_) #[true, true, true, true, true, false, false, false, false, false, false, false] rfl rfl (by kernel_rfl) (fun _ _ _ h => h) (Or.inl ⟨by rfl, ?_⟩) hHeld ?_ ?_
  rotate_left
  · rintro w' ⟨s0, s1, s2, s3, s4, s5⟩
    go_simp
    with_reducible rfl
  rotate_left
  · simp only [Act.put, List.setIfInBounds_toArray, List.set_cons_zero, List.set_cons_succ, i64_w, i32_w]
    rfl
  refine take_ (i := 5) (N := some 32) (v := ?_) (a' := ?_) #[true, true, true, true, true, true, false, false, false, false, false, false] rfl rfl (by kernel_rfl) (fun _ _ _ h => h) (Or.inl ⟨by rfl, ?_⟩) hHeld ?_ ?_
  rotate_left
  · rintro w' ⟨s0, s1, s2, s3, s4, s5⟩
    go_simp
    with_reducible rfl
  rotate_left
  · simp only [Act.put, List.setIfInBounds_toArray, List.set_cons_zero, List.set_cons_succ, i64_w, i32_w]
    rfl
  refine one_ (i := 6) (N := some 33) #[true, true, true, true, true, true, true, false, false, false, false, false] rfl rfl (by kernel_rfl) (by decide) (fun K hK => ?_)
  refine goes_ Try.func16 (by kernel_rfl) rfl #[.slice (some adR) n1 rc, .int .i64 k] (by rfl) rfl rfl (by (try simp only [List.map_toArray, List.map_cons, List.map_nil]); first | done | rfl) ?_
  refine (refFindC l k (some adR) n1 rc HN1.out (Kd.R_below HR.out HBd2.out) HF.out).mono ?_
  rintro e w3 ⟨rfl, hd⟩
  refine ⟨_, rfl, ?_⟩
  have HB3 := Aside0.mk (below_then HBd2.out HBd2.out.size hd.below)
  have L3 := Aside0.mk (Ld2.out.below hd.below)
  clear hd
  have hp0_ := L3.out.p0
  have hp1_ := L3.out.p1
  have hs0_ := L3.out.s0
  have hs1_ := L3.out.s1
  have hs2_ := L3.out.s2
  have hs3_ := L3.out.s3
  refine hK.out _ _ ⟨L3.out.p0, L3.out.p1, L3.out.s0, L3.out.s1, L3.out.s2, L3.out.s3⟩ (fun hHeld => ?_)
  clear hK K
  refine norm_ (a' := ?_) ?_ ?_
  rotate_left
  · show Act.put _ (some 33) _ = _
    simp only [Act.put, List.setIfInBounds_toArray, List.set_cons_zero, List.set_cons_succ, i64_w, i32_w]
    rfl
  refine pure_ (i := 7) (N := some 26) (v := ?_) (a' := ?_) #[true, true, true, true, true, true, true, true, false, false, false, false] rfl rfl (by kernel_rfl) (fun _ _ _ h => h) (Or.inl ⟨by rfl, ?_⟩) ?_ ?_
  rotate_left
  · intro w'
    go_simp
    with_reducible rfl
  rotate_left
  · simp only [Act.put, List.setIfInBounds_toArray, List.set_cons_zero, List.set_cons_succ, i64_w, i32_w]
    rfl
  refine pure_ (i := 8) (N := some 34) (v := ?_) (a' := ?_) #[true, true, true, true, true, true, true, true, true, false, false, false] rfl rfl (by kernel_rfl) (fun _ _ _ h => h) (Or.inl ⟨by rfl, ?_⟩) ?_ ?_
  rotate_left
  · intro w'
    go_simp
    with_reducible rfl
  rotate_left
  · simp only [Act.put, List.setIfInBounds_toArray, List.set_cons_zero, List.set_cons_succ, i64_w, i32_w]
    rfl
  refine pure_ (i := 9) (N := some 35) (v := ?_) (a' := ?_) #[true, true, true, true, true, true, true, true, true, true, false, false] rfl rfl (by kernel_rfl) (fun _ _ _ h => h) (Or.inl ⟨by rfl, ?_⟩) ?_ ?_
  rotate_left
  · intro w'
    go_simp
    with_reducible rfl
  rotate_left
  · simp only [Act.put, List.setIfInBounds_toArray, List.set_cons_zero, List.set_cons_succ, i64_w, i32_w]
    rfl
  refine pure_ (i := 10) (N := some 7) (v := ?_) (a' := ?_) #[true, true, true, true, true, true, true, true, true, true, true, false] rfl rfl (by kernel_rfl) (fun _ _ _ h => h) (Or.inl ⟨by rfl, ?_⟩) ?_ ?_
  rotate_left
  · intro w'
    go_simp
    with_reducible rfl
  rotate_left
  · simp only [Act.put, List.setIfInBounds_toArray, List.set_cons_zero, List.set_cons_succ, i64_w, i32_w]
    rfl
  refine pure_ (i := 11) (N := some 8) (v := ?_) (a' := ?_) #[true, true, true, true, true, true, true, true, true, true, true, true] rfl rfl (by kernel_rfl) (fun _ _ _ h => h) (Or.inl ⟨by rfl, ?_⟩) ?_ ?_
  rotate_left
  · intro w'
    go_simp
    with_reducible rfl
  rotate_left
  · simp only [Act.put, List.setIfInBounds_toArray, List.set_cons_zero, List.set_cons_succ, i64_w, i32_w]
    rfl
  refine done_ (by kernel_rfl) ?_
  try go_wp2
  refine start_ (n := 12) (S := fun w' => w'.cell? ⟨b, i * 2, none⟩ = some (.pointer (some ⟨g, 0, none⟩)) ∧ w'.cell? ⟨b, i * 2 + 1, none⟩ = some (.slice (some adR) n1 rc) ∧ w'.cell? ⟨gs, 0, none⟩ = some (.int .i64 3) ∧ w'.cell? ⟨gs, 1, none⟩ = some (.int .i64 on) ∧ w'.cell? ⟨gs, 2, none⟩ = some (.int .i64 k) ∧ w'.cell? ⟨gs, 3, none⟩ = some (.int .i64 z)) (ds := []) #[false, false, false, false, false, false, false, false, false, false, false, false] (by kernel_rfl) rfl rfl ⟨(L3.out.below (below_drew (Below.refl _ _))).p0, (L3.out.below (below_drew (Below.refl _ _))).p1, (L3.out.below (below_drew (Below.refl _ _))).s0, (L3.out.below (below_drew (Below.refl _ _))).s1, (L3.out.below (below_drew (Below.refl _ _))).s2, (L3.out.below (below_drew (Below.refl _ _))).s3⟩ (fun hHeld => ?_)
  generalize hwd : w3.drew = wd3 at hHeld ⊢
  have Ld3 := Aside0.mk (hwd ▸ (L3.out.below (below_drew (Below.refl _ _))))
  have HBd3 := Aside0.mk (hwd ▸ (below_drew HB3.out))
  clear hwd
  clear hp0_ hp1_ hs0_ hs1_ hs2_ hs3_
  refine pure_ (i := 0) (N := some 97) (v := ?_) (a' := ?_) #[true, false, false, false, false, false, false, false, false, false, false, false] rfl rfl (by kernel_rfl) (fun _ _ _ h => h) (Or.inl ⟨by rfl, ?_⟩) ?_ ?_
  rotate_left
  · intro w'
    go_simp
    with_reducible rfl
  rotate_left
  · simp only [Act.put, List.setIfInBounds_toArray, List.set_cons_zero, List.set_cons_succ, i64_w, i32_w]
    rfl
  refine pure_ (i := 1) (N := some 98) (v := ?_) (a' := ?_) #[true, true, false, false, false, false, false, false, false, false, false, false] rfl rfl (by kernel_rfl) (fun _ _ _ h => h) (Or.inl ⟨by rfl, ?_⟩) ?_ ?_
  rotate_left
  · intro w'
    go_simp
    with_reducible rfl
  rotate_left
  · simp only [Act.put, List.setIfInBounds_toArray, List.set_cons_zero, List.set_cons_succ, i64_w, i32_w]
    rfl
  refine pure_ (i := 2) (N := some 99) (v := ?_) (a' := ?_) #[true, true, true, false, false, false, false, false, false, false, false, false] rfl rfl (by kernel_rfl) (fun _ _ _ h => h) (Or.inl ⟨by rfl, ?_⟩) ?_ ?_
  rotate_left
  · intro w'
    go_simp
    with_reducible rfl
  rotate_left
  · simp only [Act.put, List.setIfInBounds_toArray, List.set_cons_zero, List.set_cons_succ, i64_w, i32_w]
    rfl
  refine pure_ (i := 4) (N := some 101) (v := ?_) (a' := ?_) #[true, true, true, false, true, false, false, false, false, false, false, false] rfl rfl (by kernel_rfl) (fun _ _ _ h => h) (Or.inl ⟨by rfl, ?_⟩) ?_ ?_
  rotate_left
  · intro w'
    go_simp
    with_reducible rfl
  rotate_left
  · simp only [Act.put, List.setIfInBounds_toArray, List.set_cons_zero, List.set_cons_succ, i64_w, i32_w]
    rfl
  refine take_ (i := 3) (N := some 100) (v := ?_) (a' := ?_) #[true, true, true, true, true, false, false, false, false, false, false, false] rfl rfl (by kernel_rfl) (fun _ _ _ h => h) (Or.inl ⟨by rfl, ?_⟩) hHeld ?_ ?_
  rotate_left
  · rintro w' ⟨s0, s1, s2, s3, s4, s5⟩
    go_simp
    with_reducible rfl
  rotate_left
  · simp only [Act.put, List.setIfInBounds_toArray, List.set_cons_zero, List.set_cons_succ, i64_w, i32_w]
    rfl
  refine take_ (i := 5) (N := some 102) (v := ?_) (a' := ?_) #[true, true, true, true, true, true, false, false, false, false, false, false] rfl rfl (by kernel_rfl) (fun _ _ _ h => h) (Or.inl ⟨by rfl, ?_⟩) hHeld ?_ ?_
  rotate_left
  · rintro w' ⟨s0, s1, s2, s3, s4, s5⟩
    go_simp
    with_reducible rfl
  rotate_left
  · simp only [Act.put, List.setIfInBounds_toArray, List.set_cons_zero, List.set_cons_succ, i64_w, i32_w]
    rfl
  refine one_ (i := 6) (N := some 103) #[true, true, true, true, true, true, true, false, false, false, false, false] rfl rfl (by kernel_rfl) (by decide) (fun K hK => ?_)
  refine goes_ Try.func18 (by kernel_rfl) rfl #[.pointer (some ⟨g, 0, none⟩), .int .i64 k] (by rfl) rfl rfl (by (try simp only [List.map_toArray, List.map_cons, List.map_nil]); first | done | rfl) ?_
  refine (it.getT (HT.out.below HBd3.out) HSL.out k).mono ?_
  rintro e w4 ⟨vv, hvv, rfl, hb4⟩
  rw [hh, if_pos rfl] at hvv
  subst hvv
  refine ⟨_, rfl, ?_⟩
  have HB4 := Aside0.mk (below_then HBd3.out HBd3.out.size hb4)
  have L4 := Aside0.mk (Ld3.out.below hb4)
  clear hb4
  have hp0_ := L4.out.p0
  have hp1_ := L4.out.p1
  have hs0_ := L4.out.s0
  have hs1_ := L4.out.s1
  have hs2_ := L4.out.s2
  have hs3_ := L4.out.s3
  refine hK.out _ _ ⟨L4.out.p0, L4.out.p1, L4.out.s0, L4.out.s1, L4.out.s2, L4.out.s3⟩ (fun hHeld => ?_)
  clear hK K
  refine norm_ (a' := ?_) ?_ ?_
  rotate_left
  · show Act.put _ (some 103) _ = _
    simp only [Act.put, List.setIfInBounds_toArray, List.set_cons_zero, List.set_cons_succ, i64_w, i32_w]
    rfl
  refine pure_ (i := 7) (N := some 96) (v := ?_) (a' := ?_) #[true, true, true, true, true, true, true, true, false, false, false, false] rfl rfl (by kernel_rfl) (fun _ _ _ h => h) (Or.inl ⟨by rfl, ?_⟩) ?_ ?_
  rotate_left
  · intro w'
    go_simp
    with_reducible rfl
  rotate_left
  · simp only [Act.put, List.setIfInBounds_toArray, List.set_cons_zero, List.set_cons_succ, i64_w, i32_w]
    rfl
  refine pure_ (i := 8) (N := some 104) (v := ?_) (a' := ?_) #[true, true, true, true, true, true, true, true, true, false, false, false] rfl rfl (by kernel_rfl) (fun _ _ _ h => h) (Or.inl ⟨by rfl, ?_⟩) ?_ ?_
  rotate_left
  · intro w'
    go_simp
    with_reducible rfl
  rotate_left
  · simp only [Act.put, List.setIfInBounds_toArray, List.set_cons_zero, List.set_cons_succ, i64_w, i32_w]
    rfl
  refine pure_ (i := 9) (N := some 105) (v := ?_) (a' := ?_) #[true, true, true, true, true, true, true, true, true, true, false, false] rfl rfl (by kernel_rfl) (fun _ _ _ h => h) (Or.inl ⟨by rfl, ?_⟩) ?_ ?_
  rotate_left
  · intro w'
    go_simp
    with_reducible rfl
  rotate_left
  · simp only [Act.put, List.setIfInBounds_toArray, List.set_cons_zero, List.set_cons_succ, i64_w, i32_w]
    rfl
  refine pure_ (i := 10) (N := some 11) (v := ?_) (a' := ?_) #[true, true, true, true, true, true, true, true, true, true, true, false] rfl rfl (by kernel_rfl) (fun _ _ _ h => h) (Or.inl ⟨by rfl, ?_⟩) ?_ ?_
  rotate_left
  · intro w'
    go_simp
    with_reducible rfl
  rotate_left
  · simp only [Act.put, List.setIfInBounds_toArray, List.set_cons_zero, List.set_cons_succ, i64_w, i32_w]
    rfl
  refine pure_ (i := 11) (N := some 12) (v := ?_) (a' := ?_) #[true, true, true, true, true, true, true, true, true, true, true, true] rfl rfl (by kernel_rfl) (fun _ _ _ h => h) (Or.inl ⟨by rfl, ?_⟩) ?_ ?_
  rotate_left
  · intro w'
    go_simp
    with_reducible rfl
  rotate_left
  · simp only [Act.put, List.setIfInBounds_toArray, List.set_cons_zero, List.set_cons_succ, i64_w, i32_w]
    rfl
  refine done_ (by kernel_rfl) ?_
  try go_wp2
  have hx1 := (HB4.out.cell (World.block_lt_of_cell? w _ HX.out)).trans HX.out
  go_quiet (fail)
  go_wp2
  go_ret2
  have e0 := HNP.out
  subst e0
  exact ⟨.slice (some ⟨b, 0, none⟩) ps.length cap, ps, by simp, (HST.out.below (pw_below_drewN HB4.out _)).more, below_then HB.out HB.out.size (pw_below_drewN HB4.out _), FrT.of_below _ (pw_below_drewN HB4.out _)⟩
theorem doesAtL {w0 w : World} {m : Nat} {v : Value} {ps : List (Nat × List S80)} (hB : Below w0.heap.size w0 w) (h : St w w0.heap.size m v ps) (on k z : Int) (i : Nat) (hpk : scruplelaw05_pick.f on (ps.length : Int) = some (i : Int)) (hi : i < ps.length) (hm : (m + 4) * 16 ≤ 140737488355328) (hk : k < 0) :
    Calls Try.prog 27 #[v, .agg #[.int .i64 4, .int .i64 on, .int .i64 k, .int .i64 z]] w fun e w' => ∃ (v' : Value) (ps' : List (Nat × List S80)), e = .returned (.tuple #[v', .bool true]) ∧ St w' w0.heap.size (m + 1) v' ps' ∧ Below w0.heap.size w0 w' ∧ FrT v v' w w' := by
  obtain ⟨b, cap, g, l, A, c, RA, rc, rfl, hpi, hbg, hsl, hlm, hT, hcb, hbb, hc0, hc1, hR⟩ := h.at_ i hi
  have hu60 := Try.underlying60
  have HP := Aside0.mk hpk
  have HF := Aside0.mk (it.ref_find l k (by omega))
  have HST := Aside0.mk h
  have HT := Aside0.mk hT
  have HR := Aside0.mk hR
  have HPI := Aside0.mk hpi
  have HSL := Aside0.mk hsl
  have HLM := Aside0.mk hlm
  have HCB := Aside0.mk hcb
  have HM := Aside0.mk hm
  have HBG := Aside0.mk hbg
  have HB := Aside0.mk hB
  have hcap := (Kd.R_reads' h.row).2.1
  have hle := it.fnd_le k l
  have HLE := Aside0.mk hle
  generalize hn1 : (l.map it.r5).length = n1 at *
  have HN1 := Aside0.mk hn1
  generalize hnp : ps.length = np at *
  have HNP := Aside0.mk hnp
  have hi0 : 0 ≤ (i : Int) := by omega
  have hi1 : (i : Int) < (np : Int) := by omega
  have hi2 : decide (i < np) = true := decide_eq_true hi
  clear hpk h hT hR hpi hsl hlm hcb hm hbg hB hbb hn1 hnp hcap hle
  have b0 : decide (k < 0) = true := decide_eq_true hk
  have HK := Aside0.mk (show k < 0 ∨ (l.length : Int) ≤ k from .inl hk)
  clear hk
  go_enter Try.func27, Try.ntmps27
  go_wp2_with (first | ((with_reducible refine gate_dst (N := 3) rfl ?_); refine box_event ?hg (N := 3) ?hd (cs := #[.int .i64 4, .int .i64 on, .int .i64 k, .int .i64 z]) (t := 60) ?hr ?_; (case hd => rfl); (case hg => rfl); (case hr => first | (go_simp; done) | (go_simp; rfl)); intro gs hg w1 hbox hb; have HB1 := Aside0.mk hb; have L1 := Aside0.mk (show Lay w1 b i g RA n1 rc gs 4 on k z from ⟨(hb.cell (World.block_lt_of_cell? w _ hc0)).trans hc0, (hb.cell (World.block_lt_of_cell? w _ hc1)).trans hc1, hbox, by obtain ⟨cells, hc⟩ := HCB.out; exact ⟨cells, blk_below hc hb⟩⟩); clear hg hbox hb hc0 hc1; have hp0_ := L1.out.p0; have hp1_ := L1.out.p1; have hs0_ := L1.out.s0; have hs1_ := L1.out.s1; have hs2_ := L1.out.s2; have hs3_ := L1.out.s3) | (go_at_call 39; refine (scruplelaw05_pick.calls on (np : Int) (i : Int) _ HP.out).mono ?_; rintro e_ w2 ⟨rfl, hd⟩; have HB2 := Aside0.mk (below_then HB1.out HB1.out.size hd.below); have L2 := Aside0.mk (L1.out.below hd.below); clear hd; clear hp0_ hp1_ hs0_ hs1_ hs2_ hs3_; have hp0_ := L2.out.p0; have hp1_ := L2.out.p1; have hs0_ := L2.out.s0; have hs1_ := L2.out.s1; have hs2_ := L2.out.s2; have hs3_ := L2.out.s3))
  refine start_ (n := 12) (S := fun w' => w'.cell? ⟨b, i * 2, none⟩ = some (.pointer (some ⟨g, 0, none⟩)) ∧ w'.cell? ⟨b, i * 2 + 1, none⟩ = some (.slice RA n1 rc) ∧ w'.cell? ⟨gs, 0, none⟩ = some (.int .i64 4) ∧ w'.cell? ⟨gs, 1, none⟩ = some (.int .i64 on) ∧ w'.cell? ⟨gs, 2, none⟩ = some (.int .i64 k) ∧ w'.cell? ⟨gs, 3, none⟩ = some (.int .i64 z)) (ds := []) #[false, false, false, false, false, false, false, false, false, false, false, false] (by kernel_rfl) rfl rfl ⟨(L2.out.below (below_drew (Below.refl _ _))).p0, (L2.out.below (below_drew (Below.refl _ _))).p1, (L2.out.below (below_drew (Below.refl _ _))).s0, (L2.out.below (below_drew (Below.refl _ _))).s1, (L2.out.below (below_drew (Below.refl _ _))).s2, (L2.out.below (below_drew (Below.refl _ _))).s3⟩ (fun hHeld => ?_)
  generalize hwd : w2.drew = wd2 at hHeld ⊢
  have Ld2 := Aside0.mk (hwd ▸ (L2.out.below (below_drew (Below.refl _ _))))
  have HBd2 := Aside0.mk (hwd ▸ (below_drew HB2.out))
  clear hwd
  clear hp0_ hp1_ hs0_ hs1_ hs2_ hs3_
  refine pure_ (i := 0) (N := some 27) (v := ?_) (a' := ?_) #[true, false, false, false, false, false, false, false, false, false, false, false] rfl rfl (by kernel_rfl) (fun _ _ _ h => h) (Or.inl ⟨by rfl, ?_⟩) ?_ ?_
  rotate_left
  · intro w'
    go_simp
    with_reducible rfl
  rotate_left
  · simp only [Act.put, List.setIfInBounds_toArray, List.set_cons_zero, List.set_cons_succ, i64_w, i32_w]
    rfl
  refine pure_ (i := 1) (N := some 28) (v := ?_) (a' := ?_) #[true, true, false, false, false, false, false, false, false, false, false, false] rfl rfl (by kernel_rfl) (fun _ _ _ h => h) (Or.inl ⟨by rfl, ?_⟩) ?_ ?_
  rotate_left
  · intro w'
    go_simp
    with_reducible rfl
  rotate_left
  · simp only [Act.put, List.setIfInBounds_toArray, List.set_cons_zero, List.set_cons_succ, i64_w, i32_w]
    rfl
  refine pure_ (i := 2) (N := some 29) (v := ?_) (a' := ?_) #[true, true, true, false, false, false, false, false, false, false, false, false] rfl rfl (by kernel_rfl) (fun _ _ _ h => h) (Or.inl ⟨by rfl, ?_⟩) ?_ ?_
  rotate_left
  · intro w'
    go_simp
    with_reducible rfl
  rotate_left
  · simp only [Act.put, List.setIfInBounds_toArray, List.set_cons_zero, List.set_cons_succ, i64_w, i32_w]
    rfl
  refine pure_ (i := 4) (N := some 31) (v := ?_) (a' := ?_) #[true, true, true, false, true, false, false, false, false, false, false, false] rfl rfl (by kernel_rfl) (fun _ _ _ h => h) (Or.inl ⟨by rfl, ?_⟩) ?_ ?_
  rotate_left
  · intro w'
    go_simp
    with_reducible rfl
  rotate_left
  · simp only [Act.put, List.setIfInBounds_toArray, List.set_cons_zero, List.set_cons_succ, i64_w, i32_w]
    rfl
  refine take_ (i := 3) (N := some 30) (v := ?_) (a' := ?_) #[true, true, true, true, true, false, false, false, false, false, false, false] rfl rfl (by kernel_rfl) (fun _ _ _ h => h) (Or.inl ⟨by rfl, ?_⟩) hHeld ?_ ?_
  rotate_left
  · rintro w' ⟨s0, s1, s2, s3, s4, s5⟩
    go_simp
    with_reducible rfl
  rotate_left
  · simp only [Act.put, List.setIfInBounds_toArray, List.set_cons_zero, List.set_cons_succ, i64_w, i32_w]
    rfl
  refine take_ (i := 5) (N := some 32) (v := ?_) (a' := ?_) #[true, true, true, true, true, true, false, false, false, false, false, false] rfl rfl (by kernel_rfl) (fun _ _ _ h => h) (Or.inl ⟨by rfl, ?_⟩) hHeld ?_ ?_
  rotate_left
  · rintro w' ⟨s0, s1, s2, s3, s4, s5⟩
    go_simp
    with_reducible rfl
  rotate_left
  · simp only [Act.put, List.setIfInBounds_toArray, List.set_cons_zero, List.set_cons_succ, i64_w, i32_w]
    rfl
  refine one_ (i := 6) (N := some 33) #[true, true, true, true, true, true, true, false, false, false, false, false] rfl rfl (by kernel_rfl) (by decide) (fun K hK => ?_)
  refine goes_ Try.func16 (by kernel_rfl) rfl #[.slice RA n1 rc, .int .i64 k] (by rfl) rfl rfl (by (try simp only [List.map_toArray, List.map_cons, List.map_nil]); first | done | rfl) ?_
  refine (refFindC l k RA n1 rc HN1.out (Kd.R_below HR.out HBd2.out) HF.out).mono ?_
  rintro e w3 ⟨rfl, hd⟩
  refine ⟨_, rfl, ?_⟩
  have HB3 := Aside0.mk (below_then HBd2.out HBd2.out.size hd.below)
  have L3 := Aside0.mk (Ld2.out.below hd.below)
  clear hd
  have hp0_ := L3.out.p0
  have hp1_ := L3.out.p1
  have hs0_ := L3.out.s0
  have hs1_ := L3.out.s1
  have hs2_ := L3.out.s2
  have hs3_ := L3.out.s3
  refine hK.out _ _ ⟨L3.out.p0, L3.out.p1, L3.out.s0, L3.out.s1, L3.out.s2, L3.out.s3⟩ (fun hHeld => ?_)
  clear hK K
  refine norm_ (a' := ?_) ?_ ?_
  rotate_left
  · show Act.put _ (some 33) _ = _
    simp only [Act.put, List.setIfInBounds_toArray, List.set_cons_zero, List.set_cons_succ, i64_w, i32_w]
    rfl
  refine pure_ (i := 7) (N := some 26) (v := ?_) (a' := ?_) #[true, true, true, true, true, true, true, true, false, false, false, false] rfl rfl (by kernel_rfl) (fun _ _ _ h => h) (Or.inl ⟨by rfl, ?_⟩) ?_ ?_
  rotate_left
  · intro w'
    go_simp
    with_reducible rfl
  rotate_left
  · simp only [Act.put, List.setIfInBounds_toArray, List.set_cons_zero, List.set_cons_succ, i64_w, i32_w]
    rfl
  refine pure_ (i := 8) (N := some 34) (v := ?_) (a' := ?_) #[true, true, true, true, true, true, true, true, true, false, false, false] rfl rfl (by kernel_rfl) (fun _ _ _ h => h) (Or.inl ⟨by rfl, ?_⟩) ?_ ?_
  rotate_left
  · intro w'
    go_simp
    with_reducible rfl
  rotate_left
  · simp only [Act.put, List.setIfInBounds_toArray, List.set_cons_zero, List.set_cons_succ, i64_w, i32_w]
    rfl
  refine pure_ (i := 9) (N := some 35) (v := ?_) (a' := ?_) #[true, true, true, true, true, true, true, true, true, true, false, false] rfl rfl (by kernel_rfl) (fun _ _ _ h => h) (Or.inl ⟨by rfl, ?_⟩) ?_ ?_
  rotate_left
  · intro w'
    go_simp
    with_reducible rfl
  rotate_left
  · simp only [Act.put, List.setIfInBounds_toArray, List.set_cons_zero, List.set_cons_succ, i64_w, i32_w]
    rfl
  refine pure_ (i := 10) (N := some 7) (v := ?_) (a' := ?_) #[true, true, true, true, true, true, true, true, true, true, true, false] rfl rfl (by kernel_rfl) (fun _ _ _ h => h) (Or.inl ⟨by rfl, ?_⟩) ?_ ?_
  rotate_left
  · intro w'
    go_simp
    with_reducible rfl
  rotate_left
  · simp only [Act.put, List.setIfInBounds_toArray, List.set_cons_zero, List.set_cons_succ, i64_w, i32_w]
    rfl
  refine pure_ (i := 11) (N := some 8) (v := ?_) (a' := ?_) #[true, true, true, true, true, true, true, true, true, true, true, true] rfl rfl (by kernel_rfl) (fun _ _ _ h => h) (Or.inl ⟨by rfl, ?_⟩) ?_ ?_
  rotate_left
  · intro w'
    go_simp
    with_reducible rfl
  rotate_left
  · simp only [Act.put, List.setIfInBounds_toArray, List.set_cons_zero, List.set_cons_succ, i64_w, i32_w]
    rfl
  refine done_ (by kernel_rfl) ?_
  try go_wp2
  refine start_ (n := 14) (S := fun w' => w'.cell? ⟨b, i * 2, none⟩ = some (.pointer (some ⟨g, 0, none⟩)) ∧ w'.cell? ⟨b, i * 2 + 1, none⟩ = some (.slice RA n1 rc) ∧ w'.cell? ⟨gs, 0, none⟩ = some (.int .i64 4) ∧ w'.cell? ⟨gs, 1, none⟩ = some (.int .i64 on) ∧ w'.cell? ⟨gs, 2, none⟩ = some (.int .i64 k) ∧ w'.cell? ⟨gs, 3, none⟩ = some (.int .i64 z)) (ds := []) #[false, false, false, false, false, false, false, false, false, false, false, false, false, false] (by kernel_rfl) rfl rfl ⟨(L3.out.below (below_drew (Below.refl _ _))).p0, (L3.out.below (below_drew (Below.refl _ _))).p1, (L3.out.below (below_drew (Below.refl _ _))).s0, (L3.out.below (below_drew (Below.refl _ _))).s1, (L3.out.below (below_drew (Below.refl _ _))).s2, (L3.out.below (below_drew (Below.refl _ _))).s3⟩ (fun hHeld => ?_)
  generalize hwd : w3.drew = wd3 at hHeld ⊢
  have Ld3 := Aside0.mk (hwd ▸ (L3.out.below (below_drew (Below.refl _ _))))
  have HBd3 := Aside0.mk (hwd ▸ (below_drew HB3.out))
  clear hwd
  clear hp0_ hp1_ hs0_ hs1_ hs2_ hs3_
  refine pure_ (i := 0) (N := some 136) (v := ?_) (a' := ?_) #[true, false, false, false, false, false, false, false, false, false, false, false, false, false] rfl rfl (by kernel_rfl) (fun _ _ _ h => h) (Or.inl ⟨by rfl, ?_⟩) ?_ ?_
  rotate_left
  · intro w'
    go_simp
    with_reducible rfl
  rotate_left
  · simp only [Act.put, List.setIfInBounds_toArray, List.set_cons_zero, List.set_cons_succ, i64_w, i32_w]
    rfl
  refine pure_ (i := 1) (N := some 137) (v := ?_) (a' := ?_) #[true, true, false, false, false, false, false, false, false, false, false, false, false, false] rfl rfl (by kernel_rfl) (fun _ _ _ h => h) (Or.inl ⟨by rfl, ?_⟩) ?_ ?_
  rotate_left
  · intro w'
    go_simp
    with_reducible rfl
  rotate_left
  · simp only [Act.put, List.setIfInBounds_toArray, List.set_cons_zero, List.set_cons_succ, i64_w, i32_w]
    rfl
  refine pure_ (i := 2) (N := some 138) (v := ?_) (a' := ?_) #[true, true, true, false, false, false, false, false, false, false, false, false, false, false] rfl rfl (by kernel_rfl) (fun _ _ _ h => h) (Or.inl ⟨by rfl, ?_⟩) ?_ ?_
  rotate_left
  · intro w'
    go_simp
    with_reducible rfl
  rotate_left
  · simp only [Act.put, List.setIfInBounds_toArray, List.set_cons_zero, List.set_cons_succ, i64_w, i32_w]
    rfl
  refine pure_ (i := 4) (N := some 140) (v := ?_) (a' := ?_) #[true, true, true, false, true, false, false, false, false, false, false, false, false, false] rfl rfl (by kernel_rfl) (fun _ _ _ h => h) (Or.inl ⟨by rfl, ?_⟩) ?_ ?_
  rotate_left
  · intro w'
    go_simp
    with_reducible rfl
  rotate_left
  · simp only [Act.put, List.setIfInBounds_toArray, List.set_cons_zero, List.set_cons_succ, i64_w, i32_w]
    rfl
  refine take_ (i := 3) (N := some 139) (v := ?_) (a' := ?_) #[true, true, true, true, true, false, false, false, false, false, false, false, false, false] rfl rfl (by kernel_rfl) (fun _ _ _ h => h) (Or.inl ⟨by rfl, ?_⟩) hHeld ?_ ?_
  rotate_left
  · rintro w' ⟨s0, s1, s2, s3, s4, s5⟩
    go_simp
    with_reducible rfl
  rotate_left
  · simp only [Act.put, List.setIfInBounds_toArray, List.set_cons_zero, List.set_cons_succ, i64_w, i32_w]
    rfl
  refine take_ (i := 5) (N := some 141) (v := ?_) (a' := ?_) #[true, true, true, true, true, true, false, false, false, false, false, false, false, false] rfl rfl (by kernel_rfl) (fun _ _ _ h => h) (Or.inl ⟨by rfl, ?_⟩) hHeld ?_ ?_
  rotate_left
  · rintro w' ⟨s0, s1, s2, s3, s4, s5⟩
    go_simp
    with_reducible rfl
  rotate_left
  · simp only [Act.put, List.setIfInBounds_toArray, List.set_cons_zero, List.set_cons_succ, i64_w, i32_w]
    rfl
  refine one_ (i := 6) (N := some 142) #[true, true, true, true, true, true, true, false, false, false, false, false, false, false] rfl rfl (by kernel_rfl) (by decide) (fun K hK => ?_)
  refine goes_ Try.func19 (by kernel_rfl) rfl #[.pointer (some ⟨g, 0, none⟩), .int .i64 k] (by rfl) rfl rfl (by (try simp only [List.map_toArray, List.map_cons, List.map_nil]); first | done | rfl) ?_
  refine (it.at0 (HT.out.below HBd3.out) k HK.out).mono ?_
  rintro e w4 ⟨rfl, hb4⟩
  refine ⟨_, rfl, ?_⟩
  have HB4 := Aside0.mk (below_then HBd3.out HBd3.out.size hb4)
  have L4 := Aside0.mk (Ld3.out.below hb4)
  clear hb4
  have hp0_ := L4.out.p0
  have hp1_ := L4.out.p1
  have hs0_ := L4.out.s0
  have hs1_ := L4.out.s1
  have hs2_ := L4.out.s2
  have hs3_ := L4.out.s3
  refine hK.out _ _ ⟨L4.out.p0, L4.out.p1, L4.out.s0, L4.out.s1, L4.out.s2, L4.out.s3⟩ (fun hHeld => ?_)
  clear hK K
  refine norm_ (a' := ?_) ?_ ?_
  rotate_left
  · show Act.put _ (some 142) _ = _
    simp only [Act.put, List.setIfInBounds_toArray, List.set_cons_zero, List.set_cons_succ, i64_w, i32_w]
    rfl
  refine pure_ (i := 7) (N := some 135) (v := ?_) (a' := ?_) #[true, true, true, true, true, true, true, true, false, false, false, false, false, false] rfl rfl (by kernel_rfl) (fun _ _ _ h => h) (Or.inl ⟨by rfl, ?_⟩) ?_ ?_
  rotate_left
  · intro w'
    go_simp
    with_reducible rfl
  rotate_left
  · simp only [Act.put, List.setIfInBounds_toArray, List.set_cons_zero, List.set_cons_succ, i64_w, i32_w]
    rfl
  refine pure_ (i := 8) (N := some 143) (v := ?_) (a' := ?_) #[true, true, true, true, true, true, true, true, true, false, false, false, false, false] rfl rfl (by kernel_rfl) (fun _ _ _ h => h) (Or.inl ⟨by rfl, ?_⟩) ?_ ?_
  rotate_left
  · intro w'
    go_simp
    with_reducible rfl
  rotate_left
  · simp only [Act.put, List.setIfInBounds_toArray, List.set_cons_zero, List.set_cons_succ, i64_w, i32_w]
    rfl
  refine pure_ (i := 9) (N := some 144) (v := ?_) (a' := ?_) #[true, true, true, true, true, true, true, true, true, true, false, false, false, false] rfl rfl (by kernel_rfl) (fun _ _ _ h => h) (Or.inl ⟨by rfl, ?_⟩) ?_ ?_
  rotate_left
  · intro w'
    go_simp
    with_reducible rfl
  rotate_left
  · simp only [Act.put, List.setIfInBounds_toArray, List.set_cons_zero, List.set_cons_succ, i64_w, i32_w]
    rfl
  refine pure_ (i := 10) (N := some 145) (v := ?_) (a' := ?_) #[true, true, true, true, true, true, true, true, true, true, true, false, false, false] rfl rfl (by kernel_rfl) (fun _ _ _ h => h) (Or.inl ⟨by rfl, ?_⟩) ?_ ?_
  rotate_left
  · intro w'
    go_simp
    with_reducible rfl
  rotate_left
  · simp only [Act.put, List.setIfInBounds_toArray, List.set_cons_zero, List.set_cons_succ, i64_w, i32_w]
    rfl
  refine pure_ (i := 11) (N := some 13) (v := ?_) (a' := ?_) #[true, true, true, true, true, true, true, true, true, true, true, true, false, false] rfl rfl (by kernel_rfl) (fun _ _ _ h => h) (Or.inl ⟨by rfl, ?_⟩) ?_ ?_
  rotate_left
  · intro w'
    go_simp
    with_reducible rfl
  rotate_left
  · simp only [Act.put, List.setIfInBounds_toArray, List.set_cons_zero, List.set_cons_succ, i64_w, i32_w]
    rfl
  refine pure_ (i := 12) (N := some 14) (v := ?_) (a' := ?_) #[true, true, true, true, true, true, true, true, true, true, true, true, true, false] rfl rfl (by kernel_rfl) (fun _ _ _ h => h) (Or.inl ⟨by rfl, ?_⟩) ?_ ?_
  rotate_left
  · intro w'
    go_simp
    with_reducible rfl
  rotate_left
  · simp only [Act.put, List.setIfInBounds_toArray, List.set_cons_zero, List.set_cons_succ, i64_w, i32_w]
    rfl
  refine pure_ (i := 13) (N := some 15) (v := ?_) (a' := ?_) #[true, true, true, true, true, true, true, true, true, true, true, true, true, true] rfl rfl (by kernel_rfl) (fun _ _ _ h => h) (Or.inl ⟨by rfl, ?_⟩) ?_ ?_
  rotate_left
  · intro w'
    go_simp
    with_reducible rfl
  rotate_left
  · simp only [Act.put, List.setIfInBounds_toArray, List.set_cons_zero, List.set_cons_succ, i64_w, i32_w]
    rfl
  refine done_ (by kernel_rfl) ?_
  try go_wp2
  go_quiet (fail)
  go_wp2
  go_ret2
  have e0 := HNP.out
  subst e0
  exact ⟨.slice (some ⟨b, 0, none⟩) ps.length cap, ps, by simp, (HST.out.below (pw_below_drewN HB4.out _)).more, below_then HB.out HB.out.size (pw_below_drewN HB4.out _), FrT.of_below _ (pw_below_drewN HB4.out _)⟩
theorem doesAtH {w0 w : World} {m : Nat} {v : Value} {ps : List (Nat × List S80)} (hB : Below w0.heap.size w0 w) (h : St w w0.heap.size m v ps) (on k z : Int) (i : Nat) (hpk : scruplelaw05_pick.f on (ps.length : Int) = some (i : Int)) (hi : i < ps.length) (hm : (m + 4) * 16 ≤ 140737488355328) (hk0 : 0 ≤ k) (hk : ∀ g l, ps[i]? = some (g, l) → (l.length : Int) ≤ k) :
    Calls Try.prog 27 #[v, .agg #[.int .i64 4, .int .i64 on, .int .i64 k, .int .i64 z]] w fun e w' => ∃ (v' : Value) (ps' : List (Nat × List S80)), e = .returned (.tuple #[v', .bool true]) ∧ St w' w0.heap.size (m + 1) v' ps' ∧ Below w0.heap.size w0 w' ∧ FrT v v' w w' := by
  obtain ⟨b, cap, g, l, A, c, RA, rc, rfl, hpi, hbg, hsl, hlm, hT, hcb, hbb, hc0, hc1, hR⟩ := h.at_ i hi
  have hu60 := Try.underlying60
  have HP := Aside0.mk hpk
  have HF := Aside0.mk (it.ref_find l k (by omega))
  have HST := Aside0.mk h
  have HT := Aside0.mk hT
  have HR := Aside0.mk hR
  have HPI := Aside0.mk hpi
  have HSL := Aside0.mk hsl
  have HLM := Aside0.mk hlm
  have HCB := Aside0.mk hcb
  have HM := Aside0.mk hm
  have HBG := Aside0.mk hbg
  have HB := Aside0.mk hB
  have hcap := (Kd.R_reads' h.row).2.1
  have hle := it.fnd_le k l
  have HLE := Aside0.mk hle
  generalize hn1 : (l.map it.r5).length = n1 at *
  have HN1 := Aside0.mk hn1
  generalize hnp : ps.length = np at *
  have HNP := Aside0.mk hnp
  have hi0 : 0 ≤ (i : Int) := by omega
  have hi1 : (i : Int) < (np : Int) := by omega
  have hi2 : decide (i < np) = true := decide_eq_true hi
  clear hpk h hT hR hpi hsl hlm hcb hm hbg hB hbb hn1 hnp hcap hle
  have hk := hk g l HPI.out
  have hnl : l.length = n1 := by have := HN1.out; rwa [List.length_map] at this
  have b0 : decide (k < 0) = false := decide_eq_false (by omega)
  have b1 : decide (k ≥ (n1 : Int)) = true := decide_eq_true (by omega)
  have b2 : decide ((n1 : Int) ≤ k) = true := decide_eq_true (by omega)
  have HK := Aside0.mk (show k < 0 ∨ (l.length : Int) ≤ k from .inr hk)
  clear hk hk0 hnl
  go_enter Try.func27, Try.ntmps27
  go_wp2_with (first | ((with_reducible refine gate_dst (N := 3) rfl ?_); refine box_event ?hg (N := 3) ?hd (cs := #[.int .i64 4, .int .i64 on, .int .i64 k, .int .i64 z]) (t := 60) ?hr ?_; (case hd => rfl); (case hg => rfl); (case hr => first | (go_simp; done) | (go_simp; rfl)); intro gs hg w1 hbox hb; have HB1 := Aside0.mk hb; have L1 := Aside0.mk (show Lay w1 b i g RA n1 rc gs 4 on k z from ⟨(hb.cell (World.block_lt_of_cell? w _ hc0)).trans hc0, (hb.cell (World.block_lt_of_cell? w _ hc1)).trans hc1, hbox, by obtain ⟨cells, hc⟩ := HCB.out; exact ⟨cells, blk_below hc hb⟩⟩); clear hg hbox hb hc0 hc1; have hp0_ := L1.out.p0; have hp1_ := L1.out.p1; have hs0_ := L1.out.s0; have hs1_ := L1.out.s1; have hs2_ := L1.out.s2; have hs3_ := L1.out.s3) | (go_at_call 39; refine (scruplelaw05_pick.calls on (np : Int) (i : Int) _ HP.out).mono ?_; rintro e_ w2 ⟨rfl, hd⟩; have HB2 := Aside0.mk (below_then HB1.out HB1.out.size hd.below); have L2 := Aside0.mk (L1.out.below hd.below); clear hd; clear hp0_ hp1_ hs0_ hs1_ hs2_ hs3_; have hp0_ := L2.out.p0; have hp1_ := L2.out.p1; have hs0_ := L2.out.s0; have hs1_ := L2.out.s1; have hs2_ := L2.out.s2; have hs3_ := L2.out.s3))
  refine start_ (n := 12) (S := fun w' => w'.cell? ⟨b, i * 2, none⟩ = some (.pointer (some ⟨g, 0, none⟩)) ∧ w'.cell? ⟨b, i * 2 + 1, none⟩ = some (.slice RA n1 rc) ∧ w'.cell? ⟨gs, 0, none⟩ = some (.int .i64 4) ∧ w'.cell? ⟨gs, 1, none⟩ = some (.int .i64 on) ∧ w'.cell? ⟨gs, 2, none⟩ = some (.int .i64 k) ∧ w'.cell? ⟨gs, 3, none⟩ = some (.int .i64 z)) (ds := []) #[false, false, false, false, false, false, false, false, false, false, false, false] (by kernel_rfl) rfl rfl ⟨(L2.out.below (below_drew (Below.refl _ _))).p0, (L2.out.below (below_drew (Below.refl _ _))).p1, (L2.out.below (below_drew (Below.refl _ _))).s0, (L2.out.below (below_drew (Below.refl _ _))).s1, (L2.out.below (below_drew (Below.refl _ _))).s2, (L2.out.below (below_drew (Below.refl _ _))).s3⟩ (fun hHeld => ?_)
  generalize hwd : w2.drew = wd2 at hHeld ⊢
  have Ld2 := Aside0.mk (hwd ▸ (L2.out.below (below_drew (Below.refl _ _))))
  have HBd2 := Aside0.mk (hwd ▸ (below_drew HB2.out))
  clear hwd
  clear hp0_ hp1_ hs0_ hs1_ hs2_ hs3_
  refine pure_ (i := 0) (N := some 27) (v := ?_) (a' := ?_) #[true, false, false, false, false, false, false, false, false, false, false, false] rfl rfl (by kernel_rfl) (fun _ _ _ h => h) (Or.inl ⟨by rfl, ?_⟩) ?_ ?_
  rotate_left
  · intro w'
    go_simp
    with_reducible rfl
  rotate_left
  · simp only [Act.put, List.setIfInBounds_toArray, List.set_cons_zero, List.set_cons_succ, i64_w, i32_w]
    rfl
  refine pure_ (i := 1) (N := some 28) (v := ?_) (a' := ?_) #[true, true, false, false, false, false, false, false, false, false, false, false] rfl rfl (by kernel_rfl) (fun _ _ _ h => h) (Or.inl ⟨by rfl, ?_⟩) ?_ ?_
  rotate_left
  · intro w'
    go_simp
    with_reducible rfl
  rotate_left
  · simp only [Act.put, List.setIfInBounds_toArray, List.set_cons_zero, List.set_cons_succ, i64_w, i32_w]
    rfl
  refine pure_ (i := 2) (N := some 29) (v := ?_) (a' := ?_) #[true, true, true, false, false, false, false, false, false, false, false, false] rfl rfl (by kernel_rfl) (fun _ _ _ h => h) (Or.inl ⟨by rfl, ?_⟩) ?_ ?_
  rotate_left
  · intro w'
    go_simp
    with_reducible rfl
  rotate_left
  · simp only [Act.put, List.setIfInBounds_toArray, List.set_cons_zero, List.set_cons_succ, i64_w, i32_w]
    rfl
  refine pure_ (i := 4) (N := some 31) (v := ?_) (a' := ?_) #[true, true, true, false, true, false, false, false, false, false, false, false] rfl rfl (by kernel_rfl) (fun _ _ _ h => h) (Or.inl ⟨by rfl, ?_⟩) ?_ ?_
  rotate_left
  · intro w'
    go_simp
    with_reducible rfl
  rotate_left
  · simp only [Act.put, List.setIfInBounds_toArray, List.set_cons_zero, List.set_cons_succ, i64_w, i32_w]
    rfl
  refine take_ (i := 3) (N := some 30) (v := ?_) (a' := ?_) #[true, true, true, true, true, false, false, false, false, false, false, false] rfl rfl (by kernel_rfl) (fun _ _ _ h => h) (Or.inl ⟨by rfl, ?_⟩) hHeld ?_ ?_
  rotate_left
  · rintro w' ⟨s0, s1, s2, s3, s4, s5⟩
    go_simp
    with_reducible rfl
  rotate_left
  · simp only [Act.put, List.setIfInBounds_toArray, List.set_cons_zero, List.set_cons_succ, i64_w, i32_w]
    rfl
  refine take_ (i := 5) (N := some 32) (v := ?_) (a' := ?_) #[true, true, true, true, true, true, false, false, false, false, false, false] rfl rfl (by kernel_rfl) (fun _ _ _ h => h) (Or.inl ⟨by rfl, ?_⟩) hHeld ?_ ?_
  rotate_left
  · rintro w' ⟨s0, s1, s2, s3, s4, s5⟩
    go_simp
    with_reducible rfl
  rotate_left
  · simp only [Act.put, List.setIfInBounds_toArray, List.set_cons_zero, List.set_cons_succ, i64_w, i32_w]
    rfl
  refine one_ (i := 6) (N := some 33) #[true, true, true, true, true, true, true, false, false, false, false, false] rfl rfl (by kernel_rfl) (by decide) (fun K hK => ?_)
  refine goes_ Try.func16 (by kernel_rfl) rfl #[.slice RA n1 rc, .int .i64 k] (by rfl) rfl rfl (by (try simp only [List.map_toArray, List.map_cons, List.map_nil]); first | done | rfl) ?_
  refine (refFindC l k RA n1 rc HN1.out (Kd.R_below HR.out HBd2.out) HF.out).mono ?_
  rintro e w3 ⟨rfl, hd⟩
  refine ⟨_, rfl, ?_⟩
  have HB3 := Aside0.mk (below_then HBd2.out HBd2.out.size hd.below)
  have L3 := Aside0.mk (Ld2.out.below hd.below)
  clear hd
  have hp0_ := L3.out.p0
  have hp1_ := L3.out.p1
  have hs0_ := L3.out.s0
  have hs1_ := L3.out.s1
  have hs2_ := L3.out.s2
  have hs3_ := L3.out.s3
  refine hK.out _ _ ⟨L3.out.p0, L3.out.p1, L3.out.s0, L3.out.s1, L3.out.s2, L3.out.s3⟩ (fun hHeld => ?_)
  clear hK K
  refine norm_ (a' := ?_) ?_ ?_
  rotate_left
  · show Act.put _ (some 33) _ = _
    simp only [Act.put, List.setIfInBounds_toArray, List.set_cons_zero, List.set_cons_succ, i64_w, i32_w]
    rfl
  refine pure_ (i := 7) (N := some 26) (v := ?_) (a' := ?_) #[true, true, true, true, true, true, true, true, false, false, false, false] rfl rfl (by kernel_rfl) (fun _ _ _ h => h) (Or.inl ⟨by rfl, ?_⟩) ?_ ?_
  rotate_left
  · intro w'
    go_simp
    with_reducible rfl
  rotate_left
  · simp only [Act.put, List.setIfInBounds_toArray, List.set_cons_zero, List.set_cons_succ, i64_w, i32_w]
    rfl
  refine pure_ (i := 8) (N := some 34) (v := ?_) (a' := ?_) #[true, true, true, true, true, true, true, true, true, false, false, false] rfl rfl (by kernel_rfl) (fun _ _ _ h => h) (Or.inl ⟨by rfl, ?_⟩) ?_ ?_
  rotate_left
  · intro w'
    go_simp
    with_reducible rfl
  rotate_left
  · simp only [Act.put, List.setIfInBounds_toArray, List.set_cons_zero, List.set_cons_succ, i64_w, i32_w]
    rfl
  refine pure_ (i := 9) (N := some 35) (v := ?_) (a' := ?_) #[true, true, true, true, true, true, true, true, true, true, false, false] rfl rfl (by kernel_rfl) (fun _ _ _ h => h) (Or.inl ⟨by rfl, ?_⟩) ?_ ?_
  rotate_left
  · intro w'
    go_simp
    with_reducible rfl
  rotate_left
  · simp only [Act.put, List.setIfInBounds_toArray, List.set_cons_zero, List.set_cons_succ, i64_w, i32_w]
    rfl
  refine pure_ (i := 10) (N := some 7) (v := ?_) (a' := ?_) #[true, true, true, true, true, true, true, true, true, true, true, false] rfl rfl (by kernel_rfl) (fun _ _ _ h => h) (Or.inl ⟨by rfl, ?_⟩) ?_ ?_
  rotate_left
  · intro w'
    go_simp
    with_reducible rfl
  rotate_left
  · simp only [Act.put, List.setIfInBounds_toArray, List.set_cons_zero, List.set_cons_succ, i64_w, i32_w]
    rfl
  refine pure_ (i := 11) (N := some 8) (v := ?_) (a' := ?_) #[true, true, true, true, true, true, true, true, true, true, true, true] rfl rfl (by kernel_rfl) (fun _ _ _ h => h) (Or.inl ⟨by rfl, ?_⟩) ?_ ?_
  rotate_left
  · intro w'
    go_simp
    with_reducible rfl
  rotate_left
  · simp only [Act.put, List.setIfInBounds_toArray, List.set_cons_zero, List.set_cons_succ, i64_w, i32_w]
    rfl
  refine done_ (by kernel_rfl) ?_
  try go_wp2
  refine start_ (n := 14) (S := fun w' => w'.cell? ⟨b, i * 2, none⟩ = some (.pointer (some ⟨g, 0, none⟩)) ∧ w'.cell? ⟨b, i * 2 + 1, none⟩ = some (.slice RA n1 rc) ∧ w'.cell? ⟨gs, 0, none⟩ = some (.int .i64 4) ∧ w'.cell? ⟨gs, 1, none⟩ = some (.int .i64 on) ∧ w'.cell? ⟨gs, 2, none⟩ = some (.int .i64 k) ∧ w'.cell? ⟨gs, 3, none⟩ = some (.int .i64 z)) (ds := []) #[false, false, false, false, false, false, false, false, false, false, false, false, false, false] (by kernel_rfl) rfl rfl ⟨(L3.out.below (below_drew (Below.refl _ _))).p0, (L3.out.below (below_drew (Below.refl _ _))).p1, (L3.out.below (below_drew (Below.refl _ _))).s0, (L3.out.below (below_drew (Below.refl _ _))).s1, (L3.out.below (below_drew (Below.refl _ _))).s2, (L3.out.below (below_drew (Below.refl _ _))).s3⟩ (fun hHeld => ?_)
  generalize hwd : w3.drew = wd3 at hHeld ⊢
  have Ld3 := Aside0.mk (hwd ▸ (L3.out.below (below_drew (Below.refl _ _))))
  have HBd3 := Aside0.mk (hwd ▸ (below_drew HB3.out))
  clear hwd
  clear hp0_ hp1_ hs0_ hs1_ hs2_ hs3_
  refine pure_ (i := 0) (N := some 136) (v := ?_) (a' := ?_) #[true, false, false, false, false, false, false, false, false, false, false, false, false, false] rfl rfl (by kernel_rfl) (fun _ _ _ h => h) (Or.inl ⟨by rfl, ?_⟩) ?_ ?_
  rotate_left
  · intro w'
    go_simp
    with_reducible rfl
  rotate_left
  · simp only [Act.put, List.setIfInBounds_toArray, List.set_cons_zero, List.set_cons_succ, i64_w, i32_w]
    rfl
  refine pure_ (i := 1) (N := some 137) (v := ?_) (a' := ?_) #[true, true, false, false, false, false, false, false, false, false, false, false, false, false] rfl rfl (by kernel_rfl) (fun _ _ _ h => h) (Or.inl ⟨by rfl, ?_⟩) ?_ ?_
  rotate_left
  · intro w'
    go_simp
    with_reducible rfl
  rotate_left
  · simp only [Act.put, List.setIfInBounds_toArray, List.set_cons_zero, List.set_cons_succ, i64_w, i32_w]
    rfl
  refine pure_ (i := 2) (N := some 138) (v := ?_) (a' := ?_) #[true, true, true, false, false, false, false, false, false, false, false, false, false, false] rfl rfl (by kernel_rfl) (fun _ _ _ h => h) (Or.inl ⟨by rfl, ?_⟩) ?_ ?_
  rotate_left
  · intro w'
    go_simp
    with_reducible rfl
  rotate_left
  · simp only [Act.put, List.setIfInBounds_toArray, List.set_cons_zero, List.set_cons_succ, i64_w, i32_w]
    rfl
  refine pure_ (i := 4) (N := some 140) (v := ?_) (a' := ?_) #[true, true, true, false, true, false, false, false, false, false, false, false, false, false] rfl rfl (by kernel_rfl) (fun _ _ _ h => h) (Or.inl ⟨by rfl, ?_⟩) ?_ ?_
  rotate_left
  · intro w'
    go_simp
    with_reducible rfl
  rotate_left
  · simp only [Act.put, List.setIfInBounds_toArray, List.set_cons_zero, List.set_cons_succ, i64_w, i32_w]
    rfl
  refine take_ (i := 3) (N := some 139) (v := ?_) (a' := ?_) #[true, true, true, true, true, false, false, false, false, false, false, false, false, false] rfl rfl (by kernel_rfl) (fun _ _ _ h => h) (Or.inl ⟨by rfl, ?_⟩) hHeld ?_ ?_
  rotate_left
  · rintro w' ⟨s0, s1, s2, s3, s4, s5⟩
    go_simp
    with_reducible rfl
  rotate_left
  · simp only [Act.put, List.setIfInBounds_toArray, List.set_cons_zero, List.set_cons_succ, i64_w, i32_w]
    rfl
  refine take_ (i := 5) (N := some 141) (v := ?_) (a' := ?_) #[true, true, true, true, true, true, false, false, false, false, false, false, false, false] rfl rfl (by kernel_rfl) (fun _ _ _ h => h) (Or.inl ⟨by rfl, ?_⟩) hHeld ?_ ?_
  rotate_left
  · rintro w' ⟨s0, s1, s2, s3, s4, s5⟩
    go_simp
    with_reducible rfl
  rotate_left
  · simp only [Act.put, List.setIfInBounds_toArray, List.set_cons_zero, List.set_cons_succ, i64_w, i32_w]
    rfl
  refine one_ (i := 6) (N := some 142) #[true, true, true, true, true, true, true, false, false, false, false, false, false, false] rfl rfl (by kernel_rfl) (by decide) (fun K hK => ?_)
  refine goes_ Try.func19 (by kernel_rfl) rfl #[.pointer (some ⟨g, 0, none⟩), .int .i64 k] (by rfl) rfl rfl (by (try simp only [List.map_toArray, List.map_cons, List.map_nil]); first | done | rfl) ?_
  refine (it.at0 (HT.out.below HBd3.out) k HK.out).mono ?_
  rintro e w4 ⟨rfl, hb4⟩
  refine ⟨_, rfl, ?_⟩
  have HB4 := Aside0.mk (below_then HBd3.out HBd3.out.size hb4)
  have L4 := Aside0.mk (Ld3.out.below hb4)
  clear hb4
  have hp0_ := L4.out.p0
  have hp1_ := L4.out.p1
  have hs0_ := L4.out.s0
  have hs1_ := L4.out.s1
  have hs2_ := L4.out.s2
  have hs3_ := L4.out.s3
  refine hK.out _ _ ⟨L4.out.p0, L4.out.p1, L4.out.s0, L4.out.s1, L4.out.s2, L4.out.s3⟩ (fun hHeld => ?_)
  clear hK K
  refine norm_ (a' := ?_) ?_ ?_
  rotate_left
  · show Act.put _ (some 142) _ = _
    simp only [Act.put, List.setIfInBounds_toArray, List.set_cons_zero, List.set_cons_succ, i64_w, i32_w]
    rfl
  refine pure_ (i := 7) (N := some 135) (v := ?_) (a' := ?_) #[true, true, true, true, true, true, true, true, false, false, false, false, false, false] rfl rfl (by kernel_rfl) (fun _ _ _ h => h) (Or.inl ⟨by rfl, ?_⟩) ?_ ?_
  rotate_left
  · intro w'
    go_simp
    with_reducible rfl
  rotate_left
  · simp only [Act.put, List.setIfInBounds_toArray, List.set_cons_zero, List.set_cons_succ, i64_w, i32_w]
    rfl
  refine pure_ (i := 8) (N := some 143) (v := ?_) (a' := ?_) #[true, true, true, true, true, true, true, true, true, false, false, false, false, false] rfl rfl (by kernel_rfl) (fun _ _ _ h => h) (Or.inl ⟨by rfl, ?_⟩) ?_ ?_
  rotate_left
  · intro w'
    go_simp
    with_reducible rfl
  rotate_left
  · simp only [Act.put, List.setIfInBounds_toArray, List.set_cons_zero, List.set_cons_succ, i64_w, i32_w]
    rfl
  refine pure_ (i := 9) (N := some 144) (v := ?_) (a' := ?_) #[true, true, true, true, true, true, true, true, true, true, false, false, false, false] rfl rfl (by kernel_rfl) (fun _ _ _ h => h) (Or.inl ⟨by rfl, ?_⟩) ?_ ?_
  rotate_left
  · intro w'
    go_simp
    with_reducible rfl
  rotate_left
  · simp only [Act.put, List.setIfInBounds_toArray, List.set_cons_zero, List.set_cons_succ, i64_w, i32_w]
    rfl
  refine pure_ (i := 10) (N := some 145) (v := ?_) (a' := ?_) #[true, true, true, true, true, true, true, true, true, true, true, false, false, false] rfl rfl (by kernel_rfl) (fun _ _ _ h => h) (Or.inl ⟨by rfl, ?_⟩) ?_ ?_
  rotate_left
  · intro w'
    go_simp
    with_reducible rfl
  rotate_left
  · simp only [Act.put, List.setIfInBounds_toArray, List.set_cons_zero, List.set_cons_succ, i64_w, i32_w]
    rfl
  refine pure_ (i := 11) (N := some 13) (v := ?_) (a' := ?_) #[true, true, true, true, true, true, true, true, true, true, true, true, false, false] rfl rfl (by kernel_rfl) (fun _ _ _ h => h) (Or.inl ⟨by rfl, ?_⟩) ?_ ?_
  rotate_left
  · intro w'
    go_simp
    with_reducible rfl
  rotate_left
  · simp only [Act.put, List.setIfInBounds_toArray, List.set_cons_zero, List.set_cons_succ, i64_w, i32_w]
    rfl
  refine pure_ (i := 12) (N := some 14) (v := ?_) (a' := ?_) #[true, true, true, true, true, true, true, true, true, true, true, true, true, false] rfl rfl (by kernel_rfl) (fun _ _ _ h => h) (Or.inl ⟨by rfl, ?_⟩) ?_ ?_
  rotate_left
  · intro w'
    go_simp
    with_reducible rfl
  rotate_left
  · simp only [Act.put, List.setIfInBounds_toArray, List.set_cons_zero, List.set_cons_succ, i64_w, i32_w]
    rfl
  refine pure_ (i := 13) (N := some 15) (v := ?_) (a' := ?_) #[true, true, true, true, true, true, true, true, true, true, true, true, true, true] rfl rfl (by kernel_rfl) (fun _ _ _ h => h) (Or.inl ⟨by rfl, ?_⟩) ?_ ?_
  rotate_left
  · intro w'
    go_simp
    with_reducible rfl
  rotate_left
  · simp only [Act.put, List.setIfInBounds_toArray, List.set_cons_zero, List.set_cons_succ, i64_w, i32_w]
    rfl
  refine done_ (by kernel_rfl) ?_
  try go_wp2
  go_quiet (fail)
  go_wp2
  go_ret2
  have e0 := HNP.out
  subst e0
  exact ⟨.slice (some ⟨b, 0, none⟩) ps.length cap, ps, by simp, (HST.out.below (pw_below_drewN HB4.out _)).more, below_then HB.out HB.out.size (pw_below_drewN HB4.out _), FrT.of_below _ (pw_below_drewN HB4.out _)⟩
theorem doesAtM {w0 w : World} {m : Nat} {v : Value} {ps : List (Nat × List S80)} (hB : Below w0.heap.size w0 w) (h : St w w0.heap.size m v ps) (on k z : Int) (i : Nat) (hpk : scruplelaw05_pick.f on (ps.length : Int) = some (i : Int)) (hi : i < ps.length) (hm : (m + 4) * 16 ≤ 140737488355328) (hk0 : 0 ≤ k) (hk : ∀ g l, ps[i]? = some (g, l) → k < (l.length : Int)) :
    Calls Try.prog 27 #[v, .agg #[.int .i64 4, .int .i64 on, .int .i64 k, .int .i64 z]] w fun e w' => ∃ (v' : Value) (ps' : List (Nat × List S80)), e = .returned (.tuple #[v', .bool true]) ∧ St w' w0.heap.size (m + 1) v' ps' ∧ Below w0.heap.size w0 w' ∧ FrT v v' w w' := by
  obtain ⟨b, cap, g, l, A, c, RA, rc, rfl, hpi, hbg, hsl, hlm, hT, hcb, hbb, hc0, hc1, hR⟩ := h.at_ i hi
  have hu60 := Try.underlying60
  have HP := Aside0.mk hpk
  have HF := Aside0.mk (it.ref_find l k (by omega))
  have HST := Aside0.mk h
  have HT := Aside0.mk hT
  have HR := Aside0.mk hR
  have HPI := Aside0.mk hpi
  have HSL := Aside0.mk hsl
  have HLM := Aside0.mk hlm
  have HCB := Aside0.mk hcb
  have HM := Aside0.mk hm
  have HBG := Aside0.mk hbg
  have HB := Aside0.mk hB
  have hcap := (Kd.R_reads' h.row).2.1
  have hle := it.fnd_le k l
  have HLE := Aside0.mk hle
  generalize hn1 : (l.map it.r5).length = n1 at *
  have HN1 := Aside0.mk hn1
  generalize hnp : ps.length = np at *
  have HNP := Aside0.mk hnp
  have hi0 : 0 ≤ (i : Int) := by omega
  have hi1 : (i : Int) < (np : Int) := by omega
  have hi2 : decide (i < np) = true := decide_eq_true hi
  clear hpk h hT hR hpi hsl hlm hcb hm hbg hB hbb hn1 hnp hcap hle
  have hk := hk g l HPI.out
  have hnl : l.length = n1 := by have := HN1.out; rwa [List.length_map] at this
  obtain ⟨adR, rfl, hx0, hx1⟩ := at_T50 (HN1.out ▸ (Kd.R_reads' HR.out).2.2) k hk0 (by omega)
  obtain ⟨kn, rfl⟩ := Int.eq_ofNat_of_zero_le hk0
  rw [Int.toNat_natCast, it.rd5 (by omega)] at hx0 hx1
  simp only [it.r5] at hx0 hx1
  have HX0 := Aside0.mk hx0
  have HX1 := Aside0.mk hx1
  have b0 : decide ((kn : Int) < 0) = false := decide_eq_false (by omega)
  have b1 : decide ((kn : Int) ≥ (n1 : Int)) = false := decide_eq_false (by omega)
  have b2 : decide ((n1 : Int) ≤ (kn : Int)) = false := decide_eq_false (by omega)
  have b3 : decide (n1 ≤ kn) = false := decide_eq_false (by omega)
  have k1 : (kn : Int) < (n1 : Int) := by omega
  have k2 : kn < n1 := by omega
  have HK := Aside0.mk (show 0 ≤ (kn : Int) ∧ (kn : Int) < (l.length : Int) by omega)
  clear hk hk0 hnl hx0 hx1
  go_enter Try.func27, Try.ntmps27
  go_wp2_with (first | ((with_reducible refine gate_dst (N := 3) rfl ?_); refine box_event ?hg (N := 3) ?hd (cs := #[.int .i64 4, .int .i64 on, .int .i64 (kn : Int), .int .i64 z]) (t := 60) ?hr ?_; (case hd => rfl); (case hg => rfl); (case hr => first | (go_simp; done) | (go_simp; rfl)); intro gs hg w1 hbox hb; have HB1 := Aside0.mk hb; have L1 := Aside0.mk (show Lay w1 b i g (some adR) n1 rc gs 4 on (kn : Int) z from ⟨(hb.cell (World.block_lt_of_cell? w _ hc0)).trans hc0, (hb.cell (World.block_lt_of_cell? w _ hc1)).trans hc1, hbox, by obtain ⟨cells, hc⟩ := HCB.out; exact ⟨cells, blk_below hc hb⟩⟩); clear hg hbox hb hc0 hc1; have hp0_ := L1.out.p0; have hp1_ := L1.out.p1; have hs0_ := L1.out.s0; have hs1_ := L1.out.s1; have hs2_ := L1.out.s2; have hs3_ := L1.out.s3) | (go_at_call 39; refine (scruplelaw05_pick.calls on (np : Int) (i : Int) _ HP.out).mono ?_; rintro e_ w2 ⟨rfl, hd⟩; have HB2 := Aside0.mk (below_then HB1.out HB1.out.size hd.below); have L2 := Aside0.mk (L1.out.below hd.below); clear hd; clear hp0_ hp1_ hs0_ hs1_ hs2_ hs3_; have hp0_ := L2.out.p0; have hp1_ := L2.out.p1; have hs0_ := L2.out.s0; have hs1_ := L2.out.s1; have hs2_ := L2.out.s2; have hs3_ := L2.out.s3))
  refine start_ (n := 12) (S := fun w' => w'.cell? ⟨b, i * 2, none⟩ = some (.pointer (some ⟨g, 0, none⟩)) ∧ w'.cell? ⟨b, i * 2 + 1, none⟩ = some (.slice (some adR) n1 rc) ∧ w'.cell? ⟨gs, 0, none⟩ = some (.int .i64 4) ∧ w'.cell? ⟨gs, 1, none⟩ = some (.int .i64 on) ∧ w'.cell? ⟨gs, 2, none⟩ = some (.int .i64 (kn : Int)) ∧ w'.cell? ⟨gs, 3, none⟩ = some (.int .i64 z)) (ds := []) #[false, false, false, false, false, false, false, false, false, false, false, false] (by kernel_rfl) rfl rfl ⟨(L2.out.below (below_drew (Below.refl _ _))).p0, (L2.out.below (below_drew (Below.refl _ _))).p1, (L2.out.below (below_drew (Below.refl _ _))).s0, (L2.out.below (below_drew (Below.refl _ _))).s1, (L2.out.below (below_drew (Below.refl _ _))).s2, (L2.out.below (below_drew (Below.refl _ _))).s3⟩ (fun hHeld => ?_)
  generalize hwd : w2.drew = wd2 at hHeld ⊢
  have Ld2 := Aside0.mk (hwd ▸ (L2.out.below (below_drew (Below.refl _ _))))
  have HBd2 := Aside0.mk (hwd ▸ (below_drew HB2.out))
  clear hwd
  clear hp0_ hp1_ hs0_ hs1_ hs2_ hs3_
  refine pure_ (i := 0) (N := some 27) (v := ?_) (a' := ?_) #[true, false, false, false, false, false, false, false, false, false, false, false] rfl rfl (by kernel_rfl) (fun _ _ _ h => h) (Or.inl ⟨by rfl, ?_⟩) ?_ ?_
  rotate_left
  · intro w'
    go_simp
    with_reducible rfl
  rotate_left
  · simp only [Act.put, List.setIfInBounds_toArray, List.set_cons_zero, List.set_cons_succ, i64_w, i32_w]
    rfl
  refine pure_ (i := 1) (N := some 28) (v := ?_) (a' := ?_) #[true, true, false, false, false, false, false, false, false, false, false, false] rfl rfl (by kernel_rfl) (fun _ _ _ h => h) (Or.inl ⟨by rfl, ?_⟩) ?_ ?_
  rotate_left
  · intro w'
    go_simp
    with_reducible rfl
  rotate_left
  · simp only [Act.put, List.setIfInBounds_toArray, List.set_cons_zero, List.set_cons_succ, i64_w, i32_w]
    rfl
  refine pure_ (i := 2) (N := some 29) (v := ?_) (a' := ?_) #[true, true, true, false, false, false, false, false, false, false, false, false] rfl rfl (by kernel_rfl) (fun _ _ _ h => h) (Or.inl ⟨by rfl, ?_⟩) ?_ ?_
  rotate_left
  · intro w'
    go_simp
    with_reducible rfl
  rotate_left
  · simp only [Act.put, List.setIfInBounds_toArray, List.set_cons_zero, List.set_cons_succ, i64_w, i32_w]
    rfl
  refine pure_ (i := 4) (N := some 31) (v := ?_) (a' := ?_) #[true, true, true, false, true, false, false, false, false, false, false, false] rfl rfl (by kernel_rfl) (fun _ _ _ h => h) (Or.inl ⟨by rfl, ?_⟩) ?_ ?_
  rotate_left
  · intro w'
    go_simp
    with_reducible rfl
  rotate_left
  · simp only [Act.put, List.setIfInBounds_toArray, List.set_cons_zero, List.set_cons_succ, i64_w, i32_w]
    rfl
  refine take_ (i := 3) (N := some 30) (v := ?_) (a' := ?_) #[true, true, true, true, true, false, false, false, false, false, false, false] rfl rfl (by kernel_rfl) (fun _ _ _ h => h) (Or.inl ⟨by rfl, ?_⟩) hHeld ?_ ?_
  rotate_left
  · rintro w' ⟨s0, s1, s2, s3, s4, s5⟩
    go_simp
    with_reducible rfl
  rotate_left
  · simp only [Act.put, List.setIfInBounds_toArray, List.set_cons_zero, List.set_cons_succ, i64_w, i32_w]
    rfl
  refine take_ (i := 5) (N := some 32) (v := ?_) (a' := ?_) #[true, true, true, true, true, true, false, false, false, false, false, false] rfl rfl (by kernel_rfl) (fun _ _ _ h => h) (Or.inl ⟨by rfl, ?_⟩) hHeld ?_ ?_
  rotate_left
  · rintro w' ⟨s0, s1, s2, s3, s4, s5⟩
    go_simp
    with_reducible rfl
  rotate_left
  · simp only [Act.put, List.setIfInBounds_toArray, List.set_cons_zero, List.set_cons_succ, i64_w, i32_w]
    rfl
  refine one_ (i := 6) (N := some 33) #[true, true, true, true, true, true, true, false, false, false, false, false] rfl rfl (by kernel_rfl) (by decide) (fun K hK => ?_)
  refine goes_ Try.func16 (by kernel_rfl) rfl #[.slice (some adR) n1 rc, .int .i64 (kn : Int)] (by rfl) rfl rfl (by (try simp only [List.map_toArray, List.map_cons, List.map_nil]); first | done | rfl) ?_
  refine (refFindC l (kn : Int) (some adR) n1 rc HN1.out (Kd.R_below HR.out HBd2.out) HF.out).mono ?_
  rintro e w3 ⟨rfl, hd⟩
  refine ⟨_, rfl, ?_⟩
  have HB3 := Aside0.mk (below_then HBd2.out HBd2.out.size hd.below)
  have L3 := Aside0.mk (Ld2.out.below hd.below)
  clear hd
  have hp0_ := L3.out.p0
  have hp1_ := L3.out.p1
  have hs0_ := L3.out.s0
  have hs1_ := L3.out.s1
  have hs2_ := L3.out.s2
  have hs3_ := L3.out.s3
  refine hK.out _ _ ⟨L3.out.p0, L3.out.p1, L3.out.s0, L3.out.s1, L3.out.s2, L3.out.s3⟩ (fun hHeld => ?_)
  clear hK K
  refine norm_ (a' := ?_) ?_ ?_
  rotate_left
  · show Act.put _ (some 33) _ = _
    simp only [Act.put, List.setIfInBounds_toArray, List.set_cons_zero, List.set_cons_succ, i64_w, i32_w]
    rfl
  refine pure_ (i := 7) (N := some 26) (v := ?_) (a' := ?_) #[true, true, true, true, true, true, true, true, false, false, false, false] rfl rfl (by kernel_rfl) (fun _ _ _ h => h) (Or.inl ⟨by rfl, ?_⟩) ?_ ?_
  rotate_left
  · intro w'
    go_simp
    with_reducible rfl
  rotate_left
  · simp only [Act.put, List.setIfInBounds_toArray, List.set_cons_zero, List.set_cons_succ, i64_w, i32_w]
    rfl
  refine pure_ (i := 8) (N := some 34) (v := ?_) (a' := ?_) #[true, true, true, true, true, true, true, true, true, false, false, false] rfl rfl (by kernel_rfl) (fun _ _ _ h => h) (Or.inl ⟨by rfl, ?_⟩) ?_ ?_
  rotate_left
  · intro w'
    go_simp
    with_reducible rfl
  rotate_left
  · simp only [Act.put, List.setIfInBounds_toArray, List.set_cons_zero, List.set_cons_succ, i64_w, i32_w]
    rfl
  refine pure_ (i := 9) (N := some 35) (v := ?_) (a' := ?_) #[true, true, true, true, true, true, true, true, true, true, false, false] rfl rfl (by kernel_rfl) (fun _ _ _ h => h) (Or.inl ⟨by rfl, ?_⟩) ?_ ?_
  rotate_left
  · intro w'
    go_simp
    with_reducible rfl
  rotate_left
  · simp only [Act.put, List.setIfInBounds_toArray, List.set_cons_zero, List.set_cons_succ, i64_w, i32_w]
    rfl
  refine pure_ (i := 10) (N := some 7) (v := ?_) (a' := ?_) #[true, true, true, true, true, true, true, true, true, true, true, false] rfl rfl (by kernel_rfl) (fun _ _ _ h => h) (Or.inl ⟨by rfl, ?_⟩) ?_ ?_
  rotate_left
  · intro w'
    go_simp
    with_reducible rfl
  rotate_left
  · simp only [Act.put, List.setIfInBounds_toArray, List.set_cons_zero, List.set_cons_succ, i64_w, i32_w]
    rfl
  refine pure_ (i := 11) (N := some 8) (v := ?_) (a' := ?_) #[true, true, true, true, true, true, true, true, true, true, true, true] rfl rfl (by kernel_rfl) (fun _ _ _ h => h) (Or.inl ⟨by rfl, ?_⟩) ?_ ?_
  rotate_left
  · intro w'
    go_simp
    with_reducible rfl
  rotate_left
  · simp only [Act.put, List.setIfInBounds_toArray, List.set_cons_zero, List.set_cons_succ, i64_w, i32_w]
    rfl
  refine done_ (by kernel_rfl) ?_
  try go_wp2
  refine start_ (n := 14) (S := fun w' => w'.cell? ⟨b, i * 2, none⟩ = some (.pointer (some ⟨g, 0, none⟩)) ∧ w'.cell? ⟨b, i * 2 + 1, none⟩ = some (.slice (some adR) n1 rc) ∧ w'.cell? ⟨gs, 0, none⟩ = some (.int .i64 4) ∧ w'.cell? ⟨gs, 1, none⟩ = some (.int .i64 on) ∧ w'.cell? ⟨gs, 2, none⟩ = some (.int .i64 (kn : Int)) ∧ w'.cell? ⟨gs, 3, none⟩ = some (.int .i64 z)) (ds := []) #[false, false, false, false, false, false, false, false, false, false, false, false, false, false] (by kernel_rfl) rfl rfl ⟨(L3.out.below (below_drew (Below.refl _ _))).p0, (L3.out.below (below_drew (Below.refl _ _))).p1, (L3.out.below (below_drew (Below.refl _ _))).s0, (L3.out.below (below_drew (Below.refl _ _))).s1, (L3.out.below (below_drew (Below.refl _ _))).s2, (L3.out.below (below_drew (Below.refl _ _))).s3⟩ (fun hHeld => ?_)
  generalize hwd : w3.drew = wd3 at hHeld ⊢
  have Ld3 := Aside0.mk (hwd ▸ (L3.out.below (below_drew (Below.refl _ _))))
  have HBd3 := Aside0.mk (hwd ▸ (below_drew HB3.out))
  clear hwd
  clear hp0_ hp1_ hs0_ hs1_ hs2_ hs3_
  refine pure_ (i := 0) (N := some 136) (v := ?_) (a' := ?_) #[true, false, false, false, false, false, false, false, false, false, false, false, false, false] rfl rfl (by kernel_rfl) (fun _ _ _ h => h) (Or.inl ⟨by rfl, ?_⟩) ?_ ?_
  rotate_left
  · intro w'
    go_simp
    with_reducible rfl
  rotate_left
  · simp only [Act.put, List.setIfInBounds_toArray, List.set_cons_zero, List.set_cons_succ, i64_w, i32_w]
    rfl
  refine pure_ (i := 1) (N := some 137) (v := ?_) (a' := ?_) #[true, true, false, false, false, false, false, false, false, false, false, false, false, false] rfl rfl (by kernel_rfl) (fun _ _ _ h => h) (Or.inl ⟨by rfl, ?_⟩) ?_ ?_
  rotate_left
  · intro w'
    go_simp
    with_reducible rfl
  rotate_left
  · simp only [Act.put, List.setIfInBounds_toArray, List.set_cons_zero, List.set_cons_succ, i64_w, i32_w]
    rfl
  refine pure_ (i := 2) (N := some 138) (v := ?_) (a' := ?_) #[true, true, true, false, false, false, false, false, false, false, false, false, false, false] rfl rfl (by kernel_rfl) (fun _ _ _ h => h) (Or.inl ⟨by rfl, ?_⟩) ?_ ?_
  rotate_left
  · intro w'
    go_simp
    with_reducible rfl
  rotate_left
  · simp only [Act.put, List.setIfInBounds_toArray, List.set_cons_zero, List.set_cons_succ, i64_w, i32_w]
    rfl
  refine pure_ (i := 4) (N := some 140) (v := ?_) (a' := ?_) #[true, true, true, false, true, false, false, false, false, false, false, false, false, false] rfl rfl (by kernel_rfl) (fun _ _ _ h => h) (Or.inl ⟨by rfl, ?_⟩) ?_ ?_
  rotate_left
  · intro w'
    go_simp
    with_reducible rfl
  rotate_left
  · simp only [Act.put, List.setIfInBounds_toArray, List.set_cons_zero, List.set_cons_succ, i64_w, i32_w]
    rfl
  refine take_ (i := 3) (N := some 139) (v := ?_) (a' := ?_) #[true, true, true, true, true, false, false, false, false, false, false, false, false, false] rfl rfl (by kernel_rfl) (fun _ _ _ h => h) (Or.inl ⟨by rfl, ?_⟩) hHeld ?_ ?_
  rotate_left
  · rintro w' ⟨s0, s1, s2, s3, s4, s5⟩
    go_simp
    with_reducible rfl
  rotate_left
  · simp only [Act.put, List.setIfInBounds_toArray, List.set_cons_zero, List.set_cons_succ, i64_w, i32_w]
    rfl
  refine take_ (i := 5) (N := some 141) (v := ?_) (a' := ?_) #[true, true, true, true, true, true, false, false, false, false, false, false, false, false] rfl rfl (by kernel_rfl) (fun _ _ _ h => h) (Or.inl ⟨by rfl, ?_⟩) hHeld ?_ ?_
  rotate_left
  · rintro w' ⟨s0, s1, s2, s3, s4, s5⟩
    go_simp
    with_reducible rfl
  rotate_left
  · simp only [Act.put, List.setIfInBounds_toArray, List.set_cons_zero, List.set_cons_succ, i64_w, i32_w]
    rfl
  refine one_ (i := 6) (N := some 142) #[true, true, true, true, true, true, true, false, false, false, false, false, false, false] rfl rfl (by kernel_rfl) (by decide) (fun K hK => ?_)
  refine goes_ Try.func19 (by kernel_rfl) rfl #[.pointer (some ⟨g, 0, none⟩), .int .i64 (kn : Int)] (by rfl) rfl rfl (by (try simp only [List.map_toArray, List.map_cons, List.map_nil]); first | done | rfl) ?_
  refine (it.at1 (HT.out.below HBd3.out) (kn : Int) HK.out.1 HK.out.2).mono ?_
  rintro e w4 ⟨rfl, hb4⟩
  refine ⟨_, rfl, ?_⟩
  have HB4 := Aside0.mk (below_then HBd3.out HBd3.out.size hb4)
  have L4 := Aside0.mk (Ld3.out.below hb4)
  clear hb4
  have hp0_ := L4.out.p0
  have hp1_ := L4.out.p1
  have hs0_ := L4.out.s0
  have hs1_ := L4.out.s1
  have hs2_ := L4.out.s2
  have hs3_ := L4.out.s3
  refine hK.out _ _ ⟨L4.out.p0, L4.out.p1, L4.out.s0, L4.out.s1, L4.out.s2, L4.out.s3⟩ (fun hHeld => ?_)
  clear hK K
  refine norm_ (a' := ?_) ?_ ?_
  rotate_left
  · show Act.put _ (some 142) _ = _
    simp only [Act.put, List.setIfInBounds_toArray, List.set_cons_zero, List.set_cons_succ, i64_w, i32_w]
    rfl
  refine pure_ (i := 7) (N := some 135) (v := ?_) (a' := ?_) #[true, true, true, true, true, true, true, true, false, false, false, false, false, false] rfl rfl (by kernel_rfl) (fun _ _ _ h => h) (Or.inl ⟨by rfl, ?_⟩) ?_ ?_
  rotate_left
  · intro w'
    go_simp
    with_reducible rfl
  rotate_left
  · simp only [Act.put, List.setIfInBounds_toArray, List.set_cons_zero, List.set_cons_succ, i64_w, i32_w]
    rfl
  refine pure_ (i := 8) (N := some 143) (v := ?_) (a' := ?_) #[true, true, true, true, true, true, true, true, true, false, false, false, false, false] rfl rfl (by kernel_rfl) (fun _ _ _ h => h) (Or.inl ⟨by rfl, ?_⟩) ?_ ?_
  rotate_left
  · intro w'
    go_simp
    with_reducible rfl
  rotate_left
  · simp only [Act.put, List.setIfInBounds_toArray, List.set_cons_zero, List.set_cons_succ, i64_w, i32_w]
    rfl
  refine pure_ (i := 9) (N := some 144) (v := ?_) (a' := ?_) #[true, true, true, true, true, true, true, true, true, true, false, false, false, false] rfl rfl (by kernel_rfl) (fun _ _ _ h => h) (Or.inl ⟨by rfl, ?_⟩) ?_ ?_
  rotate_left
  · intro w'
    go_simp
    with_reducible rfl
  rotate_left
  · simp only [Act.put, List.setIfInBounds_toArray, List.set_cons_zero, List.set_cons_succ, i64_w, i32_w]
    rfl
  refine pure_ (i := 10) (N := some 145) (v := ?_) (a' := ?_) #[true, true, true, true, true, true, true, true, true, true, true, false, false, false] rfl rfl (by kernel_rfl) (fun _ _ _ h => h) (Or.inl ⟨by rfl, ?_⟩) ?_ ?_
  rotate_left
  · intro w'
    go_simp
    with_reducible rfl
  rotate_left
  · simp only [Act.put, List.setIfInBounds_toArray, List.set_cons_zero, List.set_cons_succ, i64_w, i32_w]
    rfl
  refine pure_ (i := 11) (N := some 13) (v := ?_) (a' := ?_) #[true, true, true, true, true, true, true, true, true, true, true, true, false, false] rfl rfl (by kernel_rfl) (fun _ _ _ h => h) (Or.inl ⟨by rfl, ?_⟩) ?_ ?_
  rotate_left
  · intro w'
    go_simp
    with_reducible rfl
  rotate_left
  · simp only [Act.put, List.setIfInBounds_toArray, List.set_cons_zero, List.set_cons_succ, i64_w, i32_w]
    rfl
  refine pure_ (i := 12) (N := some 14) (v := ?_) (a' := ?_) #[true, true, true, true, true, true, true, true, true, true, true, true, true, false] rfl rfl (by kernel_rfl) (fun _ _ _ h => h) (Or.inl ⟨by rfl, ?_⟩) ?_ ?_
  rotate_left
  · intro w'
    go_simp
    with_reducible rfl
  rotate_left
  · simp only [Act.put, List.setIfInBounds_toArray, List.set_cons_zero, List.set_cons_succ, i64_w, i32_w]
    rfl
  refine pure_ (i := 13) (N := some 15) (v := ?_) (a' := ?_) #[true, true, true, true, true, true, true, true, true, true, true, true, true, true] rfl rfl (by kernel_rfl) (fun _ _ _ h => h) (Or.inl ⟨by rfl, ?_⟩) ?_ ?_
  rotate_left
  · intro w'
    go_simp
    with_reducible rfl
  rotate_left
  · simp only [Act.put, List.setIfInBounds_toArray, List.set_cons_zero, List.set_cons_succ, i64_w, i32_w]
    rfl
  refine done_ (by kernel_rfl) ?_
  have hx0 := (HB4.out.cell (World.block_lt_of_cell? w _ HX0.out)).trans HX0.out
  have hx1 := (HB4.out.cell (World.block_lt_of_cell? w _ HX1.out)).trans HX1.out
  try go_wp2
  go_quiet (fail)
  go_wp2
  go_quiet (fail)
  go_wp2
  go_ret2
  have e0 := HNP.out
  subst e0
  exact ⟨.slice (some ⟨b, 0, none⟩) ps.length cap, ps, by simp, (HST.out.below (pw_below_drewN (pw_below_drewN HB4.out _) _)).more, below_then HB.out HB.out.size (pw_below_drewN (pw_below_drewN HB4.out _) _), FrT.of_below _ (pw_below_drewN (pw_below_drewN HB4.out _) _)⟩
theorem doesFind {w0 w : World} {m : Nat} {v : Value} {ps : List (Nat × List S80)} (hB : Below w0.heap.size w0 w) (h : St w w0.heap.size m v ps) (on k z : Int) (i : Nat) (hpk : scruplelaw05_pick.f on (ps.length : Int) = some (i : Int)) (hi : i < ps.length) (hm : (m + 4) * 16 ≤ 140737488355328) :
    Calls Try.prog 27 #[v, .agg #[.int .i64 5, .int .i64 on, .int .i64 k, .int .i64 z]] w fun e w' => ∃ (v' : Value) (ps' : List (Nat × List S80)), e = .returned (.tuple #[v', .bool true]) ∧ St w' w0.heap.size (m + 1) v' ps' ∧ Below w0.heap.size w0 w' ∧ FrT v v' w w' := by
  obtain ⟨b, cap, g, l, A, c, RA, rc, rfl, hpi, hbg, hsl, hlm, hT, hcb, hbb, hc0, hc1, hR⟩ := h.at_ i hi
  have hu60 := Try.underlying60
  have HP := Aside0.mk hpk
  have HF := Aside0.mk (it.ref_find l k (by omega))
  have HST := Aside0.mk h
  have HT := Aside0.mk hT
  have HR := Aside0.mk hR
  have HPI := Aside0.mk hpi
  have HSL := Aside0.mk hsl
  have HLM := Aside0.mk hlm
  have HCB := Aside0.mk hcb
  have HM := Aside0.mk hm
  have HBG := Aside0.mk hbg
  have HB := Aside0.mk hB
  have hcap := (Kd.R_reads' h.row).2.1
  have hle := it.fnd_le k l
  have HLE := Aside0.mk hle
  generalize hn1 : (l.map it.r5).length = n1 at *
  have HN1 := Aside0.mk hn1
  generalize hnp : ps.length = np at *
  have HNP := Aside0.mk hnp
  have hi0 : 0 ≤ (i : Int) := by omega
  have hi1 : (i : Int) < (np : Int) := by omega
  have hi2 : decide (i < np) = true := decide_eq_true hi
  clear hpk h hT hR hpi hsl hlm hcb hm hbg hB hbb hn1 hnp hcap hle
  go_enter Try.func27, Try.ntmps27
  go_wp2_with (first | ((with_reducible refine gate_dst (N := 3) rfl ?_); refine box_event ?hg (N := 3) ?hd (cs := #[.int .i64 5, .int .i64 on, .int .i64 k, .int .i64 z]) (t := 60) ?hr ?_; (case hd => rfl); (case hg => rfl); (case hr => first | (go_simp; done) | (go_simp; rfl)); intro gs hg w1 hbox hb; have HB1 := Aside0.mk hb; have L1 := Aside0.mk (show Lay w1 b i g RA n1 rc gs 5 on k z from ⟨(hb.cell (World.block_lt_of_cell? w _ hc0)).trans hc0, (hb.cell (World.block_lt_of_cell? w _ hc1)).trans hc1, hbox, by obtain ⟨cells, hc⟩ := HCB.out; exact ⟨cells, blk_below hc hb⟩⟩); clear hg hbox hb hc0 hc1; have hp0_ := L1.out.p0; have hp1_ := L1.out.p1; have hs0_ := L1.out.s0; have hs1_ := L1.out.s1; have hs2_ := L1.out.s2; have hs3_ := L1.out.s3) | (go_at_call 39; refine (scruplelaw05_pick.calls on (np : Int) (i : Int) _ HP.out).mono ?_; rintro e_ w2 ⟨rfl, hd⟩; have HB2 := Aside0.mk (below_then HB1.out HB1.out.size hd.below); have L2 := Aside0.mk (L1.out.below hd.below); clear hd; clear hp0_ hp1_ hs0_ hs1_ hs2_ hs3_; have hp0_ := L2.out.p0; have hp1_ := L2.out.p1; have hs0_ := L2.out.s0; have hs1_ := L2.out.s1; have hs2_ := L2.out.s2; have hs3_ := L2.out.s3))
  refine start_ (n := 12) (S := fun w' => w'.cell? ⟨b, i * 2, none⟩ = some (.pointer (some ⟨g, 0, none⟩)) ∧ w'.cell? ⟨b, i * 2 + 1, none⟩ = some (.slice RA n1 rc) ∧ w'.cell? ⟨gs, 0, none⟩ = some (.int .i64 5) ∧ w'.cell? ⟨gs, 1, none⟩ = some (.int .i64 on) ∧ w'.cell? ⟨gs, 2, none⟩ = some (.int .i64 k) ∧ w'.cell? ⟨gs, 3, none⟩ = some (.int .i64 z)) (ds := []) #[false, false, false, false, false, false, false, false, false, false, false, false] (by kernel_rfl) rfl rfl ⟨(L2.out.below (below_drew (Below.refl _ _))).p0, (L2.out.below (below_drew (Below.refl _ _))).p1, (L2.out.below (below_drew (Below.refl _ _))).s0, (L2.out.below (below_drew (Below.refl _ _))).s1, (L2.out.below (below_drew (Below.refl _ _))).s2, (L2.out.below (below_drew (Below.refl _ _))).s3⟩ (fun hHeld => ?_)
  generalize hwd : w2.drew = wd2 at hHeld ⊢
  have Ld2 := Aside0.mk (hwd ▸ (L2.out.below (below_drew (Below.refl _ _))))
  have HBd2 := Aside0.mk (hwd ▸ (below_drew HB2.out))
  clear hwd
  clear hp0_ hp1_ hs0_ hs1_ hs2_ hs3_
  refine pure_ (i := 0) (N := some 27) (v := ?_) (a' := ?_) #[true, false, false, false, false, false, false, false, false, false, false, false] rfl rfl (by kernel_rfl) (fun _ _ _ h => h) (Or.inl ⟨by rfl, ?_⟩) ?_ ?_
  rotate_left
  · intro w'
    go_simp
    with_reducible rfl
  rotate_left
  · simp only [Act.put, List.setIfInBounds_toArray, List.set_cons_zero, List.set_cons_succ, i64_w, i32_w]
    rfl
  refine pure_ (i := 1) (N := some 28) (v := ?_) (a' := ?_) #[true, true, false, false, false, false, false, false, false, false, false, false] rfl rfl (by kernel_rfl) (fun _ _ _ h => h) (Or.inl ⟨by rfl, ?_⟩) ?_ ?_
  rotate_left
  · intro w'
    go_simp
    with_reducible rfl
  rotate_left
  · simp only [Act.put, List.setIfInBounds_toArray, List.set_cons_zero, List.set_cons_succ, i64_w, i32_w]
    rfl
  refine pure_ (i := 2) (N := some 29) (v := ?_) (a' := ?_) #[true, true, true, false, false, false, false, false, false, false, false, false] rfl rfl (by kernel_rfl) (fun _ _ _ h => h) (Or.inl ⟨by rfl, ?_⟩) ?_ ?_
  rotate_left
  · intro w'
    go_simp
    with_reducible rfl
  rotate_left
  · simp only [Act.put, List.setIfInBounds_toArray, List.set_cons_zero, List.set_cons_succ, i64_w, i32_w]
    rfl
  refine pure_ (i := 4) (N := some 31) (v := ?_) (a' := ?_) #[true, true, true, false, true, false, false, false, false, false, false, false] rfl rfl (by kernel_rfl) (fun _ _ _ h => h) (Or.inl ⟨by rfl, ?_⟩) ?_ ?_
  rotate_left
  · intro w'
    go_simp
    with_reducible rfl
  rotate_left
  · simp only [Act.put, List.setIfInBounds_toArray, List.set_cons_zero, List.set_cons_succ, i64_w, i32_w]
    rfl
  refine take_ (i := 3) (N := some 30) (v := ?_) (a' := ?_) #[true, true, true, true, true, false, false, false, false, false, false, false] rfl rfl (by kernel_rfl) (fun _ _ _ h => h) (Or.inl ⟨by rfl, ?_⟩) hHeld ?_ ?_
  rotate_left
  · rintro w' ⟨s0, s1, s2, s3, s4, s5⟩
    go_simp
    with_reducible rfl
  rotate_left
  · simp only [Act.put, List.setIfInBounds_toArray, List.set_cons_zero, List.set_cons_succ, i64_w, i32_w]
    rfl
  refine take_ (i := 5) (N := some 32) (v := ?_) (a' := ?_) #[true, true, true, true, true, true, false, false, false, false, false, false] rfl rfl (by kernel_rfl) (fun _ _ _ h => h) (Or.inl ⟨by rfl, ?_⟩) hHeld ?_ ?_
  rotate_left
  · rintro w' ⟨s0, s1, s2, s3, s4, s5⟩
    go_simp
    with_reducible rfl
  rotate_left
  · simp only [Act.put, List.setIfInBounds_toArray, List.set_cons_zero, List.set_cons_succ, i64_w, i32_w]
    rfl
  refine one_ (i := 6) (N := some 33) #[true, true, true, true, true, true, true, false, false, false, false, false] rfl rfl (by kernel_rfl) (by decide) (fun K hK => ?_)
  refine goes_ Try.func16 (by kernel_rfl) rfl #[.slice RA n1 rc, .int .i64 k] (by rfl) rfl rfl (by (try simp only [List.map_toArray, List.map_cons, List.map_nil]); first | done | rfl) ?_
  refine (refFindC l k RA n1 rc HN1.out (Kd.R_below HR.out HBd2.out) HF.out).mono ?_
  rintro e w3 ⟨rfl, hd⟩
  refine ⟨_, rfl, ?_⟩
  have HB3 := Aside0.mk (below_then HBd2.out HBd2.out.size hd.below)
  have L3 := Aside0.mk (Ld2.out.below hd.below)
  clear hd
  have hp0_ := L3.out.p0
  have hp1_ := L3.out.p1
  have hs0_ := L3.out.s0
  have hs1_ := L3.out.s1
  have hs2_ := L3.out.s2
  have hs3_ := L3.out.s3
  refine hK.out _ _ ⟨L3.out.p0, L3.out.p1, L3.out.s0, L3.out.s1, L3.out.s2, L3.out.s3⟩ (fun hHeld => ?_)
  clear hK K
  refine norm_ (a' := ?_) ?_ ?_
  rotate_left
  · show Act.put _ (some 33) _ = _
    simp only [Act.put, List.setIfInBounds_toArray, List.set_cons_zero, List.set_cons_succ, i64_w, i32_w]
    rfl
  refine pure_ (i := 7) (N := some 26) (v := ?_) (a' := ?_) #[true, true, true, true, true, true, true, true, false, false, false, false] rfl rfl (by kernel_rfl) (fun _ _ _ h => h) (Or.inl ⟨by rfl, ?_⟩) ?_ ?_
  rotate_left
  · intro w'
    go_simp
    with_reducible rfl
  rotate_left
  · simp only [Act.put, List.setIfInBounds_toArray, List.set_cons_zero, List.set_cons_succ, i64_w, i32_w]
    rfl
  refine pure_ (i := 8) (N := some 34) (v := ?_) (a' := ?_) #[true, true, true, true, true, true, true, true, true, false, false, false] rfl rfl (by kernel_rfl) (fun _ _ _ h => h) (Or.inl ⟨by rfl, ?_⟩) ?_ ?_
  rotate_left
  · intro w'
    go_simp
    with_reducible rfl
  rotate_left
  · simp only [Act.put, List.setIfInBounds_toArray, List.set_cons_zero, List.set_cons_succ, i64_w, i32_w]
    rfl
  refine pure_ (i := 9) (N := some 35) (v := ?_) (a' := ?_) #[true, true, true, true, true, true, true, true, true, true, false, false] rfl rfl (by kernel_rfl) (fun _ _ _ h => h) (Or.inl ⟨by rfl, ?_⟩) ?_ ?_
  rotate_left
  · intro w'
    go_simp
    with_reducible rfl
  rotate_left
  · simp only [Act.put, List.setIfInBounds_toArray, List.set_cons_zero, List.set_cons_succ, i64_w, i32_w]
    rfl
  refine pure_ (i := 10) (N := some 7) (v := ?_) (a' := ?_) #[true, true, true, true, true, true, true, true, true, true, true, false] rfl rfl (by kernel_rfl) (fun _ _ _ h => h) (Or.inl ⟨by rfl, ?_⟩) ?_ ?_
  rotate_left
  · intro w'
    go_simp
    with_reducible rfl
  rotate_left
  · simp only [Act.put, List.setIfInBounds_toArray, List.set_cons_zero, List.set_cons_succ, i64_w, i32_w]
    rfl
  refine pure_ (i := 11) (N := some 8) (v := ?_) (a' := ?_) #[true, true, true, true, true, true, true, true, true, true, true, true] rfl rfl (by kernel_rfl) (fun _ _ _ h => h) (Or.inl ⟨by rfl, ?_⟩) ?_ ?_
  rotate_left
  · intro w'
    go_simp
    with_reducible rfl
  rotate_left
  · simp only [Act.put, List.setIfInBounds_toArray, List.set_cons_zero, List.set_cons_succ, i64_w, i32_w]
    rfl
  refine done_ (by kernel_rfl) ?_
  try go_wp2
  refine start_ (n := 12) (S := fun w' => w'.cell? ⟨b, i * 2, none⟩ = some (.pointer (some ⟨g, 0, none⟩)) ∧ w'.cell? ⟨b, i * 2 + 1, none⟩ = some (.slice RA n1 rc) ∧ w'.cell? ⟨gs, 0, none⟩ = some (.int .i64 5) ∧ w'.cell? ⟨gs, 1, none⟩ = some (.int .i64 on) ∧ w'.cell? ⟨gs, 2, none⟩ = some (.int .i64 k) ∧ w'.cell? ⟨gs, 3, none⟩ = some (.int .i64 z)) (ds := []) #[false, false, false, false, false, false, false, false, false, false, false, false] (by kernel_rfl) rfl rfl ⟨(L3.out.below (below_drew (Below.refl _ _))).p0, (L3.out.below (below_drew (Below.refl _ _))).p1, (L3.out.below (below_drew (Below.refl _ _))).s0, (L3.out.below (below_drew (Below.refl _ _))).s1, (L3.out.below (below_drew (Below.refl _ _))).s2, (L3.out.below (below_drew (Below.refl _ _))).s3⟩ (fun hHeld => ?_)
  generalize hwd : w3.drew = wd3 at hHeld ⊢
  have Ld3 := Aside0.mk (hwd ▸ (L3.out.below (below_drew (Below.refl _ _))))
  have HBd3 := Aside0.mk (hwd ▸ (below_drew HB3.out))
  clear hwd
  clear hp0_ hp1_ hs0_ hs1_ hs2_ hs3_
  refine pure_ (i := 0) (N := some 201) (v := ?_) (a' := ?_) #[true, false, false, false, false, false, false, false, false, false, false, false] rfl rfl (by kernel_rfl) (fun _ _ _ h => h) (Or.inl ⟨by rfl, ?_⟩) ?_ ?_
  rotate_left
  · intro w'
    go_simp
    with_reducible rfl
  rotate_left
  · simp only [Act.put, List.setIfInBounds_toArray, List.set_cons_zero, List.set_cons_succ, i64_w, i32_w]
    rfl
  refine pure_ (i := 1) (N := some 202) (v := ?_) (a' := ?_) #[true, true, false, false, false, false, false, false, false, false, false, false] rfl rfl (by kernel_rfl) (fun _ _ _ h => h) (Or.inl ⟨by rfl, ?_⟩) ?_ ?_
  rotate_left
  · intro w'
    go_simp
    with_reducible rfl
  rotate_left
  · simp only [Act.put, List.setIfInBounds_toArray, List.set_cons_zero, List.set_cons_succ, i64_w, i32_w]
    rfl
  refine pure_ (i := 2) (N := some 203) (v := ?_) (a' := ?_) #[true, true, true, false, false, false, false, false, false, false, false, false] rfl rfl (by kernel_rfl) (fun _ _ _ h => h) (Or.inl ⟨by rfl, ?_⟩) ?_ ?_
  rotate_left
  · intro w'
    go_simp
    with_reducible rfl
  rotate_left
  · simp only [Act.put, List.setIfInBounds_toArray, List.set_cons_zero, List.set_cons_succ, i64_w, i32_w]
    rfl
  refine pure_ (i := 4) (N := some 205) (v := ?_) (a' := ?_) #[true, true, true, false, true, false, false, false, false, false, false, false] rfl rfl (by kernel_rfl) (fun _ _ _ h => h) (Or.inl ⟨by rfl, ?_⟩) ?_ ?_
  rotate_left
  · intro w'
    go_simp
    with_reducible rfl
  rotate_left
  · simp only [Act.put, List.setIfInBounds_toArray, List.set_cons_zero, List.set_cons_succ, i64_w, i32_w]
    rfl
  refine take_ (i := 3) (N := some 204) (v := ?_) (a' := ?_) #[true, true, true, true, true, false, false, false, false, false, false, false] rfl rfl (by kernel_rfl) (fun _ _ _ h => h) (Or.inl ⟨by rfl, ?_⟩) hHeld ?_ ?_
  rotate_left
  · rintro w' ⟨s0, s1, s2, s3, s4, s5⟩
    go_simp
    with_reducible rfl
  rotate_left
  · simp only [Act.put, List.setIfInBounds_toArray, List.set_cons_zero, List.set_cons_succ, i64_w, i32_w]
    rfl
  refine take_ (i := 5) (N := some 206) (v := ?_) (a' := ?_) #[true, true, true, true, true, true, false, false, false, false, false, false] rfl rfl (by kernel_rfl) (fun _ _ _ h => h) (Or.inl ⟨by rfl, ?_⟩) hHeld ?_ ?_
  rotate_left
  · rintro w' ⟨s0, s1, s2, s3, s4, s5⟩
    go_simp
    with_reducible rfl
  rotate_left
  · simp only [Act.put, List.setIfInBounds_toArray, List.set_cons_zero, List.set_cons_succ, i64_w, i32_w]
    rfl
  refine one_ (i := 6) (N := some 207) #[true, true, true, true, true, true, true, false, false, false, false, false] rfl rfl (by kernel_rfl) (by decide) (fun K hK => ?_)
  refine goes_ Try.func20 (by kernel_rfl) rfl #[.pointer (some ⟨g, 0, none⟩), .int .i64 k] (by rfl) rfl rfl (by (try simp only [List.map_toArray, List.map_cons, List.map_nil]); first | done | rfl) ?_
  refine (it.findT (HT.out.below HBd3.out) HSL.out k).mono ?_
  rintro e w4 ⟨rfl, hb4⟩
  refine ⟨_, rfl, ?_⟩
  have HB4 := Aside0.mk (below_then HBd3.out HBd3.out.size hb4)
  have L4 := Aside0.mk (Ld3.out.below hb4)
  clear hb4
  have hp0_ := L4.out.p0
  have hp1_ := L4.out.p1
  have hs0_ := L4.out.s0
  have hs1_ := L4.out.s1
  have hs2_ := L4.out.s2
  have hs3_ := L4.out.s3
  refine hK.out _ _ ⟨L4.out.p0, L4.out.p1, L4.out.s0, L4.out.s1, L4.out.s2, L4.out.s3⟩ (fun hHeld => ?_)
  clear hK K
  refine norm_ (a' := ?_) ?_ ?_
  rotate_left
  · show Act.put _ (some 207) _ = _
    simp only [Act.put, List.setIfInBounds_toArray, List.set_cons_zero, List.set_cons_succ, i64_w, i32_w]
    rfl
  refine pure_ (i := 7) (N := some 200) (v := ?_) (a' := ?_) #[true, true, true, true, true, true, true, true, false, false, false, false] rfl rfl (by kernel_rfl) (fun _ _ _ h => h) (Or.inl ⟨by rfl, ?_⟩) ?_ ?_
  rotate_left
  · intro w'
    go_simp
    with_reducible rfl
  rotate_left
  · simp only [Act.put, List.setIfInBounds_toArray, List.set_cons_zero, List.set_cons_succ, i64_w, i32_w]
    rfl
  refine pure_ (i := 8) (N := some 208) (v := ?_) (a' := ?_) #[true, true, true, true, true, true, true, true, true, false, false, false] rfl rfl (by kernel_rfl) (fun _ _ _ h => h) (Or.inl ⟨by rfl, ?_⟩) ?_ ?_
  rotate_left
  · intro w'
    go_simp
    with_reducible rfl
  rotate_left
  · simp only [Act.put, List.setIfInBounds_toArray, List.set_cons_zero, List.set_cons_succ, i64_w, i32_w]
    rfl
  refine pure_ (i := 9) (N := some 209) (v := ?_) (a' := ?_) #[true, true, true, true, true, true, true, true, true, true, false, false] rfl rfl (by kernel_rfl) (fun _ _ _ h => h) (Or.inl ⟨by rfl, ?_⟩) ?_ ?_
  rotate_left
  · intro w'
    go_simp
    with_reducible rfl
  rotate_left
  · simp only [Act.put, List.setIfInBounds_toArray, List.set_cons_zero, List.set_cons_succ, i64_w, i32_w]
    rfl
  refine pure_ (i := 10) (N := some 16) (v := ?_) (a' := ?_) #[true, true, true, true, true, true, true, true, true, true, true, false] rfl rfl (by kernel_rfl) (fun _ _ _ h => h) (Or.inl ⟨by rfl, ?_⟩) ?_ ?_
  rotate_left
  · intro w'
    go_simp
    with_reducible rfl
  rotate_left
  · simp only [Act.put, List.setIfInBounds_toArray, List.set_cons_zero, List.set_cons_succ, i64_w, i32_w]
    rfl
  refine pure_ (i := 11) (N := some 17) (v := ?_) (a' := ?_) #[true, true, true, true, true, true, true, true, true, true, true, true] rfl rfl (by kernel_rfl) (fun _ _ _ h => h) (Or.inl ⟨by rfl, ?_⟩) ?_ ?_
  rotate_left
  · intro w'
    go_simp
    with_reducible rfl
  rotate_left
  · simp only [Act.put, List.setIfInBounds_toArray, List.set_cons_zero, List.set_cons_succ, i64_w, i32_w]
    rfl
  refine done_ (by kernel_rfl) ?_
  try go_wp2
  go_ret2
  have e0 := HNP.out
  subst e0
  exact ⟨.slice (some ⟨b, 0, none⟩) ps.length cap, ps, by simp, (HST.out.below HB4.out).more, below_then HB.out HB.out.size HB4.out, FrT.of_below _ HB4.out⟩
theorem neq1 (a : Addr) (w : World) : (binOp .neq 39 (.pointer (some a)) (.pointer none)).run Try.prog w = .ok (.bool true) w := run_neq_pointer_nil w 39 (some a) it.ptr
attribute [local go_sem high] neq1
theorem info42 : (Try.prog.info? 42).map (fun i => (i.zero, i.size, i.bytes)) = some (some (.agg #[.pointer none, .slice none 0 0]), 2, 32) := by kernel_rfl
theorem St.push {w w4 w7 : World} {base m b cap g' : Nat} {l : List S80} {ps : List (Nat × List S80)} {A : Option Addr} {c : Nat} {v7 : Value} (h : St w base m (.slice (some ⟨b, 0, none⟩) ps.length cap) ps) (hb4 : Below w.heap.size w w4) (hg' : w.heap.size ≤ g') (hbase : base ≤ w.heap.size) (hT : it.Tab w4 base g' l A c)
    (hg : w4.grownBy w7 (some b)) (hcb : ∃ cells, w.heap[b]? = some (.cells cells 42 (0, 0))) (hrow : Kd.R kp 42 w7 base (fun _ => True) v7 ((ps ++ [(g', l)]).map pr)) (hs : it.Srt l) (hl : l.length ≤ m) (h6 : ps.length < 6) : St w7 base (m + 1) v7 (ps ++ [(g', l)]) := by
  obtain ⟨cells, hcb⟩ := hcb
  have hb4c := blk_below hcb hb4
  have hbn : ∀ g0 l0 A0 c0, it.Tab w4 base g0 l0 A0 c0 → it.Tab w7 base g0 l0 A0 c0 := fun g0 l0 A0 c0 hT0 => by
    have hne : g0 ≠ b := by
      rintro rfl
      have := hT0.cel
      rw [hb4c] at this
      injection this with this
      injection this with _ this
      exact absurd this (by decide)
    exact ⟨blk_grown hT0.cel hg (fun e => hne (by injection e with e)), Kd.R_mono (Kd.R_grown (Kd.R_types hT0.row hb4c (by decide)) hg (fun k hk e => hk.2 (by injection e with e))) (fun _ hk => hk.1), hT0.len⟩
  refine ⟨hrow, fun p hp => ?_, ?_, by simp, by simp; omega⟩
  · rcases List.mem_append.1 hp with hp | hp
    · obtain ⟨t1, t2, t3, A0, c0, t4⟩ := h.tab p hp
      exact ⟨t1, t2, by omega, A0, c0, hbn _ _ _ _ (t4.below hb4)⟩
    · simp at hp
      subst hp
      exact ⟨Nat.le_trans hbase hg', hs, Nat.le_succ_of_le hl, A, c, hbn _ _ _ _ hT⟩
  · rw [List.map_append, List.nodup_append]
    refine ⟨h.one, by simp, fun a ha b' hb' => ?_⟩
    simp at hb'
    subst hb'
    obtain ⟨p, hp, rfl⟩ := List.mem_map.1 ha
    obtain ⟨_, _, _, A0, c0, t4⟩ := h.tab p hp
    have := blk_lt t4.cel
    omega
theorem doesCopyY {w0 w : World} {m : Nat} {v : Value} {ps : List (Nat × List S80)} (hB : Below w0.heap.size w0 w) (h : St w w0.heap.size m v ps) (on k z : Int) (i : Nat) (hpk : scruplelaw05_pick.f on (ps.length : Int) = some (i : Int)) (hi : i < ps.length) (hm : (m + 4) * 16 ≤ 140737488355328) (h6 : ps.length < 6) :
    Calls Try.prog 27 #[v, .agg #[.int .i64 6, .int .i64 on, .int .i64 k, .int .i64 z]] w fun e w' => ∃ (v' : Value) (ps' : List (Nat × List S80)), e = .returned (.tuple #[v', .bool true]) ∧ St w' w0.heap.size (m + 1) v' ps' ∧ Below w0.heap.size w0 w' ∧ FrT v v' w w' := by
  obtain ⟨b, cap, g, l, A, c, RA, rc, rfl, hpi, hbg, hsl, hlm, hT, hcb, hbb, hc0, hc1, hR⟩ := h.at_ i hi
  have hu60 := Try.underlying60
  have HP := Aside0.mk hpk
  have HF := Aside0.mk (it.ref_find l k (by omega))
  have HST := Aside0.mk h
  have HT := Aside0.mk hT
  have HR := Aside0.mk hR
  have HPI := Aside0.mk hpi
  have HSL := Aside0.mk hsl
  have HLM := Aside0.mk hlm
  have HCB := Aside0.mk hcb
  have HM := Aside0.mk hm
  have HBG := Aside0.mk hbg
  have HB := Aside0.mk hB
  have hcap := (Kd.R_reads' h.row).2.1
  have hle := it.fnd_le k l
  have HLE := Aside0.mk hle
  generalize hn1 : (l.map it.r5).length = n1 at *
  have HN1 := Aside0.mk hn1
  generalize hnp : ps.length = np at *
  have HNP := Aside0.mk hnp
  have hi0 : 0 ≤ (i : Int) := by omega
  have hi1 : (i : Int) < (np : Int) := by omega
  have hi2 : decide (i < np) = true := decide_eq_true hi
  clear hpk h hT hR hpi hsl hlm hcb hm hbg hB hbb hn1 hnp hcap hle
  have b6 : decide ((np : Int) < 6) = true := decide_eq_true (by have := HNP.out; omega)
  have b7 : decide (np < 6) = true := decide_eq_true (by have := HNP.out; omega)
  have H6 := Aside0.mk h6
  have info42 := info42
  clear h6
  go_enter Try.func27, Try.ntmps27
  go_wp2_with (first | ((with_reducible refine gate_dst (N := 3) rfl ?_); refine box_event ?hg (N := 3) ?hd (cs := #[.int .i64 6, .int .i64 on, .int .i64 k, .int .i64 z]) (t := 60) ?hr ?_; (case hd => rfl); (case hg => rfl); (case hr => first | (go_simp; done) | (go_simp; rfl)); intro gs hg w1 hbox hb; have HB1 := Aside0.mk hb; have L1 := Aside0.mk (show Lay w1 b i g RA n1 rc gs 6 on k z from ⟨(hb.cell (World.block_lt_of_cell? w _ hc0)).trans hc0, (hb.cell (World.block_lt_of_cell? w _ hc1)).trans hc1, hbox, by obtain ⟨cells, hc⟩ := HCB.out; exact ⟨cells, blk_below hc hb⟩⟩); clear hg hbox hb hc0 hc1; have hp0_ := L1.out.p0; have hp1_ := L1.out.p1; have hs0_ := L1.out.s0; have hs1_ := L1.out.s1; have hs2_ := L1.out.s2; have hs3_ := L1.out.s3) | (go_at_call 39; refine (scruplelaw05_pick.calls on (np : Int) (i : Int) _ HP.out).mono ?_; rintro e_ w2 ⟨rfl, hd⟩; have HB2 := Aside0.mk (below_then HB1.out HB1.out.size hd.below); have L2 := Aside0.mk (L1.out.below hd.below); clear hd; clear hp0_ hp1_ hs0_ hs1_ hs2_ hs3_; have hp0_ := L2.out.p0; have hp1_ := L2.out.p1; have hs0_ := L2.out.s0; have hs1_ := L2.out.s1; have hs2_ := L2.out.s2; have hs3_ := L2.out.s3))
  refine start_ (n := 12) (S := fun w' => w'.cell? ⟨b, i * 2, none⟩ = some (.pointer (some ⟨g, 0, none⟩)) ∧ w'.cell? ⟨b, i * 2 + 1, none⟩ = some (.slice RA n1 rc) ∧ w'.cell? ⟨gs, 0, none⟩ = some (.int .i64 6) ∧ w'.cell? ⟨gs, 1, none⟩ = some (.int .i64 on) ∧ w'.cell? ⟨gs, 2, none⟩ = some (.int .i64 k) ∧ w'.cell? ⟨gs, 3, none⟩ = some (.int .i64 z)) (ds := []) #[false, false, false, false, false, false, false, false, false, false, false, false] (by kernel_rfl) rfl rfl ⟨(L2.out.below (below_drew (Below.refl _ _))).p0, (L2.out.below (below_drew (Below.refl _ _))).p1, (L2.out.below (below_drew (Below.refl _ _))).s0, (L2.out.below (below_drew (Below.refl _ _))).s1, (L2.out.below (below_drew (Below.refl _ _))).s2, (L2.out.below (below_drew (Below.refl _ _))).s3⟩ (fun hHeld => ?_)
  generalize hwd : w2.drew = wd2 at hHeld ⊢
  have Ld2 := Aside0.mk (hwd ▸ (L2.out.below (below_drew (Below.refl _ _))))
  have HBd2 := Aside0.mk (hwd ▸ (below_drew HB2.out))
  clear hwd
  clear hp0_ hp1_ hs0_ hs1_ hs2_ hs3_
  refine pure_ (i := 0) (N := some 27) (v := ?_) (a' := ?_) #[true, false, false, false, false, false, false, false, false, false, false, false] rfl rfl (by kernel_rfl) (fun _ _ _ h => h) (Or.inl ⟨by rfl, ?_⟩) ?_ ?_
  rotate_left
  · intro w'
    go_simp
    with_reducible rfl
  rotate_left
  · simp only [Act.put, List.setIfInBounds_toArray, List.set_cons_zero, List.set_cons_succ, i64_w, i32_w]
    rfl
  refine pure_ (i := 1) (N := some 28) (v := ?_) (a' := ?_) #[true, true, false, false, false, false, false, false, false, false, false, false] rfl rfl (by kernel_rfl) (fun _ _ _ h => h) (Or.inl ⟨by rfl, ?_⟩) ?_ ?_
  rotate_left
  · intro w'
    go_simp
    with_reducible rfl
  rotate_left
  · simp only [Act.put, List.setIfInBounds_toArray, List.set_cons_zero, List.set_cons_succ, i64_w, i32_w]
    rfl
  refine pure_ (i := 2) (N := some 29) (v := ?_) (a' := ?_) #[true, true, true, false, false, false, false, false, false, false, false, false] rfl rfl (by kernel_rfl) (fun _ _ _ h => h) (Or.inl ⟨by rfl, ?_⟩) ?_ ?_
  rotate_left
  · intro w'
    go_simp
    with_reducible rfl
  rotate_left
  · simp only [Act.put, List.setIfInBounds_toArray, List.set_cons_zero, List.set_cons_succ, i64_w, i32_w]
    rfl
  refine pure_ (i := 4) (N := some 31) (v := ?_) (a' := ?_) #[true, true, true, false, true, false, false, false, false, false, false, false] rfl rfl (by kernel_rfl) (fun _ _ _ h => h) (Or.inl ⟨by rfl, ?_⟩) ?_ ?_
  rotate_left
  · intro w'
    go_simp
    with_reducible rfl
  rotate_left
  · simp only [Act.put, List.setIfInBounds_toArray, List.set_cons_zero, List.set_cons_succ, i64_w, i32_w]
    rfl
  refine take_ (i := 3) (N := some 30) (v := ?_) (a' := ?_) #[true, true, true, true, true, false, false, false, false, false, false, false] rfl rfl (by kernel_rfl) (fun _ _ _ h => h) (Or.inl ⟨by rfl, ?_⟩) hHeld ?_ ?_
  rotate_left
  · rintro w' ⟨s0, s1, s2, s3, s4, s5⟩
    go_simp
    with_reducible rfl
  rotate_left
  · simp only [Act.put, List.setIfInBounds_toArray, List.set_cons_zero, List.set_cons_succ, i64_w, i32_w]
    rfl
  refine take_ (i := 5) (N := some 32) (v := ?_) (a' := ?_) #[true, true, true, true, true, true, false, false, false, false, false, false] rfl rfl (by kernel_rfl) (fun _ _ _ h => h) (Or.inl ⟨by rfl, ?_⟩) hHeld ?_ ?_
  rotate_left
  · rintro w' ⟨s0, s1, s2, s3, s4, s5⟩
    go_simp
    with_reducible rfl
  rotate_left
  · simp only [Act.put, List.setIfInBounds_toArray, List.set_cons_zero, List.set_cons_succ, i64_w, i32_w]
    rfl
  refine one_ (i := 6) (N := some 33) #[true, true, true, true, true, true, true, false, false, false, false, false] rfl rfl (by kernel_rfl) (by decide) (fun K hK => ?_)
  refine goes_ Try.func16 (by kernel_rfl) rfl #[.slice RA n1 rc, .int .i64 k] (by rfl) rfl rfl (by (try simp only [List.map_toArray, List.map_cons, List.map_nil]); first | done | rfl) ?_
  refine (refFindC l k RA n1 rc HN1.out (Kd.R_below HR.out HBd2.out) HF.out).mono ?_
  rintro e w3 ⟨rfl, hd⟩
  refine ⟨_, rfl, ?_⟩
  have HB3 := Aside0.mk (below_then HBd2.out HBd2.out.size hd.below)
  have L3 := Aside0.mk (Ld2.out.below hd.below)
  clear hd
  have hp0_ := L3.out.p0
  have hp1_ := L3.out.p1
  have hs0_ := L3.out.s0
  have hs1_ := L3.out.s1
  have hs2_ := L3.out.s2
  have hs3_ := L3.out.s3
  refine hK.out _ _ ⟨L3.out.p0, L3.out.p1, L3.out.s0, L3.out.s1, L3.out.s2, L3.out.s3⟩ (fun hHeld => ?_)
  clear hK K
  refine norm_ (a' := ?_) ?_ ?_
  rotate_left
  · show Act.put _ (some 33) _ = _
    simp only [Act.put, List.setIfInBounds_toArray, List.set_cons_zero, List.set_cons_succ, i64_w, i32_w]
    rfl
  refine pure_ (i := 7) (N := some 26) (v := ?_) (a' := ?_) #[true, true, true, true, true, true, true, true, false, false, false, false] rfl rfl (by kernel_rfl) (fun _ _ _ h => h) (Or.inl ⟨by rfl, ?_⟩) ?_ ?_
  rotate_left
  · intro w'
    go_simp
    with_reducible rfl
  rotate_left
  · simp only [Act.put, List.setIfInBounds_toArray, List.set_cons_zero, List.set_cons_succ, i64_w, i32_w]
    rfl
  refine pure_ (i := 8) (N := some 34) (v := ?_) (a' := ?_) #[true, true, true, true, true, true, true, true, true, false, false, false] rfl rfl (by kernel_rfl) (fun _ _ _ h => h) (Or.inl ⟨by rfl, ?_⟩) ?_ ?_
  rotate_left
  · intro w'
    go_simp
    with_reducible rfl
  rotate_left
  · simp only [Act.put, List.setIfInBounds_toArray, List.set_cons_zero, List.set_cons_succ, i64_w, i32_w]
    rfl
  refine pure_ (i := 9) (N := some 35) (v := ?_) (a' := ?_) #[true, true, true, true, true, true, true, true, true, true, false, false] rfl rfl (by kernel_rfl) (fun _ _ _ h => h) (Or.inl ⟨by rfl, ?_⟩) ?_ ?_
  rotate_left
  · intro w'
    go_simp
    with_reducible rfl
  rotate_left
  · simp only [Act.put, List.setIfInBounds_toArray, List.set_cons_zero, List.set_cons_succ, i64_w, i32_w]
    rfl
  refine pure_ (i := 10) (N := some 7) (v := ?_) (a' := ?_) #[true, true, true, true, true, true, true, true, true, true, true, false] rfl rfl (by kernel_rfl) (fun _ _ _ h => h) (Or.inl ⟨by rfl, ?_⟩) ?_ ?_
  rotate_left
  · intro w'
    go_simp
    with_reducible rfl
  rotate_left
  · simp only [Act.put, List.setIfInBounds_toArray, List.set_cons_zero, List.set_cons_succ, i64_w, i32_w]
    rfl
  refine pure_ (i := 11) (N := some 8) (v := ?_) (a' := ?_) #[true, true, true, true, true, true, true, true, true, true, true, true] rfl rfl (by kernel_rfl) (fun _ _ _ h => h) (Or.inl ⟨by rfl, ?_⟩) ?_ ?_
  rotate_left
  · intro w'
    go_simp
    with_reducible rfl
  rotate_left
  · simp only [Act.put, List.setIfInBounds_toArray, List.set_cons_zero, List.set_cons_succ, i64_w, i32_w]
    rfl
  refine done_ (by kernel_rfl) ?_
  go_wp2_with (first | (go_at_call 25; refine (it.copyT (HT.out.below HB3.out)).mono ?_; rintro e_ w4 ⟨g4, rfl, ht4, hg4, hb4⟩; have HT4 := Aside0.mk ht4; have HW4 := Aside0.mk (below_then HB3.out HB3.out.size hb4); have HG4 := Aside0.mk (Nat.le_trans HB3.out.size hg4); have HBW := Aside0.mk HB.out.size; have L4 := Aside0.mk (L3.out.below hb4); clear ht4 hg4 hb4 hp0_ hp1_ hs0_ hs1_ hs2_ hs3_; have hp0_ := L4.out.p0; have hp1_ := L4.out.p1; have hs0_ := L4.out.s0; have hs1_ := L4.out.s1; have hs2_ := L4.out.s2; have hs3_ := L4.out.s3) | (at_builtin; go_must (refine Kd.R_append kp (w0 := w0) w0.heap.size rfl (.tmp 229) (.tmp 236) 36 42 (.agg #[.pointer none, .slice none 0 0]) 32 rfl Try.underlying36 info42 rfl (by decide) (by omega) (.slice (some ⟨b, 0, none⟩) np cap) (ps.map pr) (pr (g4, l)) [.pointer (some ⟨g4, 0, none⟩), .slice RA n1 rc] (fun _ => True) (fun k_ => True ∧ k_ ≠ b) rfl rfl (kp_mkM _ _ _ (pr (g4, l)) (Kd.R_below HR.out HW4.out)) (fun k_ hk => ⟨trivial, fun e_ => hk.2 (by simpa [Value.ownBlock] using e_)⟩) (fun _ _ => trivial) (Kd.R_below HST.out.row HW4.out) (below_then HB.out HB.out.size HW4.out) (Nat.le_trans HB.out.size HW4.out.size) ?aL ?_); go_must ((case aL => have := H6.out; have := HNP.out; rw [List.length_map]; omega)); intro v7 w7 ho hb hg hat; go_must (have HO7 := Aside0.mk (show Kd.R kp 42 w7 w0.heap.size (fun _ => True) v7 ((ps ++ [(g4, l)]).map pr) by rw [List.map_append]; exact ho)); have HB7 := Aside0.mk hb; have HAT := Aside0.mk hat; go_must (have HG7 := Aside0.mk (show w4.grownBy w7 (some b) by simpa [Value.ownBlock] using hg)); clear ho hb hg hat))
  go_ret2
  have e0 := HNP.out
  subst e0
  have hp := St.push HST.out HW4.out HG4.out HBW.out HT4.out HG7.out HCB.out HO7.out HSL.out HLM.out H6.out
  exact ⟨_, _, by simp, hp, HB7.out, (FrT.of_below _ HW4.out).trans (FrT.of_grown HG7.out (by simp [Value.ownBlock]) HAT.out)⟩
theorem doesCopyN {w0 w : World} {m : Nat} {v : Value} {ps : List (Nat × List S80)} (hB : Below w0.heap.size w0 w) (h : St w w0.heap.size m v ps) (on k z : Int) (i : Nat) (hpk : scruplelaw05_pick.f on (ps.length : Int) = some (i : Int)) (hi : i < ps.length) (hm : (m + 4) * 16 ≤ 140737488355328) (h6 : ¬ ps.length < 6) :
    Calls Try.prog 27 #[v, .agg #[.int .i64 6, .int .i64 on, .int .i64 k, .int .i64 z]] w fun e w' => ∃ (v' : Value) (ps' : List (Nat × List S80)), e = .returned (.tuple #[v', .bool true]) ∧ St w' w0.heap.size (m + 1) v' ps' ∧ Below w0.heap.size w0 w' ∧ FrT v v' w w' := by
  obtain ⟨b, cap, g, l, A, c, RA, rc, rfl, hpi, hbg, hsl, hlm, hT, hcb, hbb, hc0, hc1, hR⟩ := h.at_ i hi
  have hu60 := Try.underlying60
  have HP := Aside0.mk hpk
  have HF := Aside0.mk (it.ref_find l k (by omega))
  have HST := Aside0.mk h
  have HT := Aside0.mk hT
  have HR := Aside0.mk hR
  have HPI := Aside0.mk hpi
  have HSL := Aside0.mk hsl
  have HLM := Aside0.mk hlm
  have HCB := Aside0.mk hcb
  have HM := Aside0.mk hm
  have HBG := Aside0.mk hbg
  have HB := Aside0.mk hB
  have hcap := (Kd.R_reads' h.row).2.1
  have hle := it.fnd_le k l
  have HLE := Aside0.mk hle
  generalize hn1 : (l.map it.r5).length = n1 at *
  have HN1 := Aside0.mk hn1
  generalize hnp : ps.length = np at *
  have HNP := Aside0.mk hnp
  have hi0 : 0 ≤ (i : Int) := by omega
  have hi1 : (i : Int) < (np : Int) := by omega
  have hi2 : decide (i < np) = true := decide_eq_true hi
  clear hpk h hT hR hpi hsl hlm hcb hm hbg hB hbb hn1 hnp hcap hle
  have b6 : decide ((np : Int) < 6) = false := decide_eq_false (by have := HNP.out; omega)
  have b7 : decide (np < 6) = false := decide_eq_false (by have := HNP.out; omega)
  clear h6
  go_enter Try.func27, Try.ntmps27
  go_wp2_with (first | ((with_reducible refine gate_dst (N := 3) rfl ?_); refine box_event ?hg (N := 3) ?hd (cs := #[.int .i64 6, .int .i64 on, .int .i64 k, .int .i64 z]) (t := 60) ?hr ?_; (case hd => rfl); (case hg => rfl); (case hr => first | (go_simp; done) | (go_simp; rfl)); intro gs hg w1 hbox hb; have HB1 := Aside0.mk hb; have L1 := Aside0.mk (show Lay w1 b i g RA n1 rc gs 6 on k z from ⟨(hb.cell (World.block_lt_of_cell? w _ hc0)).trans hc0, (hb.cell (World.block_lt_of_cell? w _ hc1)).trans hc1, hbox, by obtain ⟨cells, hc⟩ := HCB.out; exact ⟨cells, blk_below hc hb⟩⟩); clear hg hbox hb hc0 hc1; have hp0_ := L1.out.p0; have hp1_ := L1.out.p1; have hs0_ := L1.out.s0; have hs1_ := L1.out.s1; have hs2_ := L1.out.s2; have hs3_ := L1.out.s3) | (go_at_call 39; refine (scruplelaw05_pick.calls on (np : Int) (i : Int) _ HP.out).mono ?_; rintro e_ w2 ⟨rfl, hd⟩; have HB2 := Aside0.mk (below_then HB1.out HB1.out.size hd.below); have L2 := Aside0.mk (L1.out.below hd.below); clear hd; clear hp0_ hp1_ hs0_ hs1_ hs2_ hs3_; have hp0_ := L2.out.p0; have hp1_ := L2.out.p1; have hs0_ := L2.out.s0; have hs1_ := L2.out.s1; have hs2_ := L2.out.s2; have hs3_ := L2.out.s3))
  refine start_ (n := 12) (S := fun w' => w'.cell? ⟨b, i * 2, none⟩ = some (.pointer (some ⟨g, 0, none⟩)) ∧ w'.cell? ⟨b, i * 2 + 1, none⟩ = some (.slice RA n1 rc) ∧ w'.cell? ⟨gs, 0, none⟩ = some (.int .i64 6) ∧ w'.cell? ⟨gs, 1, none⟩ = some (.int .i64 on) ∧ w'.cell? ⟨gs, 2, none⟩ = some (.int .i64 k) ∧ w'.cell? ⟨gs, 3, none⟩ = some (.int .i64 z)) (ds := []) #[false, false, false, false, false, false, false, false, false, false, false, false] (by kernel_rfl) rfl rfl ⟨(L2.out.below (below_drew (Below.refl _ _))).p0, (L2.out.below (below_drew (Below.refl _ _))).p1, (L2.out.below (below_drew (Below.refl _ _))).s0, (L2.out.below (below_drew (Below.refl _ _))).s1, (L2.out.below (below_drew (Below.refl _ _))).s2, (L2.out.below (below_drew (Below.refl _ _))).s3⟩ (fun hHeld => ?_)
  generalize hwd : w2.drew = wd2 at hHeld ⊢
  have Ld2 := Aside0.mk (hwd ▸ (L2.out.below (below_drew (Below.refl _ _))))
  have HBd2 := Aside0.mk (hwd ▸ (below_drew HB2.out))
  clear hwd
  clear hp0_ hp1_ hs0_ hs1_ hs2_ hs3_
  refine pure_ (i := 0) (N := some 27) (v := ?_) (a' := ?_) #[true, false, false, false, false, false, false, false, false, false, false, false] rfl rfl (by kernel_rfl) (fun _ _ _ h => h) (Or.inl ⟨by rfl, ?_⟩) ?_ ?_
  rotate_left
  · intro w'
    go_simp
    with_reducible rfl
  rotate_left
  · simp only [Act.put, List.setIfInBounds_toArray, List.set_cons_zero, List.set_cons_succ, i64_w, i32_w]
    rfl
  refine pure_ (i := 1) (N := some 28) (v := ?_) (a' := ?_) #[true, true, false, false, false, false, false, false, false, false, false, false] rfl rfl (by kernel_rfl) (fun _ _ _ h => h) (Or.inl ⟨by rfl, ?_⟩) ?_ ?_
  rotate_left
  · intro w'
    go_simp
    with_reducible rfl
  rotate_left
  · simp only [Act.put, List.setIfInBounds_toArray, List.set_cons_zero, List.set_cons_succ, i64_w, i32_w]
    rfl
  refine pure_ (i := 2) (N := some 29) (v := ?_) (a' := ?_) #[true, true, true, false, false, false, false, false, false, false, false, false] rfl rfl (by kernel_rfl) (fun _ _ _ h => h) (Or.inl ⟨by rfl, ?_⟩) ?_ ?_
  rotate_left
  · intro w'
    go_simp
    with_reducible rfl
  rotate_left
  · simp only [Act.put, List.setIfInBounds_toArray, List.set_cons_zero, List.set_cons_succ, i64_w, i32_w]
    rfl
  refine pure_ (i := 4) (N := some 31) (v := ?_) (a' := ?_) #[true, true, true, false, true, false, false, false, false, false, false, false] rfl rfl (by kernel_rfl) (fun _ _ _ h => h) (Or.inl ⟨by rfl, ?_⟩) ?_ ?_
  rotate_left
  · intro w'
    go_simp
    with_reducible rfl
  rotate_left
  · simp only [Act.put, List.setIfInBounds_toArray, List.set_cons_zero, List.set_cons_succ, i64_w, i32_w]
    rfl
  refine take_ (i := 3) (N := some 30) (v := ?_) (a' := ?_) #[true, true, true, true, true, false, false, false, false, false, false, false] rfl rfl (by kernel_rfl) (fun _ _ _ h => h) (Or.inl ⟨by rfl, ?_⟩) hHeld ?_ ?_
  rotate_left
  · rintro w' ⟨s0, s1, s2, s3, s4, s5⟩
    go_simp
    with_reducible rfl
  rotate_left
  · simp only [Act.put, List.setIfInBounds_toArray, List.set_cons_zero, List.set_cons_succ, i64_w, i32_w]
    rfl
  refine take_ (i := 5) (N := some 32) (v := ?_) (a' := ?_) #[true, true, true, true, true, true, false, false, false, false, false, false] rfl rfl (by kernel_rfl) (fun _ _ _ h => h) (Or.inl ⟨by rfl, ?_⟩) hHeld ?_ ?_
  rotate_left
  · rintro w' ⟨s0, s1, s2, s3, s4, s5⟩
    go_simp
    with_reducible rfl
  rotate_left
  · simp only [Act.put, List.setIfInBounds_toArray, List.set_cons_zero, List.set_cons_succ, i64_w, i32_w]
    rfl
  refine one_ (i := 6) (N := some 33) #[true, true, true, true, true, true, true, false, false, false, false, false] rfl rfl (by kernel_rfl) (by decide) (fun K hK => ?_)
  refine goes_ Try.func16 (by kernel_rfl) rfl #[.slice RA n1 rc, .int .i64 k] (by rfl) rfl rfl (by (try simp only [List.map_toArray, List.map_cons, List.map_nil]); first | done | rfl) ?_
  refine (refFindC l k RA n1 rc HN1.out (Kd.R_below HR.out HBd2.out) HF.out).mono ?_
  rintro e w3 ⟨rfl, hd⟩
  refine ⟨_, rfl, ?_⟩
  have HB3 := Aside0.mk (below_then HBd2.out HBd2.out.size hd.below)
  have L3 := Aside0.mk (Ld2.out.below hd.below)
  clear hd
  have hp0_ := L3.out.p0
  have hp1_ := L3.out.p1
  have hs0_ := L3.out.s0
  have hs1_ := L3.out.s1
  have hs2_ := L3.out.s2
  have hs3_ := L3.out.s3
  refine hK.out _ _ ⟨L3.out.p0, L3.out.p1, L3.out.s0, L3.out.s1, L3.out.s2, L3.out.s3⟩ (fun hHeld => ?_)
  clear hK K
  refine norm_ (a' := ?_) ?_ ?_
  rotate_left
  · show Act.put _ (some 33) _ = _
    simp only [Act.put, List.setIfInBounds_toArray, List.set_cons_zero, List.set_cons_succ, i64_w, i32_w]
    rfl
  refine pure_ (i := 7) (N := some 26) (v := ?_) (a' := ?_) #[true, true, true, true, true, true, true, true, false, false, false, false] rfl rfl (by kernel_rfl) (fun _ _ _ h => h) (Or.inl ⟨by rfl, ?_⟩) ?_ ?_
  rotate_left
  · intro w'
    go_simp
    with_reducible rfl
  rotate_left
  · simp only [Act.put, List.setIfInBounds_toArray, List.set_cons_zero, List.set_cons_succ, i64_w, i32_w]
    rfl
  refine pure_ (i := 8) (N := some 34) (v := ?_) (a' := ?_) #[true, true, true, true, true, true, true, true, true, false, false, false] rfl rfl (by kernel_rfl) (fun _ _ _ h => h) (Or.inl ⟨by rfl, ?_⟩) ?_ ?_
  rotate_left
  · intro w'
    go_simp
    with_reducible rfl
  rotate_left
  · simp only [Act.put, List.setIfInBounds_toArray, List.set_cons_zero, List.set_cons_succ, i64_w, i32_w]
    rfl
  refine pure_ (i := 9) (N := some 35) (v := ?_) (a' := ?_) #[true, true, true, true, true, true, true, true, true, true, false, false] rfl rfl (by kernel_rfl) (fun _ _ _ h => h) (Or.inl ⟨by rfl, ?_⟩) ?_ ?_
  rotate_left
  · intro w'
    go_simp
    with_reducible rfl
  rotate_left
  · simp only [Act.put, List.setIfInBounds_toArray, List.set_cons_zero, List.set_cons_succ, i64_w, i32_w]
    rfl
  refine pure_ (i := 10) (N := some 7) (v := ?_) (a' := ?_) #[true, true, true, true, true, true, true, true, true, true, true, false] rfl rfl (by kernel_rfl) (fun _ _ _ h => h) (Or.inl ⟨by rfl, ?_⟩) ?_ ?_
  rotate_left
  · intro w'
    go_simp
    with_reducible rfl
  rotate_left
  · simp only [Act.put, List.setIfInBounds_toArray, List.set_cons_zero, List.set_cons_succ, i64_w, i32_w]
    rfl
  refine pure_ (i := 11) (N := some 8) (v := ?_) (a' := ?_) #[true, true, true, true, true, true, true, true, true, true, true, true] rfl rfl (by kernel_rfl) (fun _ _ _ h => h) (Or.inl ⟨by rfl, ?_⟩) ?_ ?_
  rotate_left
  · intro w'
    go_simp
    with_reducible rfl
  rotate_left
  · simp only [Act.put, List.setIfInBounds_toArray, List.set_cons_zero, List.set_cons_succ, i64_w, i32_w]
    rfl
  refine done_ (by kernel_rfl) ?_
  try go_wp2
  go_wp2
  go_ret2
  have e0 := HNP.out
  subst e0
  exact ⟨.slice (some ⟨b, 0, none⟩) ps.length cap, ps, by simp, (HST.out.below HB3.out).more, below_then HB.out HB.out.size HB3.out, FrT.of_below _ HB3.out⟩
theorem doesNone {w0 w : World} {m : Nat} {v : Value} {ps : List (Nat × List S80)} (hB : Below w0.heap.size w0 w) (h : St w w0.heap.size m v ps) (kd : Int) (k1 : kd ≠ 1) (k2 : kd ≠ 2) (k3 : kd ≠ 3) (k4 : kd ≠ 4) (k5 : kd ≠ 5) (k6 : kd ≠ 6) (on k z : Int) (i : Nat) (hpk : scruplelaw05_pick.f on (ps.length : Int) = some (i : Int)) (hi : i < ps.length) (hm : (m + 4) * 16 ≤ 140737488355328) :
    Calls Try.prog 27 #[v, .agg #[.int .i64 kd, .int .i64 on, .int .i64 k, .int .i64 z]] w fun e w' => ∃ (v' : Value) (ps' : List (Nat × List S80)), e = .returned (.tuple #[v', .bool true]) ∧ St w' w0.heap.size (m + 1) v' ps' ∧ Below w0.heap.size w0 w' ∧ FrT v v' w w' := by
  obtain ⟨b, cap, g, l, A, c, RA, rc, rfl, hpi, hbg, hsl, hlm, hT, hcb, hbb, hc0, hc1, hR⟩ := h.at_ i hi
  have hu60 := Try.underlying60
  have HP := Aside0.mk hpk
  have HF := Aside0.mk (it.ref_find l k (by omega))
  have HST := Aside0.mk h
  have HT := Aside0.mk hT
  have HR := Aside0.mk hR
  have HPI := Aside0.mk hpi
  have HSL := Aside0.mk hsl
  have HLM := Aside0.mk hlm
  have HCB := Aside0.mk hcb
  have HM := Aside0.mk hm
  have HBG := Aside0.mk hbg
  have HB := Aside0.mk hB
  have hcap := (Kd.R_reads' h.row).2.1
  have hle := it.fnd_le k l
  have HLE := Aside0.mk hle
  generalize hn1 : (l.map it.r5).length = n1 at *
  have HN1 := Aside0.mk hn1
  generalize hnp : ps.length = np at *
  have HNP := Aside0.mk hnp
  have hi0 : 0 ≤ (i : Int) := by omega
  have hi1 : (i : Int) < (np : Int) := by omega
  have hi2 : decide (i < np) = true := decide_eq_true hi
  clear hpk h hT hR hpi hsl hlm hcb hm hbg hB hbb hn1 hnp hcap hle
  have j1 : (kd == 1) = false := beq_eq_false_iff_ne.2 k1
  have j2 : (kd == 2) = false := beq_eq_false_iff_ne.2 k2
  have j3 : (kd == 3) = false := beq_eq_false_iff_ne.2 k3
  have j4 : (kd == 4) = false := beq_eq_false_iff_ne.2 k4
  have j5 : (kd == 5) = false := beq_eq_false_iff_ne.2 k5
  have j6 : (kd == 6) = false := beq_eq_false_iff_ne.2 k6
  have i1 : decide (kd = 1) = false := decide_eq_false k1
  have i2 : decide (kd = 2) = false := decide_eq_false k2
  have i3 : decide (kd = 3) = false := decide_eq_false k3
  have i4 : decide (kd = 4) = false := decide_eq_false k4
  have i5 : decide (kd = 5) = false := decide_eq_false k5
  have i6 : decide (kd = 6) = false := decide_eq_false k6
  clear k1 k2 k3 k4 k5 k6
  go_enter Try.func27, Try.ntmps27
  go_wp2_with (first | ((with_reducible refine gate_dst (N := 3) rfl ?_); refine box_event ?hg (N := 3) ?hd (cs := #[.int .i64 kd, .int .i64 on, .int .i64 k, .int .i64 z]) (t := 60) ?hr ?_; (case hd => rfl); (case hg => rfl); (case hr => first | (go_simp; done) | (go_simp; rfl)); intro gs hg w1 hbox hb; have HB1 := Aside0.mk hb; have L1 := Aside0.mk (show Lay w1 b i g RA n1 rc gs kd on k z from ⟨(hb.cell (World.block_lt_of_cell? w _ hc0)).trans hc0, (hb.cell (World.block_lt_of_cell? w _ hc1)).trans hc1, hbox, by obtain ⟨cells, hc⟩ := HCB.out; exact ⟨cells, blk_below hc hb⟩⟩); clear hg hbox hb hc0 hc1; have hp0_ := L1.out.p0; have hp1_ := L1.out.p1; have hs0_ := L1.out.s0; have hs1_ := L1.out.s1; have hs2_ := L1.out.s2; have hs3_ := L1.out.s3) | (go_at_call 39; refine (scruplelaw05_pick.calls on (np : Int) (i : Int) _ HP.out).mono ?_; rintro e_ w2 ⟨rfl, hd⟩; have HB2 := Aside0.mk (below_then HB1.out HB1.out.size hd.below); have L2 := Aside0.mk (L1.out.below hd.below); clear hd; clear hp0_ hp1_ hs0_ hs1_ hs2_ hs3_; have hp0_ := L2.out.p0; have hp1_ := L2.out.p1; have hs0_ := L2.out.s0; have hs1_ := L2.out.s1; have hs2_ := L2.out.s2; have hs3_ := L2.out.s3))
  refine start_ (n := 12) (S := fun w' => w'.cell? ⟨b, i * 2, none⟩ = some (.pointer (some ⟨g, 0, none⟩)) ∧ w'.cell? ⟨b, i * 2 + 1, none⟩ = some (.slice RA n1 rc) ∧ w'.cell? ⟨gs, 0, none⟩ = some (.int .i64 kd) ∧ w'.cell? ⟨gs, 1, none⟩ = some (.int .i64 on) ∧ w'.cell? ⟨gs, 2, none⟩ = some (.int .i64 k) ∧ w'.cell? ⟨gs, 3, none⟩ = some (.int .i64 z)) (ds := []) #[false, false, false, false, false, false, false, false, false, false, false, false] (by kernel_rfl) rfl rfl ⟨(L2.out.below (below_drew (Below.refl _ _))).p0, (L2.out.below (below_drew (Below.refl _ _))).p1, (L2.out.below (below_drew (Below.refl _ _))).s0, (L2.out.below (below_drew (Below.refl _ _))).s1, (L2.out.below (below_drew (Below.refl _ _))).s2, (L2.out.below (below_drew (Below.refl _ _))).s3⟩ (fun hHeld => ?_)
  generalize hwd : w2.drew = wd2 at hHeld ⊢
  have Ld2 := Aside0.mk (hwd ▸ (L2.out.below (below_drew (Below.refl _ _))))
  have HBd2 := Aside0.mk (hwd ▸ (below_drew HB2.out))
  clear hwd
  clear hp0_ hp1_ hs0_ hs1_ hs2_ hs3_
  refine pure_ (i := 0) (N := some 27) (v := ?_) (a' := ?_) #[true, false, false, false, false, false, false, false, false, false, false, false] rfl rfl (by kernel_rfl) (fun _ _ _ h => h) (Or.inl ⟨by rfl, ?_⟩) ?_ ?_
  rotate_left
  · intro w'
    go_simp
    with_reducible rfl
  rotate_left
  · simp only [Act.put, List.setIfInBounds_toArray, List.set_cons_zero, List.set_cons_succ, i64_w, i32_w]
    rfl
  refine pure_ (i := 1) (N := some 28) (v := ?_) (a' := ?_) #[true, true, false, false, false, false, false, false, false, false, false, false] rfl rfl (by kernel_rfl) (fun _ _ _ h => h) (Or.inl ⟨by rfl, ?_⟩) ?_ ?_
  rotate_left
  · intro w'
    go_simp
    with_reducible rfl
  rotate_left
  · simp only [Act.put, List.setIfInBounds_toArray, List.set_cons_zero, List.set_cons_succ, i64_w, i32_w]
    rfl
  refine pure_ (i := 2) (N := some 29) (v := ?_) (a' := ?_) #[true, true, true, false, false, false, false, false, false, false, false, false] rfl rfl (by kernel_rfl) (fun _ _ _ h => h) (Or.inl ⟨by rfl, ?_⟩) ?_ ?_
  rotate_left
  · intro w'
    go_simp
    with_reducible rfl
  rotate_left
  · simp only [Act.put, List.setIfInBounds_toArray, List.set_cons_zero, List.set_cons_succ, i64_w, i32_w]
    rfl
  refine pure_ (i := 4) (N := some 31) (v := ?_) (a' := ?_) #[true, true, true, false, true, false, false, false, false, false, false, false] rfl rfl (by kernel_rfl) (fun _ _ _ h => h) (Or.inl ⟨by rfl, ?_⟩) ?_ ?_
  rotate_left
  · intro w'
    go_simp
    with_reducible rfl
  rotate_left
  · simp only [Act.put, List.setIfInBounds_toArray, List.set_cons_zero, List.set_cons_succ, i64_w, i32_w]
    rfl
  refine take_ (i := 3) (N := some 30) (v := ?_) (a' := ?_) #[true, true, true, true, true, false, false, false, false, false, false, false] rfl rfl (by kernel_rfl) (fun _ _ _ h => h) (Or.inl ⟨by rfl, ?_⟩) hHeld ?_ ?_
  rotate_left
  · rintro w' ⟨s0, s1, s2, s3, s4, s5⟩
    go_simp
    with_reducible rfl
  rotate_left
  · simp only [Act.put, List.setIfInBounds_toArray, List.set_cons_zero, List.set_cons_succ, i64_w, i32_w]
    rfl
  refine take_ (i := 5) (N := some 32) (v := ?_) (a' := ?_) #[true, true, true, true, true, true, false, false, false, false, false, false] rfl rfl (by kernel_rfl) (fun _ _ _ h => h) (Or.inl ⟨by rfl, ?_⟩) hHeld ?_ ?_
  rotate_left
  · rintro w' ⟨s0, s1, s2, s3, s4, s5⟩
    go_simp
    with_reducible rfl
  rotate_left
  · simp only [Act.put, List.setIfInBounds_toArray, List.set_cons_zero, List.set_cons_succ, i64_w, i32_w]
    rfl
  refine one_ (i := 6) (N := some 33) #[true, true, true, true, true, true, true, false, false, false, false, false] rfl rfl (by kernel_rfl) (by decide) (fun K hK => ?_)
  refine goes_ Try.func16 (by kernel_rfl) rfl #[.slice RA n1 rc, .int .i64 k] (by rfl) rfl rfl (by (try simp only [List.map_toArray, List.map_cons, List.map_nil]); first | done | rfl) ?_
  refine (refFindC l k RA n1 rc HN1.out (Kd.R_below HR.out HBd2.out) HF.out).mono ?_
  rintro e w3 ⟨rfl, hd⟩
  refine ⟨_, rfl, ?_⟩
  have HB3 := Aside0.mk (below_then HBd2.out HBd2.out.size hd.below)
  have L3 := Aside0.mk (Ld2.out.below hd.below)
  clear hd
  have hp0_ := L3.out.p0
  have hp1_ := L3.out.p1
  have hs0_ := L3.out.s0
  have hs1_ := L3.out.s1
  have hs2_ := L3.out.s2
  have hs3_ := L3.out.s3
  refine hK.out _ _ ⟨L3.out.p0, L3.out.p1, L3.out.s0, L3.out.s1, L3.out.s2, L3.out.s3⟩ (fun hHeld => ?_)
  clear hK K
  refine norm_ (a' := ?_) ?_ ?_
  rotate_left
  · show Act.put _ (some 33) _ = _
    simp only [Act.put, List.setIfInBounds_toArray, List.set_cons_zero, List.set_cons_succ, i64_w, i32_w]
    rfl
  refine pure_ (i := 7) (N := some 26) (v := ?_) (a' := ?_) #[true, true, true, true, true, true, true, true, false, false, false, false] rfl rfl (by kernel_rfl) (fun _ _ _ h => h) (Or.inl ⟨by rfl, ?_⟩) ?_ ?_
  rotate_left
  · intro w'
    go_simp
    with_reducible rfl
  rotate_left
  · simp only [Act.put, List.setIfInBounds_toArray, List.set_cons_zero, List.set_cons_succ, i64_w, i32_w]
    rfl
  refine pure_ (i := 8) (N := some 34) (v := ?_) (a' := ?_) #[true, true, true, true, true, true, true, true, true, false, false, false] rfl rfl (by kernel_rfl) (fun _ _ _ h => h) (Or.inl ⟨by rfl, ?_⟩) ?_ ?_
  rotate_left
  · intro w'
    go_simp
    with_reducible rfl
  rotate_left
  · simp only [Act.put, List.setIfInBounds_toArray, List.set_cons_zero, List.set_cons_succ, i64_w, i32_w]
    rfl
  refine pure_ (i := 9) (N := some 35) (v := ?_) (a' := ?_) #[true, true, true, true, true, true, true, true, true, true, false, false] rfl rfl (by kernel_rfl) (fun _ _ _ h => h) (Or.inl ⟨by rfl, ?_⟩) ?_ ?_
  rotate_left
  · intro w'
    go_simp
    with_reducible rfl
  rotate_left
  · simp only [Act.put, List.setIfInBounds_toArray, List.set_cons_zero, List.set_cons_succ, i64_w, i32_w]
    rfl
  refine pure_ (i := 10) (N := some 7) (v := ?_) (a' := ?_) #[true, true, true, true, true, true, true, true, true, true, true, false] rfl rfl (by kernel_rfl) (fun _ _ _ h => h) (Or.inl ⟨by rfl, ?_⟩) ?_ ?_
  rotate_left
  · intro w'
    go_simp
    with_reducible rfl
  rotate_left
  · simp only [Act.put, List.setIfInBounds_toArray, List.set_cons_zero, List.set_cons_succ, i64_w, i32_w]
    rfl
  refine pure_ (i := 11) (N := some 8) (v := ?_) (a' := ?_) #[true, true, true, true, true, true, true, true, true, true, true, true] rfl rfl (by kernel_rfl) (fun _ _ _ h => h) (Or.inl ⟨by rfl, ?_⟩) ?_ ?_
  rotate_left
  · intro w'
    go_simp
    with_reducible rfl
  rotate_left
  · simp only [Act.put, List.setIfInBounds_toArray, List.set_cons_zero, List.set_cons_succ, i64_w, i32_w]
    rfl
  refine done_ (by kernel_rfl) ?_
  try go_wp2
  go_wp2
  go_ret2
  have e0 := HNP.out
  subst e0
  exact ⟨.slice (some ⟨b, 0, none⟩) ps.length cap, ps, by simp, (HST.out.below HB3.out).more, below_then HB.out HB.out.size HB3.out, FrT.of_below _ HB3.out⟩
/-- A step, whatever it is. -/
theorem doesAny {w0 w : World} {m : Nat} {v : Value} {ps : List (Nat × List S80)} (hB : Below w0.heap.size w0 w) (h : St w w0.heap.size m v ps) (kd on k z : Int) (hm : (m + 4) * 16 ≤ 140737488355328) :
    Calls Try.prog 27 #[v, .agg #[.int .i64 kd, .int .i64 on, .int .i64 k, .int .i64 z]] w fun e w' => ∃ (v' : Value) (ps' : List (Nat × List S80)), e = .returned (.tuple #[v', .bool true]) ∧ St w' w0.heap.size (m + 1) v' ps' ∧ Below w0.heap.size w0 w' ∧ FrT v v' w w' := by
  obtain ⟨i, hi, hpk⟩ := pick_ok on ps.length h.lo h.hi
  obtain ⟨gl, hgl⟩ : ∃ gl, ps[i]? = some gl := ⟨_, List.getElem?_eq_getElem hi⟩
  obtain ⟨g, l⟩ := gl
  have hu : ∀ {P : Nat → List S80 → Prop}, P g l → ∀ g' l', ps[i]? = some (g', l') → P g' l' := fun hP g' l' e => by
    rw [hgl] at e
    obtain ⟨rfl, rfl⟩ := Prod.mk.inj (Option.some.inj e)
    exact hP
  by_cases k1 : kd = 1
  · subst k1; exact doesPut hB h on k z i hpk hi hm
  by_cases k2 : kd = 2
  · subst k2; exact doesDel hB h on k z i hpk hi hm
  by_cases k3 : kd = 3
  · subst k3
    cases hh : it.has l k with
    | true => exact doesGetY hB h on k z i hpk hi hm (hu (P := fun _ l => it.has l k = true) hh)
    | false => exact doesGetN hB h on k z i hpk hi hm (hu (P := fun _ l => it.has l k = false) hh)
  by_cases k4 : kd = 4
  · subst k4
    by_cases h0 : k < 0
    · exact doesAtL hB h on k z i hpk hi hm h0
    · by_cases h1 : k < (l.length : Int)
      · exact doesAtM hB h on k z i hpk hi hm (by omega) (hu (P := fun _ l => k < (l.length : Int)) h1)
      · exact doesAtH hB h on k z i hpk hi hm (by omega) (hu (P := fun _ l => (l.length : Int) ≤ k) (by omega))
  by_cases k5 : kd = 5
  · subst k5; exact doesFind hB h on k z i hpk hi hm
  by_cases k6 : kd = 6
  · subst k6
    by_cases h6 : ps.length < 6
    · exact doesCopyY hB h on k z i hpk hi hm h6
    · exact doesCopyN hB h on k z i hpk hi hm h6
  exact doesNone hB h kd k1 k2 k3 k4 k5 k6 on k z i hpk hi hm
end
end Go.Proofs.Ytgpmkljklkmipaa.X
