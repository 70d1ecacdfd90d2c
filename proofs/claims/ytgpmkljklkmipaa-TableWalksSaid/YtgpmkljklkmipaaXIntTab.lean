/- XIntTab: walks by hand, for the claim. -/
import Derived.Test.YtgpmkljklkmipaaXx0
import Derived.Test.YtgpmkljklkmipaaXWords
import Derived.Lib.AppendZeros
import Derived.RangeFuncMany
import Derived.Laws.Pointers
import Derived.Shelf.Abstract
import Derived.Lib.SliceRun
import Derived.RangeFuncFrom
import Derived.RangeFuncWrites
import Derived.RangeFuncBox
import Derived.RangeFuncLeaves
import Derived.OwnWalkIn
import Derived.TacticsInMore
import Derived.LoopNIn
import Derived.LoopIn
import Derived.Deep.DeepMust
import Derived.StillTailTactics
import Derived.Test.YtgpmkljklkmipaaXxscrupleref050
import Derived.Test.YtgpmkljklkmipaaXxscruplelaw050
set_option linter.unusedVariables false
set_option linter.unusedSimpArgs false
namespace Go.Proofs.Ytgpmkljklkmipaa.X
open Go.RowKit Go.Proofs.YtgpmkljklkmipaaW.PrintWords Go.Proofs.YtgpmkljklkmipaaW.PrintLast Go.Proofs.YtgpmkljklkmipaaW.PrintMore Go.Proofs.YtgpmkljklkmipaaW
section
set_option maxHeartbeats 4000000
set_option maxRecDepth 100000
/-- The order of two numbers, as cmp.Compare tells it. -/
def it.cs (a b : Int) : Int := if a < b then -1 else if b < a then 1 else 0
theorem it.nan (x : Int) (w : World) : Calls Try.prog 45 #[.int .i64 x] w fun e w' => e = .returned (.bool false) ∧ Below w.heap.size w w' := by
  go_enter Try.func45, Try.ntmps45
  go_wp2
  go_ret
  exact ⟨by simp, Below.refl _ _⟩
theorem it.cmp (a b : Int) (w : World) : Calls Try.prog 36 #[.int .i64 a, .int .i64 b] w fun e w' => e = .returned (.int .i64 (it.cs a b)) ∧ Below w.heap.size w w' := by
  have HB := Aside0.mk (Below.refl w.heap.size w)
  unfold it.cs
  by_cases h1 : a < b
  · rw [if_pos h1]
    have d1 : decide (a < b) = true := decide_eq_true h1
    clear h1
    go_enter Try.func36, Try.ntmps36
    go_wp2_with (first | (go_at_call 45; (with_reducible refine (it.nan a _).mono ?_); rintro e_ w_ ⟨rfl, hb⟩; have n0_ := Aside0.mk (below_step HB.out hb); clear HB hb; have HB := n0_; clear n0_) | (go_at_call 45; (with_reducible refine (it.nan b _).mono ?_); rintro e_ w_ ⟨rfl, hb⟩; have n0_ := Aside0.mk (below_step HB.out hb); clear HB hb; have HB := n0_; clear n0_))
    go_ret
    exact ⟨rfl, HB.out⟩
  · rw [if_neg h1]
    have d1 : decide (a < b) = false := decide_eq_false h1
    clear h1
    by_cases h2 : b < a
    · rw [if_pos h2]
      have d2 : decide (b < a) = true := decide_eq_true h2
      have d3 : decide (a > b) = true := decide_eq_true h2
      clear h2
      go_enter Try.func36, Try.ntmps36
      go_wp2_with (first | (go_at_call 45; (with_reducible refine (it.nan a _).mono ?_); rintro e_ w_ ⟨rfl, hb⟩; have n0_ := Aside0.mk (below_step HB.out hb); clear HB hb; have HB := n0_; clear n0_) | (go_at_call 45; (with_reducible refine (it.nan b _).mono ?_); rintro e_ w_ ⟨rfl, hb⟩; have n0_ := Aside0.mk (below_step HB.out hb); clear HB hb; have HB := n0_; clear n0_))
      go_ret
      exact ⟨rfl, HB.out⟩
    · rw [if_neg h2]
      have d2 : decide (b < a) = false := decide_eq_false h2
      have d3 : decide (a > b) = false := decide_eq_false h2
      clear h2
      go_enter Try.func36, Try.ntmps36
      go_wp2_with (first | (go_at_call 45; (with_reducible refine (it.nan a _).mono ?_); rintro e_ w_ ⟨rfl, hb⟩; have n0_ := Aside0.mk (below_step HB.out hb); clear HB hb; have HB := n0_; clear n0_) | (go_at_call 45; (with_reducible refine (it.nan b _).mono ?_); rintro e_ w_ ⟨rfl, hb⟩; have n0_ := Aside0.mk (below_step HB.out hb); clear HB hb; have HB := n0_; clear n0_))
      go_ret
      exact ⟨rfl, HB.out⟩
theorem it.clo (x k y : Int) (w : World) : Calls Try.prog 35 #[.agg #[.int .i64 x, .int .i64 y], .int .i64 k] w fun e w' => e = .returned (.int .i64 (it.cs x k)) ∧ Below w.heap.size w w' := by
  have hu80 := Try.underlying80
  go_enter Try.func35, Try.ntmps35
  go_wp2_with (first | ((with_reducible refine gate_dst (N := 2) rfl ?_); refine box_event ?hg (N := 2) ?hd (cs := #[.int .i64 x, .int .i64 y]) (t := 80) ?hr ?_; (case hd => rfl); (case hg => rfl); (case hr => first | (go_simp; done) | (go_simp; rfl)); intro gb hg w1 hbox hb; have HB1 := Aside0.mk hb; have hz : w1.cell? ⟨gb, 0, none⟩ = some (.int .i64 x) := (blk_cell hbox 0).trans rfl; have hy := blk_frozen hbox 0; clear hg hbox hb) | (go_at_call 36; refine (it.cmp x k _).mono ?_; rintro e_ w_ ⟨rfl, hb⟩))
  go_ret
  exact ⟨rfl, below_step HB1.out hb⟩
/-- The binary search, as the code does it. -/
def it.bs (l : List S80) (k : Int) : Nat → Int → Int → Option Int
  | 0, _, _ => none
  | q + 1, i, j => if i < j then (if 0 ≤ (i + j) / 2 then (if (i + j) / 2 < (l.length : Int) then (if it.cs (rd_T80 l ((i + j) / 2)).f0 k < 0 then it.bs l k q ((i + j) / 2 + 1) j else it.bs l k q i ((i + j) / 2)) else none) else none) else some i
theorem it.search (q : Nat) (l : List S80) (k : Int) (A : Option Addr) (c : Nat) (r : Int) (w : World) (hr : Kd.C k80 w A l.length l) (hc : l.length ≤ c) (hl : l.length ≤ 4611686018427387904) (h : it.bs l k q 0 (l.length : Int) = some r) :
    Calls Try.prog 34 #[.slice A l.length c, .int .i64 k, .func (.func 35) #[] #[]] w fun e w' => e = .returned (.tuple #[.int .i64 r, .bool (decide (r < (l.length : Int)) && it.cs (rd_T80 l r).f0 k == 0)]) ∧ Below w.heap.size w w' := by
  have hu80 := Try.underlying80
  have HR := Aside0.mk hr
  have HC := Aside0.mk hc
  have HL := Aside0.mk hl
  have HH := Aside0.mk h
  clear hr hc hl h
  go_enter Try.func34, Try.ntmps34
  go_wp2
  go_loopg [9, 10, 11] q (fun kq v9 v10 v11 w' => ∃ (i j : Int), v9 = .int .i64 i ∧ v10 = .int .i64 j ∧ Aside0 (it.bs l k kq i j = some r) ∧ Aside0 (kq ≤ q) ∧ Aside0 (0 ≤ i ∧ i ≤ l.length ∧ 0 ≤ j ∧ j ≤ l.length) ∧ Aside0 (Below w.heap.size w w'))
  case atStart => exact ⟨0, l.length, rfl, rfl, HH, ⟨Nat.le_refl _⟩, ⟨by omega, by omega, by omega, by omega⟩, ⟨Below.refl _ _⟩⟩
  case round =>
    obtain ⟨i, j, rfl, rfl, HA, HK, HI, HB⟩ := hrel
    cases gk with
    | zero => exact absurd HA.out (by simp [it.bs])
    | succ q1 =>
      have H := HA.out
      clear HA HH
      have hi := HI.out
      have hl := HL.out
      simp only [it.bs] at H
      by_cases c1 : i < j
      · have c1b : decide (i < j) = true := decide_eq_true c1
        have e1 : wrap64 (i + j) = i + j := by unfold wrap64; omega
        have e2 : (i + j) % 18446744073709551616 = i + j := by omega
        have e3 : wrap64 ((i + j) / 2) = (i + j) / 2 := by unfold wrap64; omega
        have p0 : 0 ≤ (i + j) / 2 := by omega
        have p1 : (i + j) / 2 < (l.length : Int) := by omega
        rw [if_pos c1, if_pos p0, if_pos p1] at H
        have bp0 : decide (0 ≤ (i + j) / 2) = true := decide_eq_true p0
        have bp1 : decide ((i + j) / 2 < (l.length : Int)) = true := decide_eq_true p1
        obtain ⟨ad, ead, hx0, hx1⟩ := at_T80 HR.out ((i + j) / 2) p0 p1
        cases ead
        replace hx0 := (HB.out.cell (World.block_lt_of_cell? w _ hx0)).trans hx0
        replace hx1 := (HB.out.cell (World.block_lt_of_cell? w _ hx1)).trans hx1
        generalize rd_T80 l ((i + j) / 2) = x at *
        generalize hm : (i + j) / 2 = m at *
        have e4 : wrap64 (m + 1) = m + 1 := by unfold wrap64; omega
        by_cases c2 : it.cs x.f0 k < 0
        · rw [if_pos c2] at H
          have c2b : decide (it.cs x.f0 k < 0) = true := decide_eq_true c2
          have H' := Aside0.mk H
          clear H
          go_wp2_with (go_at_call 35; refine (it.clo x.f0 k x.f1 _).mono ?_; rintro e_ w2 ⟨rfl, hb⟩; have HB2 := Aside0.mk (below_step HB.out hb); clear hb)
          go_roundg q1
          case measure => have := HK.out; omega
          case rel => exact ⟨m + 1, j, (by first | rfl | (congr 1)), rfl, H', ⟨by have := HK.out; omega⟩, ⟨by omega, by omega, by omega, by omega⟩, HB2⟩
        · rw [if_neg c2] at H
          have c2b : decide (it.cs x.f0 k < 0) = false := decide_eq_false c2
          have H' := Aside0.mk H
          clear H
          go_wp2_with (go_at_call 35; refine (it.clo x.f0 k x.f1 _).mono ?_; rintro e_ w2 ⟨rfl, hb⟩; have HB2 := Aside0.mk (below_step HB.out hb); clear hb)
          go_roundg q1
          case measure => have := HK.out; omega
          case rel => exact ⟨i, m, rfl, (by first | rfl | (congr 1)), H', ⟨by have := HK.out; omega⟩, ⟨by omega, by omega, by omega, by omega⟩, HB2⟩
      · have c1b : decide (i < j) = false := decide_eq_false c1
        rw [if_neg c1] at H
        obtain rfl := Option.some.inj H
        by_cases c3 : i < (l.length : Int)
        · have c3b : decide (i < (l.length : Int)) = true := decide_eq_true c3
          have bp0 : decide (0 ≤ i) = true := decide_eq_true hi.1
          obtain ⟨ad, ead, hx0, hx1⟩ := at_T80 HR.out i hi.1 c3
          cases ead
          replace hx0 := (HB.out.cell (World.block_lt_of_cell? w _ hx0)).trans hx0
          replace hx1 := (HB.out.cell (World.block_lt_of_cell? w _ hx1)).trans hx1
          generalize hxe : rd_T80 l i = x at *
          go_wp2_with (go_at_call 35; refine (it.clo x.f0 k x.f1 _).mono ?_; rintro e_ w2 ⟨rfl, hb⟩; have HB2 := Aside0.mk (below_step HB.out hb); clear hb)
          go_ret2
          exact ⟨by simp [c3, hxe], HB2.out⟩
        · have c3b : decide (i < (l.length : Int)) = false := decide_eq_false c3
          go_wp2
          go_ret2
          exact ⟨by simp [c3], HB.out⟩
theorem it.ptr : Try.prog.underlying 39 = some (.pointer (Try.prog.pointee 39)) := by kernel_rfl
theorem it.eqn1 (a : Addr) (w : World) : (binOp .eql 39 (.pointer (some a)) (.pointer none)).run Try.prog w = .ok (.bool false) w := run_eql_pointer_nil w 39 (some a) it.ptr
attribute [local go_sem high] it.eqn1
/-- A table at block g: its cells are a row of ours (made since base). -/
structure it.Tab (w : World) (base g : Nat) (l : List S80) (A : Option Addr) (c : Nat) : Prop where
  cel : w.heap[g]? = some (.cells #[.slice A l.length c] 78 (0, 0))
  row : Kd.R k80 80 w base (fun _ => True) (.slice A l.length c) l
  len : l.length ≤ 4611686018427387904
/-- All but block g stays. -/
def it.Fr (g : Nat) (w w' : World) : Prop := w.heap.size ≤ w'.heap.size ∧ ∀ k, k < w.heap.size → k ≠ g → w'.heap[k]? = w.heap[k]?
theorem it.Fr.refl (g : Nat) (w : World) : it.Fr g w w := ⟨Nat.le_refl _, fun _ _ _ => rfl⟩
theorem it.Fr.trans {g : Nat} {w w1 w2 : World} (h : it.Fr g w w1) (k : it.Fr g w1 w2) : it.Fr g w w2 := ⟨Nat.le_trans h.1 k.1, fun i hi hne => (k.2 i (Nat.lt_of_lt_of_le hi h.1) hne).trans (h.2 i hi hne)⟩
theorem it.Fr.of_below {g : Nat} {w w1 : World} (h : Below w.heap.size w w1) : it.Fr g w w1 := ⟨h.size, fun i hi _ => h.block i hi⟩
theorem it.Fr.set (w : World) (g : Nat) (v : Value) : it.Fr g w (w.setCell ⟨g, 0, none⟩ v) := ⟨by simp [World.setCell], fun i _ hne => Below.heap_setCell w ⟨g, 0, none⟩ v i hne⟩
theorem it.Fr.grown {g : Nat} {w W W1 : World} {b : Nat} (h : it.Fr g w W) (hg : W.grownBy W1 (some b)) (hb : w.heap.size ≤ b) : it.Fr g w W1 :=
  ⟨Nat.le_trans h.1 hg.size, fun i hi hne => (hg.block i (Nat.lt_of_lt_of_le hi h.1) (fun e => by injection e with e; omega)).trans (h.2 i hi hne)⟩
theorem it.Fr.rowk {α : Type} {d : Kd α} {e base g : Nat} {w w1 : World} {v : Value} {xs : List α} {ok : Nat → Prop} {cs : Array Value} (hk : it.Fr g w w1) (BK : w.heap[g]? = some (.cells cs 78 (0, 0))) (h : d.R e w base ok v xs) (ht : ∀ q, q ∈ e :: d.E → q ≠ 78) : d.R e w1 base ok v xs :=
  Kd.R_mono (Kd.R_move (Kd.R_bound (Kd.R_types h BK ht)) (fun k hk' => hk.2 k hk'.2.2.1 hk'.1.2)) (fun _ h => h.1.1)
theorem it.Fr.tab {w w1 : World} {base g g2 : Nat} {l : List S80} {A : Option Addr} {c : Nat} {cs : Array Value} (hk : it.Fr g w w1) (BK : w.heap[g]? = some (.cells cs 78 (0, 0))) (hne : g2 ≠ g) (h : it.Tab w base g2 l A c) : it.Tab w1 base g2 l A c :=
  ⟨(hk.2 g2 (blk_lt h.cel) hne).trans h.cel, it.Fr.rowk hk BK h.row (by decide), h.len⟩
theorem it.len1 {w : World} {base g : Nat} {l : List S80} {A : Option Addr} {c : Nat} (h : it.Tab w base g l A c) : Calls Try.prog 23 #[.pointer (some ⟨g, 0, none⟩)] w fun e w' => e = .returned (.int .i64 l.length) ∧ Below w.heap.size w w' := by
  have hz : w.cell? ⟨g, 0, none⟩ = some (.slice A l.length c) := (blk_cell h.cel 0).trans rfl
  have hy := blk_frozen h.cel 0
  go_enter Try.func23, Try.ntmps23
  go_wp2
  go_ret
  exact ⟨rfl, Below.refl _ _⟩
theorem it.find1 {w : World} {base g : Nat} {l : List S80} {A : Option Addr} {c : Nat} (h : it.Tab w base g l A c) (q : Nat) (k : Int) (r : Int) (hb : it.bs l k q 0 (l.length : Int) = some r) :
    Calls Try.prog 20 #[.pointer (some ⟨g, 0, none⟩), .int .i64 k] w fun e w' => e = .returned (.tuple #[.int .i64 r, .bool (decide (r < (l.length : Int)) && it.cs (rd_T80 l r).f0 k == 0)]) ∧ Below w.heap.size w w' := by
  have hz : w.cell? ⟨g, 0, none⟩ = some (.slice A l.length c) := (blk_cell h.cel 0).trans rfl
  have hy := blk_frozen h.cel 0
  have HT := Aside0.mk h
  have HQ := Aside0.mk hb
  clear hb
  generalize hbb : (decide (r < (l.length : Int)) && it.cs (rd_T80 l r).f0 k == 0) = bb
  go_enter Try.func20, Try.ntmps20
  go_wp2_with (go_at_call 34; refine (it.search q l k A c r _ (Kd.R_reads' HT.out.row).2.2 (Kd.R_reads' HT.out.row).2.1 HT.out.len HQ.out).mono ?_; rw [hbb]; rintro e_ w2 ⟨rfl, hb⟩)
  go_ret2
  exact ⟨rfl, hb⟩
theorem it.at1 {w : World} {base g : Nat} {l : List S80} {A : Option Addr} {c : Nat} (h : it.Tab w base g l A c) (i : Int) (h0 : 0 ≤ i) (h1 : i < (l.length : Int)) :
    Calls Try.prog 19 #[.pointer (some ⟨g, 0, none⟩), .int .i64 i] w fun e w' => e = .returned (.tuple #[.int .i64 (rd_T80 l i).f0, .int .i64 (rd_T80 l i).f1, .bool true]) ∧ Below w.heap.size w w' := by
  have HT := Aside0.mk h
  have hz : w.cell? ⟨g, 0, none⟩ = some (.slice A l.length c) := (blk_cell h.cel 0).trans rfl
  have hy := blk_frozen h.cel 0
  have b0 : decide (i < 0) = false := decide_eq_false (by omega)
  have b1 : decide (i ≥ (l.length : Int)) = false := decide_eq_false (by omega)
  have b2 : decide ((l.length : Int) ≤ i) = false := decide_eq_false (by omega)
  have b3 : decide (0 ≤ i) = true := decide_eq_true h0
  have b4 : decide (i < (l.length : Int)) = true := decide_eq_true h1
  have hu80 := Try.underlying80
  obtain ⟨ad, ead, hx0, hx1⟩ := at_T80 (Kd.R_reads' h.row).2.2 i h0 h1
  cases ead
  generalize rd_T80 l i = x at *
  go_enter Try.func19, Try.ntmps19
  go_wp2_with (go_at_call 23; refine (it.len1 HT.out).mono ?_; rintro e_ w2 ⟨rfl, hb⟩; have HB2 := Aside0.mk hb; have kz := (hb.cell (World.block_lt_of_cell? w _ hz)).trans hz; have BK2 := blk_below HT.out.cel hb; have ky := blk_frozen BK2 0; have k0 := (hb.cell (World.block_lt_of_cell? w _ hx0)).trans hx0; have k1 := (hb.cell (World.block_lt_of_cell? w _ hx1)).trans hx1; clear hz hy hx0 hx1 hb BK2)
  go_quiet (fail)
  go_wp2
  go_ret3
  exact ⟨rfl, pw_below_drewN HB2.out _⟩
theorem it.info80 : (Try.prog.info? 80).map (fun i => (i.zero, i.size, i.bytes)) = some (some (.agg #[.int .i64 0, .int .i64 0]), 2, 16) := by kernel_rfl
/-- The cells of a table, as a row of ours that is read: what is told of an element lies below. -/
theorem it.rows {w : World} {base : Nat} {l : List S80} {A : Option Addr} {c : Nat} (h : Kd.R k80 80 w base (fun _ => True) (.slice A l.length c) l) : ReadsRow (k80.M w base (fun k => k < w.heap.size)) 2 w A l.length l := by
  obtain ⟨A', c', e, _, hr⟩ := OwnRow.reads h.2
  injection e with e1 _ _
  subst e1
  exact hr.imp_ (Below.refl _ _) (fun x cs hp => k80.M_mono (fun k hk => hk.2.2.1) (k80.M_bound hp))
theorem it.clone1 {w0 w : World} {l : List S80} {ad : Addr} {c : Nat} (hB : Below w0.heap.size w0 w) (h : Kd.R k80 80 w w0.heap.size (fun _ => True) (.slice (some ad) l.length c) l) (hl : l.length * 16 ≤ 140737488355328) :
    Calls Try.prog 37 #[.slice (some ad) l.length c] w fun e w' => ∃ v' : Value, e = .returned v' ∧ Kd.R k80 80 w' w0.heap.size (fun _ => True) v' l ∧ (∃ b, v'.ownBlock = some b ∧ w.heap.size ≤ b) ∧ Below w.heap.size w w' := by
  have info80 := it.info80
  have HR := Aside0.mk (it.rows h)
  have HL := Aside0.mk hl
  have HB := Aside0.mk hB
  clear hl hB h
  have hE0 : ∀ w' : World, (binOp .eql 76 (.slice (some ad) l.length c) (.slice none 0 0)).run Try.prog w' = .ok (.bool false) w' := fun w' => Lib.run_eql_slice_nil w' _ _ _ _ _ _ _ Try.underlying76
  go_enter Try.func37, Try.ntmps37
  go_wp2_with (first | ((with_reducible refine gate_dst (N := 5) rfl ?_); refine Kd.R_lit k80 (w0 := w) w.heap.size 80 ?hg (N := 5) ?hd (xs := ([] : List S80)) (inner := []) (ok := fun _ => True) (okp := fun _ => True) ?hr ?hp (fun _ hk => hk) trivial (Below.refl _ _) (Nat.le_refl _) (by simp) ?_; (case hd => rfl); (case hg => rfl); (case hr => first | (go_simp; done) | (go_simp; rfl)); (case hp => exact Reps.none _ _); intro v1 w1 ho hb hg_ hnew; have HO := Aside0.mk ho; have HW := Aside0.mk hb; have HN := Aside0.mk hnew; clear ho hb hg_ hnew) | (at_builtin; refine Kd.R_append_rows k80 (Rr := k80.M w w0.heap.size (fun k => k < w.heap.size)) (w0 := w0) w0.heap.size rfl (.tmp 5) (.tmp 6) 76 80 (.agg #[.int .i64 0, .int .i64 0]) 16 rfl Try.underlying76 info80 rfl (by decide) (by omega) v1 ([] : List S80) l (some ad) l.length c (fun _ => True) (fun k => k < w.heap.size) rfl rfl ?aO ?aR ?aK ?aP ?aF ?aB ?aS ?aL ?_; (case aR => exact HR.out.imp_ HW.out (fun _ _ hp => hp)); (case aK => intro x cs hp; exact Kd.M_below hp HW.out); (case aP => intro k hk; refine ⟨trivial, fun e_ => ?_⟩; obtain ⟨b, hb, hge⟩ := HN.out; rw [hb] at e_; injection e_ with e_; omega); (case aB => exact below_then HB.out HB.out.size HW.out); (case aF => exact (fun _ _ => trivial)); (case aO => exact Kd.R_lower HO.out HB.out.size); (case aS => exact Nat.le_trans HB.out.size HW.out.size); (case aL => have := HL.out; simp; omega); intro v2 w2 ho hb hg hat; have HO2 := Aside0.mk ho; have HG2 := Aside0.mk hg; have HA2 := Aside0.mk hat; clear ho hb hg hat))
  go_ret
  refine ⟨v2, rfl, by simpa using HO2.out, ?_, ?_⟩
  · obtain ⟨b, hb, hge⟩ := HN.out
    rcases HA2.out with e | ⟨b2, e, hge2⟩
    · exact ⟨b, by rw [e, hb], hge⟩
    · exact ⟨b2, e, Nat.le_trans HW.out.size hge2⟩
  · obtain ⟨b, hb, hge⟩ := HN.out
    exact HW.out.grown HG2.out HW.out.size (fun k hk => by rw [hb] at hk; injection hk with hk; omega)
theorem it.rows_take {α : Type} {Rr : α → List Value → Prop} {w : World} {A : Option Addr} {xs : List α} {m sz : Nat} (h : ReadsRow Rr sz w A xs.length xs) (hm : m ≤ xs.length) : ReadsRow Rr sz w A m (xs.take m) := by
  refine ⟨by rw [List.length_take]; omega, by have := h.2.1; omega, fun hp => ?_⟩
  obtain ⟨ad, e, hc⟩ := h.2.2 (by omega)
  refine ⟨ad, e, fun j p hj => hc j p ?_⟩
  rw [List.getElem?_take] at hj
  split at hj
  · exact hj
  · cases hj
theorem it.rows_drop {α : Type} {Rr : α → List Value → Prop} {w : World} {A : Option Addr} {xs : List α} {m sz c : Nat} (h : ReadsRow Rr sz w A xs.length xs) (hm : m ≤ xs.length) (hc : xs.length ≤ c) : ReadsRow Rr sz w (if c = m then A else A.map (·.add (m * sz))) (xs.length - m) (xs.drop m) := by
  refine ⟨List.length_drop, by have := h.2.1; omega, fun hp => ?_⟩
  obtain ⟨ad, rfl, hcell⟩ := h.2.2 (by omega)
  rw [if_neg (by omega)]
  refine ⟨ad.add (m * sz), rfl, fun j p hj => ?_⟩
  rw [List.getElem?_drop] at hj
  obtain ⟨cs, h1, h2, h3⟩ := hcell (m + j) p hj
  refine ⟨cs, h1, h2, fun i u hu => ?_⟩
  rw [Addr.add_add, show m * sz + (j * sz + i) = (m + j) * sz + i by rw [Nat.add_mul]; omega]
  exact h3 i u hu
theorem it.newer {B : Nat} {W : World} {v v1 : Value} (h : ∀ b, v.ownBlock = some b → B ≤ b) (hs : B ≤ W.heap.size) (hat : v1.ownBlock = v.ownBlock ∨ ∃ b, v1.ownBlock = some b ∧ W.heap.size ≤ b) : ∀ b, v1.ownBlock = some b → B ≤ b := fun b e => by
  rcases hat with e1 | ⟨b', e1, hge⟩
  · exact h b (by rw [← e1]; exact e)
  · rw [e1] at e
    injection e with e
    omega
theorem it.tabset {W : World} {base g : Nat} {l : List S80} {A : Option Addr} {c : Nat} {old : Value} (hc : W.heap[g]? = some (.cells #[old] 78 (0, 0))) (hr : Kd.R k80 80 W base (fun _ => True) (.slice A l.length c) l) (hl : l.length ≤ 4611686018427387904) {n : Nat} (hn : n = l.length) : it.Tab (W.setCell ⟨g, 0, none⟩ (.slice A n c)) base g l A c := by
  subst hn
  exact ⟨by simpa using blk_set hc 0 (.slice A l.length c), Kd.R_mono (Kd.R_far (Kd.R_types hr hc (by decide)) (fun _ hk => hk.2) _) (fun _ _ => trivial), hl⟩
/-- Put, where nothing stands under the key. -/
theorem it.putN {w0 w : World} {g : Nat} {l : List S80} {A : Option Addr} {c : Nat} (hB : Below w0.heap.size w0 w) (hg0 : w0.heap.size ≤ g) (h : it.Tab w w0.heap.size g l A c) (q : Nat) (k : Int) (rn : Nat) (hq : it.bs l k q 0 (l.length : Int) = some (rn : Int)) (hr1 : rn ≤ l.length)
    (hno : (decide ((rn : Int) < (l.length : Int)) && it.cs (rd_T80 l (rn : Int)).f0 k == 0) = false) (z : Int) (hl : (l.length + 1) * 16 ≤ 140737488355328) :
    Calls Try.prog 21 #[.pointer (some ⟨g, 0, none⟩), .int .i64 k, .int .i64 z] w fun e w' => ∃ (A' : Option Addr) (c' : Nat), e = .returned (.bool false) ∧ it.Tab w' w0.heap.size g (l.take rn ++ [⟨k, z⟩] ++ l.drop rn) A' c' ∧ it.Fr g w w' ∧ Below w0.heap.size w0 w' := by
  have info80 := it.info80
  obtain ⟨i0, hi0, _, hsz0, _⟩ := info_parts info80
  have HT := Aside0.mk h
  have HQ := Aside0.mk hq
  have HL := Aside0.mk hl
  have HI := Aside0.mk hr1
  have HR := Aside0.mk (it.rows h.row)
  have HC := Aside0.mk (Kd.R_reads' h.row).2.1
  have hcT := cut_to (P := Try.prog) 76 80 .i64 Try.underlying76 hi0 A l.length c (rn : Int) (by omega) (by omega) (Kd.R_reads' h.row).2.1
  have hcD := cut_from (P := Try.prog) 76 80 .i64 Try.underlying76 hi0 2 hsz0 A l.length c (rn : Int) (by omega) (by omega)
  have hRD := it.rows_drop (m := rn) (c := c) HR.out hr1 HC.out
  rw [Int.toNat_natCast] at hcT hcD
  generalize (if c = rn then A else A.map (·.add (rn * 2))) = AD at hcD hRD
  generalize hnD : l.length - rn = nD at hcD hRD
  generalize c - rn = cD at hcD
  have HRD := Aside0.mk hRD
  have HND := Aside0.mk hnD
  have HR1 := Aside0.mk hr1
  have HL3 := Aside0.mk (show (([] : List S80).length + rn) * 16 ≤ 140737488355328 by simp only [List.length_nil]; omega)
  have HL4 := Aside0.mk (show ((l.take rn).length + 1) * 16 ≤ 140737488355328 by rw [List.length_take]; omega)
  have HL5 := Aside0.mk (show ((l.take rn ++ [(⟨k, z⟩ : S80)]).length + nD) * 16 ≤ 140737488355328 by simp only [List.length_append, List.length_take, List.length_cons, List.length_nil]; omega)
  clear hRD hnD hr1
  have hz : w.cell? ⟨g, 0, none⟩ = some (.slice A l.length c) := (blk_cell h.cel 0).trans rfl
  have hy := blk_frozen h.cel 0
  clear hq hl
  go_enter Try.func21, Try.ntmps21
  go_wp2_with (first | (go_at_call 20; refine (it.find1 HT.out q k (rn : Int) HQ.out).mono ?_; rw [hno]; rintro e_ w1 ⟨rfl, hb⟩; have HW1 := Aside0.mk hb; have HB1 := Aside0.mk (below_then hB hB.size hb); have BK1 := Aside0.mk (blk_below HT.out.cel hb); clear hb hz hy; have hz1 : w1.cell? ⟨g, 0, none⟩ = some (.slice A l.length c) := (blk_cell BK1.out 0).trans rfl; have hy1 := blk_frozen BK1.out 0) | ((with_reducible refine gate_dst (N := 41) rfl ?_); refine XWords.R_make_c k80 (w0 := w0) w0.heap.size 80 rfl (N := 41) rfl 76 _ _ rfl 0 (wrap64 ((l.length : Int) + 1)) rfl rfl Try.underlying76 (.agg #[.int .i64 0, .int .i64 0]) 16 info80 rfl (by decide) (by omega) z80 (ok := fun _ => True) (okp := fun _ => True) (k80_mkM _ _ _ z80) (fun _ hk => hk) trivial (by omega) (by have e := HL.out; unfold wrap64; omega) (by have e := HL.out; have e2 : wrap64 ((l.length : Int) + 1) = (l.length : Int) + 1 := (by unfold wrap64; omega); rw [e2]; omega) HB1.out HB1.out.size ?_; intro v2 w2 ho hb hg hat; clear hz1 hy1; have HO2 : Aside0 (Kd.R k80 80 w2 w0.heap.size (fun _ => True) v2 []) := Aside0.mk ho; have HB2 := Aside0.mk hb; have BK2 := Aside0.mk (blk_grown BK1.out hg (by simp)); have HN2 := Aside0.mk (show ∀ b, v2.ownBlock = some b → w.heap.size ≤ b from fun b e_ => by obtain ⟨b', e', hge⟩ := hat; rw [e'] at e_; injection e_ with e_; have := HW1.out.size; omega); have HW2 := Aside0.mk (HW1.out.grown hg HW1.out.size (fun _ e_ => by cases e_)); clear ho hb hg hat; have hz2 : w2.cell? ⟨g, 0, none⟩ = some (.slice A l.length c) := (blk_cell BK2.out 0).trans rfl; have hy2 := blk_frozen BK2.out 0) | (at_builtin; refine Kd.R_append_rows k80 (Rr := k80.M w w0.heap.size (fun k_ => k_ < w.heap.size)) (w0 := w0) w0.heap.size rfl (.tmp 42) (.tmp 48) 76 80 (.agg #[.int .i64 0, .int .i64 0]) 16 rfl Try.underlying76 info80 rfl (by decide) (by omega) v2 ([] : List S80) (l.take rn) A rn c (fun _ => True) (fun k_ => k_ < w.heap.size) rfl rfl ?aO ?aR ?aK (fun k_ hk => ⟨trivial, fun e_ => Nat.not_lt.2 (HN2.out k_ e_.symm) hk⟩) ?aF ?aB ?aS ?aL ?_; (case aR => exact (it.rows_take (HR.out) HR1.out).imp_ HW2.out (fun _ _ hp => hp)); (case aK => intro x cs hp; exact Kd.M_below hp HW2.out); (case aB => exact HB2.out); (case aF => exact (fun _ _ => trivial)); (case aO => exact HO2.out); (case aS => exact HB2.out.size); (case aL => exact HL3.out); intro v3 w3 ho hb hg hat; clear hz2 hy2; have HO3 : Aside0 (Kd.R k80 80 w3 w0.heap.size (fun _ => True) v3 (l.take rn)) := Aside0.mk ho; have HB3 := Aside0.mk hb; have BK3 := Aside0.mk (blk_grown BK2.out hg (Kd.R_away (Kd.R_types HO2.out BK2.out (by decide)) (fun _ hk => hk.2))); have HN3 := Aside0.mk (it.newer HN2.out HW2.out.size hat); have HW3 := Aside0.mk (HW2.out.grown hg HW2.out.size HN2.out); clear ho hb hg hat; have hz3 : w3.cell? ⟨g, 0, none⟩ = some (.slice A l.length c) := (blk_cell BK3.out 0).trans rfl; have hy3 := blk_frozen BK3.out 0) | (at_builtin; refine Kd.R_append k80 (w0 := w0) w0.heap.size rfl (.tmp 50) (.tmp 54) 76 80 (.agg #[.int .i64 0, .int .i64 0]) 16 rfl Try.underlying76 info80 rfl (by decide) (by omega) v3 (l.take rn) (⟨k, z⟩ : S80) [.int .i64 k, .int .i64 z] (fun _ => True) (fun k_ => k_ < w.heap.size) rfl rfl (k80_mkM _ _ _ ⟨k, z⟩) (fun k_ hk => ⟨trivial, fun e_ => Nat.not_lt.2 (HN3.out k_ e_.symm) hk⟩) ?aF ?aO ?aB ?aS ?aL ?_; (case aB => exact HB3.out); (case aF => exact (fun _ _ => trivial)); (case aO => exact HO3.out); (case aS => exact HB3.out.size); (case aL => exact HL4.out); intro v4 w4 ho hb hg hat; clear hz3 hy3; have HO4 : Aside0 (Kd.R k80 80 w4 w0.heap.size (fun _ => True) v4 (l.take rn ++ [(⟨k, z⟩ : S80)])) := Aside0.mk ho; have HB4 := Aside0.mk hb; have BK4 := Aside0.mk (blk_grown BK3.out hg (Kd.R_away (Kd.R_types HO3.out BK3.out (by decide)) (fun _ hk => hk.2))); have HN4 := Aside0.mk (it.newer HN3.out HW3.out.size hat); have HW4 := Aside0.mk (HW3.out.grown hg HW3.out.size HN3.out); clear ho hb hg hat; have hz4 : w4.cell? ⟨g, 0, none⟩ = some (.slice A l.length c) := (blk_cell BK4.out 0).trans rfl; have hy4 := blk_frozen BK4.out 0) | (at_builtin; refine Kd.R_append_rows k80 (Rr := k80.M w w0.heap.size (fun k_ => k_ < w.heap.size)) (w0 := w0) w0.heap.size rfl (.tmp 57) (.tmp 63) 76 80 (.agg #[.int .i64 0, .int .i64 0]) 16 rfl Try.underlying76 info80 rfl (by decide) (by omega) v4 (l.take rn ++ [(⟨k, z⟩ : S80)]) (l.drop rn) AD nD cD (fun _ => True) (fun k_ => k_ < w.heap.size) rfl rfl ?aO ?aR ?aK (fun k_ hk => ⟨trivial, fun e_ => Nat.not_lt.2 (HN4.out k_ e_.symm) hk⟩) ?aF ?aB ?aS ?aL ?_; (case aR => exact HRD.out.imp_ HW4.out (fun _ _ hp => hp)); (case aK => intro x cs hp; exact Kd.M_below hp HW4.out); (case aB => exact HB4.out); (case aF => exact (fun _ _ => trivial)); (case aO => exact HO4.out); (case aS => exact HB4.out.size); (case aL => exact HL5.out); intro v5 w5 ho hb hg hat; clear hz4 hy4; have HO5 : Aside0 (Kd.R k80 80 w5 w0.heap.size (fun _ => True) v5 (l.take rn ++ [(⟨k, z⟩ : S80)] ++ l.drop rn)) := Aside0.mk ho; have HB5 := Aside0.mk hb; have BK5 := Aside0.mk (blk_grown BK4.out hg (Kd.R_away (Kd.R_types HO4.out BK4.out (by decide)) (fun _ hk => hk.2))); have HN5 := Aside0.mk (it.newer HN4.out HW4.out.size hat); have HW5 := Aside0.mk (HW4.out.grown hg HW4.out.size HN4.out); clear ho hb hg hat; have hz5 : w5.cell? ⟨g, 0, none⟩ = some (.slice A l.length c) := (blk_cell BK5.out 0).trans rfl; have hy5 := blk_frozen BK5.out 0;  obtain ⟨A5, c5, e5⟩ := Kd.R_slice HO5.out; subst e5))
  go_ret
  exact ⟨A5, c5, rfl, it.tabset BK5.out HO5.out (by have e := HL5.out; have e2 := HND.out; have e3 := HR1.out; simp only [List.length_append, List.length_take, List.length_drop, List.length_cons, List.length_nil] at e ⊢; omega) (by simp only [List.length_append, List.length_take, List.length_drop, List.length_cons, List.length_nil]; omega), (it.Fr.of_below HW5.out).trans (it.Fr.set _ _ _), HB5.out.setCell hg0 _⟩
/-- Put, where the key stands. -/
theorem it.mid3 {w0 w w2 : World} {g b c2 rn : Nat} {old : Value} {l : List S80} (hB : Below w0.heap.size w0 w2) (hg0 : w0.heap.size ≤ g) (BK : w2.heap[g]? = some (.cells #[old] 78 (0, 0))) (HO : Kd.R k80 80 w2 w0.heap.size (fun _ => True) (.slice (some ⟨b, 0, none⟩) l.length c2) l) (HW : Below w.heap.size w w2)
    (hr : rn < l.length) {csw : Array Value} (BKw : w.heap[g]? = some (.cells csw 78 (0, 0))) : ∀ w3, w3 = w2.setCell ⟨g, 0, none⟩ (.slice (some ⟨b, 0, none⟩) l.length c2) →
    Kd.R k80 80 w3 w0.heap.size (fun _ => True) (.slice (some ⟨b, 0, none⟩) l.length c2) l ∧ Below w0.heap.size w0 w3 ∧ w3.heap[g]? = some (.cells #[.slice (some ⟨b, 0, none⟩) l.length c2] 78 (0, 0)) ∧ it.Fr g w w3 ∧
    ∃ v1, ∀ j u, [.int .i64 (rd_T80 l (rn : Int)).f0, v1][j]? = some u → w3.cell? ⟨b, (rn : Int).toNat * k80.sz + j, none⟩ = some u := by
  rintro w3 rfl
  have h1 : Kd.R k80 80 (w2.setCell ⟨g, 0, none⟩ (.slice (some ⟨b, 0, none⟩) l.length c2)) w0.heap.size (fun _ => True) (.slice (some ⟨b, 0, none⟩) l.length c2) l := Kd.R_mono (Kd.R_far (p := ⟨g, 0, none⟩) (Kd.R_types HO BK (by decide)) (fun _ hk => hk.2) _) (fun _ _ => trivial)
  have hF : it.Fr g w (w2.setCell ⟨g, 0, none⟩ (.slice (some ⟨b, 0, none⟩) l.length c2)) := (it.Fr.of_below HW).trans (it.Fr.set _ _ _)
  obtain ⟨c3, hc1, hc2, hc3, _⟩ := Kd.R_elem h1 z80 (rn : Int) (by omega) (by omega)
  have hc4 := k80_openM hc2
  subst hc4
  exact ⟨h1, hB.setCell hg0 _, by simpa using blk_set BK 0 (.slice (some ⟨b, 0, none⟩) l.length c2), hF, _, hc3⟩
theorem it.grownBlk {W W1 : World} {g b n c base : Nat} {cs : Array Value} {l : List S80} (BK : W.heap[g]? = some (.cells cs 78 (0, 0))) (HO : Kd.R k80 80 W base (fun _ => True) (.slice (some ⟨b, 0, none⟩) n c) l) (hg : W.grownBy W1 (some b)) : W1.heap[g]? = some (.cells cs 78 (0, 0)) :=
  blk_grown BK (by simpa [Value.ownBlock] using hg) (Kd.R_away (Kd.R_types HO BK (by decide)) (fun _ hk => hk.2))
theorem it.putY {w0 w : World} {g : Nat} {l : List S80} {ad : Addr} {c : Nat} (hB : Below w0.heap.size w0 w) (hg0 : w0.heap.size ≤ g) (h : it.Tab w w0.heap.size g l (some ad) c) (q : Nat) (k : Int) (rn : Nat) (hq : it.bs l k q 0 (l.length : Int) = some (rn : Int)) (hr1 : rn < l.length)
    (hyes : (decide ((rn : Int) < (l.length : Int)) && it.cs (rd_T80 l (rn : Int)).f0 k == 0) = true) (z : Int) (hl : l.length * 16 ≤ 140737488355328) :
    Calls Try.prog 21 #[.pointer (some ⟨g, 0, none⟩), .int .i64 k, .int .i64 z] w fun e w' => ∃ (A' : Option Addr) (c' : Nat), e = .returned (.bool true) ∧ it.Tab w' w0.heap.size g (l.set rn ⟨(rd_T80 l (rn : Int)).f0, z⟩) A' c' ∧ it.Fr g w w' ∧ Below w0.heap.size w0 w' := by
  have HT := Aside0.mk h
  have HQ := Aside0.mk hq
  have HL := Aside0.mk hl
  have HI := Aside0.mk hr1
  have i0 : decide (0 ≤ (rn : Int)) = true := decide_eq_true (by omega)
  have i1 : decide ((rn : Int) < (l.length : Int)) = true := decide_eq_true (by omega)
  have i2 : decide (rn < l.length) = true := decide_eq_true hr1
  have i3 : (rn < l.length) = True := eq_true hr1
  clear hl
  have hz : w.cell? ⟨g, 0, none⟩ = some (.slice (some ad) l.length c) := (blk_cell h.cel 0).trans rfl
  have hy := blk_frozen h.cel 0
  clear hq
  have HOFF := Aside0.mk (show rn * 2 + 1 = (rn : Int).toNat * k80.sz + 1 by rw [Int.toNat_natCast]; rfl)
  go_enter Try.func21, Try.ntmps21
  go_wp2_with (first | (go_at_call 20; refine (it.find1 HT.out q k (rn : Int) HQ.out).mono ?_; rw [hyes]; rintro e_ w1 ⟨rfl, hb⟩; have HW1 := Aside0.mk hb; have HB1 := Aside0.mk (below_then hB hB.size hb); have BK1 := Aside0.mk (blk_below HT.out.cel hb); clear hb hz hy; have hz1 : w1.cell? ⟨g, 0, none⟩ = some (.slice (some ad) l.length c) := (blk_cell BK1.out 0).trans rfl; have hy1 := blk_frozen BK1.out 0) | (go_at_call 37; go_loud (refine (it.clone1 HB1.out (Kd.R_below HT.out.row HW1.out) HL.out).mono ?_; rintro e_ w2 ⟨v2, rfl, ho, ⟨b, hv, hnew⟩, hb⟩; obtain ⟨b2, c2, rfl, _, _, _⟩ := Kd.R_form ho (by have := HI.out; omega); have hv2 : b2 = b := (by simpa [Value.ownBlock] using hv); subst hv2; have HO2 := Aside0.mk ho; have HN2 := Aside0.mk (show w.heap.size ≤ b2 from Nat.le_trans HW1.out.size hnew); have HB2 := Aside0.mk (below_then HB1.out HB1.out.size hb); have HW2 := Aside0.mk (below_then HW1.out HW1.out.size hb); have BK2 := Aside0.mk (blk_below BK1.out hb); clear hb hnew hv ho hz1 hy1; have hz2 : w2.cell? ⟨g, 0, none⟩ = some (.slice (some ad) l.length c) := (blk_cell BK2.out 0).trans rfl; have hy2 := blk_frozen BK2.out 0)) | ((with_reducible refine gate_store (p := 26) rfl ?_); go_loud (refine store_event ?hg (t := 76) (p := 26) (v := .tmp 24) (w1 := w2.setCell ⟨g, 0, none⟩ (.slice (some ⟨b2, 0, none⟩) l.length c2)) ?ho ?hN ?hr ?_); (case ho => rfl); (case hN => rfl); (case hg => rfl); (case hr => first | (go_simp; done) | (go_simp; rfl)); intro w3 e3; obtain ⟨hO3, hB3, hBK3, hF3, v1, hC3⟩ := it.mid3 HB2.out hg0 BK2.out HO2.out HW2.out HI.out HT.out.cel w3 e3; have HO3 := Aside0.mk hO3; have HB3 := Aside0.mk hB3; have BK3 := Aside0.mk hBK3; have HF3 := Aside0.mk hF3; have HC3 := Aside0.mk hC3; clear e3 hz2 hy2 hO3 hB3 hBK3 hF3 hC3; have hz3 : w3.cell? ⟨g, 0, none⟩ = some (.slice (some ⟨b2, 0, none⟩) l.length c2) := (blk_cell BK3.out 0).trans rfl; have hy3 := blk_frozen BK3.out 0) | ((with_reducible refine gate_store (p := 34) rfl ?_); go_must (refine Kd.R_store k80 (w0 := w0) w0.heap.size rfl rfl 3 (.tmp 34) (.tmp 32) rfl 80 (rn : Int) 1 l (⟨(rd_T80 l (rn : Int)).f0, z⟩ : S80) (.int .i64 z) [.int .i64 z] [.int .i64 (rd_T80 l (rn : Int)).f0, v1] (fun _ => True) (fun k_ => k_ < w.heap.size) rfl ?s2 rfl rfl ?s5 ?s6 HO3.out ?s7 ?s8 rfl HC3.out ?s11 ?s12 ?s13 HB3.out ?_; (case s2 => exact HOFF.out); (case s5 => kernel_rfl); (case s6 => intro q_ hq; simp at hq; subst hq; rfl); (case s7 => omega); (case s8 => have := HI.out; omega); (case s11 => exact Nat.le_refl 2); (case s12 => exact k80_mkM _ _ _ (⟨(rd_T80 l (rn : Int)).f0, z⟩ : S80)); (case s13 => exact (fun k_ hk => ⟨trivial, fun e_ => by have := HN2.out; omega⟩)); intro w4 ho hb hg; have HO4 := Aside0.mk ho; have HB4 := Aside0.mk hb; have HG4 := Aside0.mk hg; clear ho hb hg)))
  go_ret
  have hBK := it.grownBlk BK3.out HO3.out HG4.out
  exact ⟨some ⟨b2, 0, none⟩, c2, rfl, ⟨by rw [List.length_set]; exact hBK, by rw [List.length_set]; exact HO4.out, by rw [List.length_set]; exact h.len⟩, HF3.out.grown HG4.out HN2.out, HB4.out⟩
/-- walk's closure: what a round is given. -/
def it.en (x : Int × Int) : Array Value := #[.int .i64 x.1, .int .i64 x.2]
def it.d0 : Int × Int := (0, 0)
theorem it.take_succ {α : Type} (d : α) (vs : List α) (k : Nat) (h : k < vs.length) : vs.take (k + 1) = vs.take k ++ [vs.getD k d] := by
  rw [List.take_add_one, List.getD_eq_getElem?_getD, List.getElem?_eq_getElem h]
  rfl
theorem it.meas (k len : Nat) (h : k < len) (e : wrap64 ((k : Int) + 1) = (k : Int) + 1) : len - (intOf (.int .i64 (wrap64 ((k : Int) + 1)))).toNat < len - (intOf (.int .i64 (k : Int))).toNat := by
  rw [e]
  show len - ((k : Int) + 1).toNat < len - ((k : Int)).toNat
  omega
theorem it.iter1 (F : Fence) (n : Nat) (h44 : F.fn 44) (hro : F.round = none) (hn : 1 ≤ n) (l Bs n₀ : Nat) (ad : Addr) (A : Option Addr) (len cap : Nat) (hAd : 0 < len → A = some ad) (vs : List (Int × Int)) (hlen : vs.length = len) (hreach : len ≤ 4611686018427387904) (hb : 0 < len → ad.block < n₀) (J Jx : List (Int × Int) → World → Prop)
    (hY : ∀ pre x W, J pre W → pre.length < len → YieldAt F (n - 1) Try.prog l (it.en x) W fun e W' =>
      (e = .returned (.bool true) ∧ J (pre ++ [x]) W' ∧ Below n₀ W W') ∨ (e = .returned (.bool false) ∧ Jx (pre ++ [x]) W'))
    (W : World) (hn0 : n₀ ≤ W.heap.size) (hA : AbidesFrom W.heap.size J) (hBs : W.cell? ⟨Bs, 0, none⟩ = some (.slice A len cap)) (hBb : Bs < n₀)
    (hc : ∀ j, j < len → W.cell? (ad.add (j * 2)) = some (.int .i64 (vs.getD j it.d0).1) ∧ W.cell? ⟨(ad.add (j * 2)).block, (ad.add (j * 2)).off + 1, none⟩ = some (.int .i64 (vs.getD j it.d0).2)) (h0 : J [] W) :
    CallsIn F n Try.prog 44 #[.func (.yield l) #[] #[], .pointer (some ⟨Bs, 0, none⟩)] W fun e W' => (∃ v, e = .returned v) ∧
      ((∃ ys, ys = vs ∧ J ys W') ∨ (∃ pre, (∃ k, 0 < k ∧ k ≤ len ∧ pre = vs.take k) ∧ Jx pre W')) := by
  have HY := Aside0.mk hY
  have HC := Aside0.mk hc
  have HA := Aside0.mk hA
  have HL := Aside0.mk hlen
  have HR := Aside0.mk hreach
  clear hY hc hA hlen hreach
  refine callsIn_of_wp Try.func44 rfl h44 ?_ hro
  simp only [Try.ntmps44, List.size_toArray, List.length_cons, List.length_nil, Nat.reduceAdd, Nat.reduceSub, Array.replicate_succ, Array.replicate_zero, List.push_toArray, List.append_toArray, List.nil_append, List.cons_append]
  gi_wp2
  gi_loopw [4, 7] (fun p i wr => ∃ k : Nat, k ≤ len ∧ i = .int .i64 k ∧ J (vs.take k) wr ∧ Below n₀ W wr)
    (fun p i _ => len - (intOf i).toNat)
  case atStart => exact ⟨0, Nat.zero_le _, rfl, h0, Below.refl _ _⟩
  case round =>
    obtain ⟨k, hk, rfl, hJs, hnx⟩ := hrel
    by_cases hlt : k < len
    · obtain rfl : A = some ad := hAd (by omega)
      replace hb := hb (by omega)
      have hcx := HC.out k hlt
      obtain ⟨hc0, hc1⟩ := hcx
      replace hc0 := (hnx.cell (p := ad.add (k * 2)) (by rw [add_block]; exact hb)).trans hc0
      replace hc1 := (hnx.cell (p := ⟨(ad.add (k * 2)).block, (ad.add (k * 2)).off + 1, none⟩) (by show (ad.add (k * 2)).block < n₀; rw [add_block]; exact hb)).trans hc1
      have ets := it.take_succ it.d0 vs k (by have := HL.out; omega)
      generalize vs.getD k it.d0 = x at hc0 hc1 ets
      obtain ⟨x0, x1⟩ := x
      have HW := Aside0.mk (show wrap64 ((k : Int) + 1) = (k : Int) + 1 by have := HR.out; unfold wrap64; omega)
      have HM := Aside0.mk (it.meas k len hlt HW.out)
      obtain ⟨W2, hW2⟩ : ∃ W2, wr.alloc (.cells #[.int .i64 x0, .int .i64 x1] 80) = W2 := ⟨_, rfl⟩
      have hJ2 : J (vs.take k) W2 := HA.out _ wr W2 none hJs (by rw [← hW2]; exact World.grownBy_alloc wr _ none) (fun r e => by cases e)
      have hnx2 : Below n₀ W W2 := by rw [← hW2]; exact hnx.alloc (Nat.le_trans hn0 hnx.size) _
      obtain ⟨fn, tmps, assign, body, hy, hR⟩ := HY.out _ (x0, x1) W2 hJ2 (by rw [List.length_take]; have := HL.out; omega)
      simp only [it.en] at hy
      rw [← hW2] at hy
      have HW2 := Aside0.mk hW2
      clear hW2
      have i1 : decide (k < len) = true := decide_eq_true hlt
      dsimp only at hc0 hc1
      gi_wp2
      rw [HW2.out]
      refine hR.mono ?_
      rintro e W3 (⟨rfl, hJ3, hk3⟩ | ⟨rfl, hJx3⟩)
      · rw [← ets] at hJ3
        clear ets
        gi_wp2
        go_roundw
        case rel => exact ⟨k + 1, by omega, by rw [HW.out]; rfl, hJ3, hnx2.trans hk3⟩
        case measure => exact HM.out
      · rw [← ets] at hJx3
        clear ets
        gi_wp2
        refine bodyPost_ret (results_none rfl _ _ _) rfl ?_
        exact ⟨⟨_, rfl⟩, .inr ⟨_, ⟨k + 1, by omega, by omega, rfl⟩, hJx3⟩⟩
    · obtain rfl : k = len := by omega
      gi_wp2
      go_end0
      have e : vs.take k = vs := List.take_of_length_le (by have := HL.out; omega)
      rw [e] at hJs
      exact ⟨⟨_, rfl⟩, .inl ⟨_, rfl, hJs⟩⟩
theorem it.stops1 (F : Fence) (n : Nat) (h44 : F.fn 44) (hro : F.round = none) (hn : 1 ≤ n) (Bs : Nat) (ad : Addr) (A : Option Addr) (len cap : Nat) (hAd : 0 < len → A = some ad) (vs : List (Int × Int)) (hlen : vs.length = len) (hreach : len ≤ 4611686018427387904) (w : World) (hb : 0 < len → ad.block < w.heap.size)
    (hBs : w.cell? ⟨Bs, 0, none⟩ = some (.slice A len cap))
    (hc : ∀ W, Below w.heap.size w W → ∀ j, j < len → W.cell? (ad.add (j * 2)) = some (.int .i64 (vs.getD j it.d0).1) ∧ W.cell? ⟨(ad.add (j * 2)).block, (ad.add (j * 2)).off + 1, none⟩ = some (.int .i64 (vs.getD j it.d0).2)) :
    SeqStopsK F n Try.prog 44 #[.pointer (some ⟨Bs, 0, none⟩)] it.en (Below w.heap.size) (fun ys => ys = vs) (fun pre => ∃ k, 0 < k ∧ k ≤ len ∧ pre = vs.take k) len w := fun l J Jx W hW hA _ hY h0 =>
  it.iter1 F n h44 hro hn l Bs w.heap.size ad A len cap hAd vs hlen hreach hb J Jx hY W hW.size hA ((hW.cell (p := ⟨Bs, 0, none⟩) (World.block_lt_of_cell? w _ hBs)).trans hBs) (World.block_lt_of_cell? w _ hBs) (hc W hW) h0
/-- What each place has, as a list. -/
theorem it.listOf {α : Type} (d : α) (P : Nat → α → Prop) : ∀ n : Nat, (∀ j, j < n → ∃ y, P j y) → ∃ vs : List α, vs.length = n ∧ ∀ j, j < n → P j (vs.getD j d)
  | 0, _ => ⟨[], rfl, fun _ h => absurd h (Nat.not_lt_zero _)⟩
  | n + 1, h => by
    obtain ⟨vs, hl, hv⟩ := it.listOf d P n (fun j hj => h j (by omega))
    obtain ⟨y, hy⟩ := h n (Nat.lt_succ_self n)
    refine ⟨vs ++ [y], by simp [hl], fun j hj => ?_⟩
    by_cases e : j < n
    · rw [List.getD_eq_getElem?_getD, List.getElem?_append_left (by omega), ← List.getD_eq_getElem?_getD]
      exact hv j e
    · obtain rfl : j = n := by omega
      rw [List.getD_eq_getElem?_getD, List.getElem?_append_right (by omega), hl]
      simpa using hy
theorem it.walk1 (A : Option Addr) (n c : Nat) (w : World) : Calls Try.prog 33 #[.slice A n c] w fun e w' => ∃ gb, e = .returned (.func (.func 44) #[] #[.pointer (some ⟨gb, 0, none⟩)]) ∧ w'.heap[gb]? = some (.cells #[.slice A n c] 76 (0, 0)) ∧ w.heap.size ≤ gb ∧ Below w.heap.size w w' := by
  go_enter Try.func33, Try.ntmps33
  go_wp2_with ((with_reducible refine gate_dst (N := 1) rfl ?_); refine box_event ?hg (N := 1) ?hd (cs := #[.slice A n c]) (t := 76) ?hr ?_; (case hd => rfl); (case hg => rfl); (case hr => first | (go_simp; done) | (go_simp; rfl)); intro gb hg w1 hbox hb; have hge : w.heap.size ≤ gb := (by omega); clear hg)
  go_ret
  exact ⟨gb, rfl, hbox, hge, hb⟩
theorem it.from1 {w : World} {base g : Nat} {l : List S80} {A : Option Addr} {c : Nat} (h : it.Tab w base g l A c) (q : Nat) (k : Int) (rn : Nat) (hq : it.bs l k q 0 (l.length : Int) = some (rn : Int)) (hr1 : rn ≤ l.length) :
    Calls Try.prog 17 #[.pointer (some ⟨g, 0, none⟩), .int .i64 k] w fun e w' => ∃ (gb : Nat) (AD : Option Addr) (cD : Nat), e = .returned (.func (.func 44) #[] #[.pointer (some ⟨gb, 0, none⟩)]) ∧ w'.heap[gb]? = some (.cells #[.slice AD (l.length - rn) cD] 76 (0, 0)) ∧ w.heap.size ≤ gb ∧ ReadsRow (k80.M w base (fun k_ => k_ < w.heap.size)) 2 w AD (l.length - rn) (l.drop rn) ∧ Below w.heap.size w w' ∧ (∀ ad, AD = some ad → ∃ ad', A = some ad' ∧ ad.block = ad'.block) := by
  have info80 := it.info80
  obtain ⟨i0, hi0, _, hsz0, _⟩ := info_parts info80
  have HT := Aside0.mk h
  have HQ := Aside0.mk hq
  have HC := Aside0.mk (Kd.R_reads' h.row).2.1
  have hcD := cut_from (P := Try.prog) 76 80 .i64 Try.underlying76 hi0 2 hsz0 A l.length c (rn : Int) (by omega) (by omega)
  have hRD := it.rows_drop (m := rn) (c := c) (it.rows h.row) hr1 HC.out
  rw [Int.toNat_natCast] at hcD
  have hAD : ∀ ad, (if c = rn then A else A.map (·.add (rn * 2))) = some ad → ∃ ad', A = some ad' ∧ ad.block = ad'.block := by
    intro ad e
    split at e
    · exact ⟨ad, e, rfl⟩
    · obtain ⟨ad', e1, e2⟩ := Option.map_eq_some_iff.1 e
      exact ⟨ad', e1, by rw [← e2, add_block]⟩
  generalize (if c = rn then A else A.map (·.add (rn * 2))) = AD at hcD hRD hAD
  have HAD := Aside0.mk hAD
  clear hAD
  generalize hnD : l.length - rn = nD at hcD hRD ⊢
  generalize c - rn = cD at hcD
  have HRD := Aside0.mk hRD
  generalize hbb : (decide ((rn : Int) < (l.length : Int)) && it.cs (rd_T80 l (rn : Int)).f0 k == 0) = bb
  clear hRD hnD hr1
  have hz : w.cell? ⟨g, 0, none⟩ = some (.slice A l.length c) := (blk_cell h.cel 0).trans rfl
  have hy := blk_frozen h.cel 0
  clear hq
  go_enter Try.func17, Try.ntmps17
  go_wp2_with (first | (go_at_call 20; refine (it.find1 HT.out q k (rn : Int) HQ.out).mono ?_; rw [hbb]; rintro e_ w1 ⟨rfl, hb⟩; have HW1 := Aside0.mk hb; have BK1 := Aside0.mk (blk_below HT.out.cel hb); clear hb hz hy; have hz1 : w1.cell? ⟨g, 0, none⟩ = some (.slice A l.length c) := (blk_cell BK1.out 0).trans rfl; have hy1 := blk_frozen BK1.out 0) | (go_at_call 33; refine (it.walk1 AD nD cD _).mono ?_; rintro e_ w2 ⟨gb, rfl, h1, h2, hb⟩; have H1 := Aside0.mk h1; have H2 := Aside0.mk h2; have HB2 := Aside0.mk hb; clear h1 h2 hb))
  go_ret
  exact ⟨gb, AD, cD, rfl, H1.out, Nat.le_trans HW1.out.size H2.out, HRD.out, below_then HW1.out HW1.out.size HB2.out, HAD.out⟩
theorem it.below_put {B : Nat} {w W : World} (h : Below B w W) (hB : B ≤ W.heap.size) {r : Nat} (hr : B ≤ r) (o : Obj) : Below B w (W.putObj r o) := h.grown (grownBy_putObj' _ r o) hB (fun k hk => by cases hk; exact hr)
attribute [local go_sem] Oper.semAt_some
theorem it.getRow {w0 w : World} {base : Nat} {l : List S80} {AD : Option Addr} {rn nD : Nat} (h : ReadsRow (k80.M w base (fun k_ => k_ < w.heap.size)) 2 w AD nD (l.drop rn)) (hp : 0 < nD) (hl : rn + nD = l.length) (hb : Below w.heap.size w w0) : ∃ (ad : Addr) (vs : List (Int × Int)), AD = some ad ∧ ad.block < w.heap.size ∧ vs.length = nD ∧ (∀ j, j < nD → (vs.getD j it.d0).1 = (rd_T80 l ((rn + j : Nat) : Int)).f0 ∧ (vs.getD j it.d0).2 = (rd_T80 l ((rn + j : Nat) : Int)).f1) ∧ ∀ W, Below w.heap.size w W → ∀ j, j < nD → W.cell? (ad.add (j * 2)) = some (.int .i64 (vs.getD j it.d0).1) ∧ W.cell? ⟨(ad.add (j * 2)).block, (ad.add (j * 2)).off + 1, none⟩ = some (.int .i64 (vs.getD j it.d0).2) := by
  obtain ⟨ad, rfl, hc⟩ := h.2.2 hp
  have hcell : ∀ j, j < nD → ∃ y : Int × Int, (y.1 = (rd_T80 l ((rn + j : Nat) : Int)).f0 ∧ y.2 = (rd_T80 l ((rn + j : Nat) : Int)).f1) ∧ w.cell? (ad.add (j * 2)) = some (.int .i64 y.1) ∧ w.cell? ⟨(ad.add (j * 2)).block, (ad.add (j * 2)).off + 1, none⟩ = some (.int .i64 y.2) := by
    intro j hj
    have hlt : rn + j < l.length := by omega
    obtain ⟨cs, h1, h2, h3⟩ := hc j (l[rn + j]'hlt) (by rw [List.getElem?_drop]; exact List.getElem?_eq_getElem hlt)
    obtain rfl := k80_openM h2
    have e : rd_T80 l ((rn + j : Nat) : Int) = l[rn + j]'hlt := by
      unfold rd_T80
      rw [Int.toNat_natCast, List.getD_eq_getElem?_getD, List.getElem?_eq_getElem hlt]
      rfl
    refine ⟨((l[rn + j]'hlt).f0, (l[rn + j]'hlt).f1), by rw [e]; exact ⟨rfl, rfl⟩, ?_, ?_⟩
    · exact h3 0 _ rfl
    · rw [← add_field _ _ 1 (by omega)]
      exact h3 1 _ rfl
  obtain ⟨vs, hvl, hv⟩ := it.listOf it.d0 _ nD hcell
  have hblk : ad.block < w.heap.size := by
    have := World.block_lt_of_cell? w _ (hv 0 hp).2.1
    rwa [add_block] at this
  refine ⟨ad, vs, rfl, hblk, hvl, fun j hj => (hv j hj).1, fun W hW j hj => ⟨?_, ?_⟩⟩
  · exact (hW.cell (p := ad.add (j * 2)) (by rw [add_block]; exact hblk)).trans (hv j hj).2.1
  · exact (hW.cell (p := ⟨(ad.add (j * 2)).block, (ad.add (j * 2)).off + 1, none⟩) (by show (ad.add (j * 2)).block < _; rw [add_block]; exact hblk)).trans (hv j hj).2.2
theorem it.getRow0 {w w1 : World} {base : Nat} {l : List S80} {AD : Option Addr} {rn : Nat} (h : ReadsRow (k80.M w base (fun k_ => k_ < w.heap.size)) 2 w AD (l.length - rn) (l.drop rn)) (hr : rn ≤ l.length) (hb : Below w.heap.size w w1) : ∃ (ad : Addr) (vs : List (Int × Int)), (0 < l.length - rn → AD = some ad) ∧ (0 < l.length - rn → ad.block < w1.heap.size) ∧ vs.length = l.length - rn ∧ (∀ j, j < l.length - rn → (vs.getD j it.d0).1 = (rd_T80 l ((rn + j : Nat) : Int)).f0 ∧ (vs.getD j it.d0).2 = (rd_T80 l ((rn + j : Nat) : Int)).f1) ∧ ∀ W, Below w1.heap.size w1 W → ∀ j, j < l.length - rn → W.cell? (ad.add (j * 2)) = some (.int .i64 (vs.getD j it.d0).1) ∧ W.cell? ⟨(ad.add (j * 2)).block, (ad.add (j * 2)).off + 1, none⟩ = some (.int .i64 (vs.getD j it.d0).2) := by
  by_cases hp : 0 < l.length - rn
  · obtain ⟨ad, vs, h1, h2, h3, h4, h5⟩ := it.getRow h hp (by omega) hb
    exact ⟨ad, vs, fun _ => h1, fun _ => Nat.lt_of_lt_of_le h2 hb.size, h3, h4, fun W hW => h5 W (below_step hb hW)⟩
  · exact ⟨⟨0, 0, none⟩, [], fun h => absurd h hp, fun h => absurd h hp, by simp; omega, fun j hj => absurd hj (by omega), fun W _ j hj => absurd hj (by omega)⟩
theorem it.get1 {w : World} {base g : Nat} {l : List S80} {A : Option Addr} {c : Nat} (h : it.Tab w base g l A c) (q : Nat) (k : Int) (rn : Nat) (hq : it.bs l k q 0 (l.length : Int) = some (rn : Int)) (hr1 : rn ≤ l.length) (vv : Int) (hvv : vv = (if rn < l.length ∧ (rd_T80 l (rn : Int)).f0 = k then (rd_T80 l (rn : Int)).f1 else 0)) :
    Calls Try.prog 18 #[.pointer (some ⟨g, 0, none⟩), .int .i64 k] w fun e w' => e = .returned (.tuple #[.int .i64 vv, .bool (decide (rn < l.length ∧ (rd_T80 l (rn : Int)).f0 = k))]) ∧ Below w.heap.size w w' := by
  have HVV := Aside0.mk hvv
  clear hvv
  refine (callsIn_wide (n := 10)).mp ?_
  refine callsIn_of_wp_marks Try.func18 rfl trivial ?_ rfl
  simp only [Try.ntmps18, List.size_toArray, List.length_cons, List.length_nil, Nat.reduceAdd, Nat.reduceSub, Array.replicate_succ, Array.replicate_zero, List.push_toArray, List.append_toArray, List.nil_append, List.cons_append]
  obtain ⟨W0, hW0⟩ : ∃ W0, ((w.alloc (.cells #[.int .i64 k] 3)).alloc (.cells #[.int .i64 0] 3)).alloc (.cells #[.bool false] 4) = W0 := ⟨_, rfl⟩
  have hs0 : W0.heap.size = w.heap.size + 3 := by rw [← hW0]; simp
  have hB0 : Below w.heap.size w W0 := by rw [← hW0]; exact (((Below.refl _ w).alloc (Nat.le_refl _) _).alloc (by simp) _).alloc (by simp; omega) _
  have hBk : W0.heap[w.heap.size]? = some (.cells #[.int .i64 k] 3 (0, 0)) := by
    rw [← hW0]; exact ((Below.heap_alloc _ _ _ (by simp; omega)).trans (Below.heap_alloc _ _ _ (by simp))).trans (World.alloc_heap_new w _)
  have ck : W0.cell? ⟨w.heap.size, 0, none⟩ = some (.int .i64 k) := (blk_cell hBk 0).trans rfl
  have dk := blk_frozen hBk 0
  have hB1 : W0.heap[w.heap.size + 1]? = some (.cells #[.int .i64 0] 3 (0, 0)) := by
    rw [← hW0]; refine (Below.heap_alloc _ _ _ (by simp)).trans ?_
    have := World.alloc_heap_new (w.alloc (.cells #[.int .i64 k] 3)) (.cells #[.int .i64 0] 3); rwa [World.size_alloc] at this
  have hB2 : W0.heap[w.heap.size + 1 + 1]? = some (.cells #[.bool false] 4 (0, 0)) := by
    rw [← hW0]; have := World.alloc_heap_new ((w.alloc (.cells #[.int .i64 k] 3)).alloc (.cells #[.int .i64 0] 3)) (.cells #[.bool false] 4); rwa [World.size_alloc, World.size_alloc] at this
  have HT := Aside0.mk (show it.Tab W0 base g l A c from ⟨blk_below h.cel hB0, Kd.R_below h.row hB0, h.len⟩)
  have HQ := Aside0.mk hq
  have HR := Aside0.mk hr1
  have h17 : Fence.wide.fn 17 := trivial
  gi_wp2_with (gi_at_call 17; refine (callsIn_wide.mpr (it.from1 HT.out q k rn HQ.out HR.out)).mono ?_; rintro e w' ⟨gb, AD, cD, rfl, h1, h2, h3, h4, _⟩)
  have hsz := h3
  have hlt0 : W0.heap.size ≤ w'.heap.size := h4.size
  obtain ⟨ad, vs, hAd, hblk, hvl, hv1, hvc⟩ := it.getRow0 h3 HR.out h4
  have hBg : w'.cell? ⟨gb, 0, none⟩ = some (.slice AD (l.length - rn) cD) := (blk_cell h1 0).trans rfl
  have k1 := blk_below hB1 h4
  have k2 := blk_below hB2 h4
  have hBw : Below w.heap.size w w' := below_then hB0 hB0.size h4
  have hLR : l.length - rn ≤ 4611686018427387904 := by have := HT.out.len; omega
  refine wpIn_rangeFunc_ownG rfl (by omega) (gf := 44) (lb := #[.pointer (some ⟨gb, 0, none⟩)]) rfl trivial (enters_of Try.func44 (by kernel_rfl) rfl)
    (it.stops1 Fence.wide (10 - 1) trivial rfl (by omega) gb ad AD (l.length - rn) cD hAd vs hvl hLR w' hblk hBg hvc) belowK_t (belowK_b (Nat.le_refl _)) (Below.refl _ _) (fun _ => rfl)
    (fun pre W => pre = [] ∧ (W.heap[w.heap.size + 1]? = some (.cells #[.int .i64 0] 3 (0, 0)) ∧ W.heap[w.heap.size + 1 + 1]? = some (.cells #[.bool false] 4 (0, 0)) ∧ W.heap[w.heap.size]? = some (.cells #[.int .i64 k] 3 (0, 0))) ∧ Below w.heap.size w W)
    (fun cc pre W => (∃ x : Int × Int, pre = [x] ∧ ((cc = .ret ∧ x.1 = k ∧ W.heap[w.heap.size + 1]? = some (.cells #[.int .i64 x.2] 3 (0, 0)) ∧ W.heap[w.heap.size + 1 + 1]? = some (.cells #[.bool true] 4 (0, 0))) ∨ (cc = .exit 0 ∧ x.1 ≠ k ∧ W.heap[w.heap.size + 1]? = some (.cells #[.int .i64 0] 3 (0, 0)) ∧ W.heap[w.heap.size + 1 + 1]? = some (.cells #[.bool false] 4 (0, 0))))) ∧ Below w.heap.size w W)
    ?hI ?hIx ⟨rfl, ⟨k1, k2, blk_below hBk h4⟩, hBw⟩
    (fun x => { tmps := #[.pointer (some ⟨g, 0, none⟩), .int .i64 k, undef, .pointer (some ⟨w.heap.size, 0, none⟩), .pointer (some ⟨w.heap.size + 1, 0, none⟩), .pointer (some ⟨w.heap.size + 1 + 1, 0, none⟩), .int .i64 x.1, .int .i64 x.2, undef, .pointer (some ⟨g, 0, none⟩), .int .i64 k, .func (.func 44) #[] #[.pointer (some ⟨gb, 0, none⟩)], .int .i64 x.1, .int .i64 x.2, undef, undef, undef, undef, undef], defers := [] }) ?assign ?body ?done ?stop
  case hI =>
    exact fun s X Y row ⟨e1, ⟨e2, e3, e4⟩, e5⟩ hg hr => ⟨e1, ⟨(grownBy_keeps_cells hg (fun r e => (hr r e).2) e2 rfl).trans e2, (grownBy_keeps_cells hg (fun r e => (hr r e).2) e3 rfl).trans e3, (grownBy_keeps_cells hg (fun r e => (hr r e).2) e4 rfl).trans e4⟩, e5.grown hg e5.size (fun k_ e => Nat.le_trans hBw.size (hr k_ e).1)⟩
  case hIx =>
    intro cc s X Y row hs hg hr
    obtain ⟨⟨x, ex, hx⟩, e5⟩ := hs
    refine ⟨⟨x, ex, ?_⟩, e5.grown hg e5.size (fun k_ e => Nat.le_trans hBw.size (hr k_ e).1)⟩
    rcases hx with ⟨e1, e2, e3, e4⟩ | ⟨e1, e2, e3, e4⟩
    · exact .inl ⟨e1, e2, (grownBy_keeps_cells hg (fun r e => (hr r e).2) e3 rfl).trans e3, (grownBy_keeps_cells hg (fun r e => (hr r e).2) e4 rfl).trans e4⟩
    · exact .inr ⟨e1, e2, (grownBy_keeps_cells hg (fun r e => (hr r e).2) e3 rfl).trans e3, (grownBy_keeps_cells hg (fun r e => (hr r e).2) e4 rfl).trans e4⟩
  case assign =>
    intro l x W K hK
    obtain ⟨x0, x1⟩ := x
    simp only [it.en]
    gi_wp2
    exact hK
  case body =>
    rintro l_ pre x W ⟨rfl, ⟨m1, m2, m0⟩, hB⟩ _
    obtain ⟨x0, x1⟩ := x
    dsimp only
    have c0 : W.cell? ⟨w.heap.size, 0, none⟩ = some (.int .i64 k) := (blk_cell m0 0).trans rfl
    have d0_ := blk_frozen m0 0
    have c1 : W.cell? ⟨w.heap.size + 1, 0, none⟩ = some (.int .i64 0) := (blk_cell m1 0).trans rfl
    have d1 := blk_frozen m1 0
    have c2 : W.cell? ⟨w.heap.size + 1 + 1, 0, none⟩ = some (.bool false) := (blk_cell m2 0).trans rfl
    have d2 := blk_frozen m2 0
    have l1 : w.heap.size + 1 < W.heap.size := blk_lt m1
    have l2 : w.heap.size + 1 + 1 < W.heap.size := blk_lt m2
    by_cases hx : x0 = k
    · subst hx
      gi_wp2
      have m1s := blk_far (p := ⟨w.heap.size + 1 + 1, 0, none⟩) (blk_put m1 0 (.int .i64 x1) rfl) (by show w.heap.size + 1 ≠ w.heap.size + 1 + 1; omega) (.bool true)
      have m2s := blk_put (blk_far (p := ⟨w.heap.size + 1, 0, none⟩) m2 (by show w.heap.size + 1 + 1 ≠ w.heap.size + 1; omega) (.int .i64 x1)) 0 (.bool true) rfl
      exact ⟨((KeepsOthers.setCell _ _ _).trans (KeepsOthers.setCell _ _ _)).from _, ⟨(x0, x1), rfl, .inl ⟨rfl, rfl, m1s, m2s⟩⟩, (hB.setCell (by show w.heap.size ≤ w.heap.size + 1; omega) _).setCell (by show w.heap.size ≤ w.heap.size + 1 + 1; omega) _⟩
    · have hx1 : decide (x0 = k) = false := decide_eq_false hx
      have hx2 : (x0 == k) = false := beq_eq_false_iff_ne.2 hx
      gi_wp2
      exact ⟨KeepsFrom.refl _ _, ⟨(x0, x1), rfl, .inr ⟨rfl, hx, m1, m2⟩⟩, hB⟩
  case done =>
    rintro D ys W hD rfl ⟨hnil, ⟨m1, m2, m0⟩, hB⟩ hK
    have HF := Aside0.mk (show decide (rn < l.length ∧ (rd_T80 l (rn : Int)).f0 = k) = false from decide_eq_false (fun h => by have e := hvl; rw [hnil] at e; simp at e; omega))
    have c1 : W.cell? ⟨w.heap.size + 1, 0, none⟩ = some (.int .i64 0) := (blk_cell m1 0).trans rfl
    have d1 := blk_frozen m1 0
    have c2 : W.cell? ⟨w.heap.size + 1 + 1, 0, none⟩ = some (.bool false) := (blk_cell m2 0).trans rfl
    have d2 := blk_frozen m2 0
    have l1 : w.heap.size + 1 < W.heap.size := blk_lt m1
    have l2 : w.heap.size + 1 + 1 < W.heap.size := blk_lt m2
    gi_wp2
    have hK' : ((W.setCell ⟨w.heap.size + 1, 0, none⟩ (.int .i64 0)).setCell ⟨w.heap.size + 1 + 1, 0, none⟩ (.bool false)).heap[D]? = some (.deferred (some [])) :=
      (Below.heap_setCell _ _ _ _ (by show D ≠ w.heap.size + 1 + 1; omega)).trans ((Below.heap_setCell _ _ _ _ (by show D ≠ w.heap.size + 1; omega)).trans hK)
    have k1s := blk_far (p := ⟨w.heap.size + 1 + 1, 0, none⟩) (blk_put m1 0 (.int .i64 0) rfl) (by show w.heap.size + 1 ≠ w.heap.size + 1 + 1; omega) (.bool false)
    have k2s := blk_put (blk_far (p := ⟨w.heap.size + 1, 0, none⟩) m2 (by show w.heap.size + 1 + 1 ≠ w.heap.size + 1; omega) (.int .i64 0)) 0 (.bool false) rfl
    have hb4 : Below w.heap.size w ((W.setCell ⟨w.heap.size + 1, 0, none⟩ (.int .i64 0)).setCell ⟨w.heap.size + 1 + 1, 0, none⟩ (.bool false)) := (hB.setCell (by show w.heap.size ≤ w.heap.size + 1; omega) _).setCell (by show w.heap.size ≤ w.heap.size + 1 + 1; omega) _
    have z1 := cell_kept ((blk_cell k1s 0).trans rfl) (grownBy_putObj' _ D (.deferred none)) (fun r e => by cases e; exact ⟨_, hK', rfl⟩)
    have z2 := cell_kept ((blk_cell k2s 0).trans rfl) (grownBy_putObj' _ D (.deferred none)) (fun r e => by cases e; exact ⟨_, hK', rfl⟩)
    refine ⟨by simp, .inl ⟨_, _, rfl, run_takeDeferred hK', ?_⟩⟩
    refine ⟨.tuple #[.int .i64 0, .bool false], ?_, by have hnp := of_decide_eq_false HF.out; have hv := HVV.out; rw [if_neg hnp] at hv; rw [hv]; simp [hnp], it.below_put hb4 hb4.size (by omega) _⟩
    simp [results, Try.f18, go_sem, z1, z2]
  case stop =>
    rintro D cc pre W hD ⟨k', hk0, hk1, rfl⟩ ⟨⟨x, hx, hcase⟩, hB⟩ hK
    have hxe : x = vs.getD 0 it.d0 := by
      cases vs with
      | nil => simp at hx
      | cons y ys =>
        cases k' with
        | zero => omega
        | succ k' => simp at hx; rw [← hx.1]; rfl
    have hlt : rn < l.length := by omega
    have hxk : x.1 = (rd_T80 l (rn : Int)).f0 := by rw [hxe]; exact (hv1 0 (by omega)).1
    have hxv : x.2 = (rd_T80 l (rn : Int)).f1 := by rw [hxe]; exact (hv1 0 (by omega)).2
    rcases hcase with ⟨rfl, hk, m1, m2⟩ | ⟨rfl, hk, m1, m2⟩
    · have HF := Aside0.mk (show decide (rn < l.length ∧ (rd_T80 l (rn : Int)).f0 = k) = true from decide_eq_true ⟨hlt, by rw [← hxk, hk]⟩)
      gi_wp2
      have z1 := cell_kept ((blk_cell m1 0).trans rfl) (grownBy_putObj' _ D (.deferred none)) (fun r e => by cases e; exact ⟨_, hK, rfl⟩)
      have z2 := cell_kept ((blk_cell m2 0).trans rfl) (grownBy_putObj' _ D (.deferred none)) (fun r e => by cases e; exact ⟨_, hK, rfl⟩)
      refine ⟨by simp, .inl ⟨_, _, rfl, run_takeDeferred hK, ?_⟩⟩
      refine ⟨.tuple #[.int .i64 x.2, .bool true], ?_, by have hnp := of_decide_eq_true HF.out; have hv := HVV.out; rw [if_pos hnp] at hv; rw [hv]; simp [hnp, hxv], it.below_put hB hB.size (Nat.le_trans hBw.size hD) _⟩
      simp [results, Try.f18, go_sem, z1, z2]
    · have HF := Aside0.mk (show decide (rn < l.length ∧ (rd_T80 l (rn : Int)).f0 = k) = false from decide_eq_false (fun h => hk (by rw [hxk]; exact h.2)))
      have c1 : W.cell? ⟨w.heap.size + 1, 0, none⟩ = some (.int .i64 0) := (blk_cell m1 0).trans rfl
      have d1 := blk_frozen m1 0
      have c2 : W.cell? ⟨w.heap.size + 1 + 1, 0, none⟩ = some (.bool false) := (blk_cell m2 0).trans rfl
      have d2 := blk_frozen m2 0
      have l1 : w.heap.size + 1 < W.heap.size := blk_lt m1
      have l2 : w.heap.size + 1 + 1 < W.heap.size := blk_lt m2
      gi_wp2
      have hK' : ((W.setCell ⟨w.heap.size + 1, 0, none⟩ (.int .i64 0)).setCell ⟨w.heap.size + 1 + 1, 0, none⟩ (.bool false)).heap[D]? = some (.deferred (some [])) :=
        (Below.heap_setCell _ _ _ _ (by show D ≠ w.heap.size + 1 + 1; omega)).trans ((Below.heap_setCell _ _ _ _ (by show D ≠ w.heap.size + 1; omega)).trans hK)
      have k1s := blk_far (p := ⟨w.heap.size + 1 + 1, 0, none⟩) (blk_put m1 0 (.int .i64 0) rfl) (by show w.heap.size + 1 ≠ w.heap.size + 1 + 1; omega) (.bool false)
      have k2s := blk_put (blk_far (p := ⟨w.heap.size + 1, 0, none⟩) m2 (by show w.heap.size + 1 + 1 ≠ w.heap.size + 1; omega) (.int .i64 0)) 0 (.bool false) rfl
      have hb4 : Below w.heap.size w ((W.setCell ⟨w.heap.size + 1, 0, none⟩ (.int .i64 0)).setCell ⟨w.heap.size + 1 + 1, 0, none⟩ (.bool false)) := (hB.setCell (by show w.heap.size ≤ w.heap.size + 1; omega) _).setCell (by show w.heap.size ≤ w.heap.size + 1 + 1; omega) _
      have z1 := cell_kept ((blk_cell k1s 0).trans rfl) (grownBy_putObj' _ D (.deferred none)) (fun r e => by cases e; exact ⟨_, hK', rfl⟩)
      have z2 := cell_kept ((blk_cell k2s 0).trans rfl) (grownBy_putObj' _ D (.deferred none)) (fun r e => by cases e; exact ⟨_, hK', rfl⟩)
      refine ⟨by simp, .inl ⟨_, _, rfl, run_takeDeferred hK', ?_⟩⟩
      refine ⟨.tuple #[.int .i64 0, .bool false], ?_, by have hnp := of_decide_eq_false HF.out; have hv := HVV.out; rw [if_neg hnp] at hv; rw [hv]; simp [hnp], it.below_put hb4 hb4.size (by omega) _⟩
      simp [results, Try.f18, go_sem, z1, z2]
theorem it.size_zc (z : Array Value) (n : Nat) : (Builtin.zeroCells z n).size = n * z.size := by simp [Builtin.zeroCells]
/-- An empty row with room, made by Grow. -/
theorem it.growR {w : World} {base : Nat} (hbase : base ≤ w.heap.size) (cells : Array Value) (c : Nat) (hc : c ≤ 9223372036854775807) (hs : cells.size = c * 2) : Kd.R k80 80 (w.alloc (.cells cells 80)) base (fun _ => True) (.slice (some ⟨w.heap.size, 0, none⟩) 0 c) [] :=
  ⟨fun _ _ => trivial, [], ⟨by simp, .inr ⟨w.heap.size, c, cells, by simp, hbase, heap_alloc_new w _, Nat.zero_le _, by simp only [maxLen]; omega, hs, by simp⟩⟩, Reps.none _ _⟩
theorem it.grow1 (n : Nat) (h0 : 0 < n) (hn : n * 16 ≤ 140737488355328) (w : World) : Calls Try.prog 46 #[.slice none 0 0, .int .i64 (n : Int)] w fun e w' => ∃ (b c : Nat), e = .returned (.slice (some ⟨b, 0, none⟩) 0 c) ∧ (∀ base, base ≤ w.heap.size → Kd.R k80 80 w' base (fun _ => True) (.slice (some ⟨b, 0, none⟩) 0 c) []) ∧ w.heap.size ≤ b ∧ Below w.heap.size w w' := by
  obtain ⟨i0, hi0, hz0, hsz0, hby0⟩ := info_parts it.info80
  have HAP := Aside0.mk (fun (W : World) => Lib.run_append_nil_zeros (P := Try.prog) W 76 3 76 80 i0 (.agg #[.int .i64 0, .int .i64 0]) .i64 .i64 Try.underlying76 Try.underlying3 hi0 hz0 n h0 (by omega) (by omega) (by rw [hby0]; omega))
  have d1 : decide ((n : Int) < 0) = false := decide_eq_false (by omega)
  have d2 : decide ((n : Int) > 0) = true := decide_eq_true (by omega)
  have d3 : decide (0 < n) = true := decide_eq_true h0
  have d4 : (n < 0) = False := eq_false (by omega)
  have hle : (n : Int) ≤ 9223372036854775807 := by omega
  have H0 := Aside0.mk h0
  have HN := Aside0.mk hn
  clear h0 hn hi0 hz0 hsz0 hby0
  go_enter Try.func46, Try.ntmps46
  have HG := Aside0.mk (grownCap_ge w n 0 80)
  have HGM := Aside0.mk (grownCap_le_maxLen w n 0 80 (by have := HN.out; unfold maxLen; omega))
  have ht : (Value.agg #[.int .i64 0, .int .i64 0]).cells.size = 2 := by simp [Value.cells]
  have HS := Aside0.mk (show (Builtin.zeroCells (Value.agg #[.int .i64 0, .int .i64 0]).cells n ++ Builtin.zeroCells (Value.agg #[.int .i64 0, .int .i64 0]).cells (grownCap w n 0 80 - n)).size = grownCap w n 0 80 * 2 by rw [Array.size_append, it.size_zc, it.size_zc, ht]; have := HG.out; omega)
  generalize hZ : (Builtin.zeroCells (Value.agg #[.int .i64 0, .int .i64 0]).cells n ++ Builtin.zeroCells (Value.agg #[.int .i64 0, .int .i64 0]).cells (grownCap w n 0 80 - n)) = Z at HS
  have HP := Aside0.mk (HAP.out w)
  rw [hZ] at HP
  generalize grownCap w n 0 80 = gc at HP HG HGM HS
  clear HAP hZ ht
  go_wp2_with (at_builtin; refine Lib.wpList_append_run _ rfl _ _ _ _ rfl _ _ rfl rfl _ _ HP.out ?_)
  go_ret
  refine ⟨w.heap.size, gc, rfl, fun base hb => ?_, Nat.le_refl _, ?_⟩
  · exact it.growR (w := w) hb Z gc (by have := HGM.out; unfold maxLen at this; exact this) HS.out
  · exact ((Below.refl _ w).alloc (Nat.le_refl _) _).drew
theorem it.grow0 (w : World) : Calls Try.prog 46 #[.slice none 0 0, .int .i64 0] w fun e w' => e = .returned (.slice none 0 0) ∧ Below w.heap.size w w' := by
  go_enter Try.func46, Try.ntmps46
  go_wp2
  go_ret
  exact ⟨rfl, Below.refl _ _⟩
theorem it.rowC {w : World} {base : Nat} {ok : Nat → Prop} {A : Option Addr} {n : Nat} {xs : List S80} (h : ReadsRow (k80.M w base ok) 2 w A n xs) : ReadsRow (fun (x : S80) cs => cs = [.int .i64 x.f0, .int .i64 x.f1]) 2 w A n xs := h.imp_ (Below.refl _ _) (fun _ _ hp => k80_openM hp)
/-- slices.Concat of two rows. -/
theorem it.concat1 {w0 w : World} (hB : Below w0.heap.size w0 w) (b : Nat) (A1 A2 : Option Addr) (c1 c2 : Nat) (xs ys : List S80) (hb : w.heap[b]? = some (.cells #[.slice A1 xs.length c1, .slice A2 ys.length c2] 76 (0, 0))) (h1 : ReadsRow (fun (x : S80) cs => cs = [.int .i64 x.f0, .int .i64 x.f1]) 2 w A1 xs.length xs) (h2 : ReadsRow (fun (x : S80) cs => cs = [.int .i64 x.f0, .int .i64 x.f1]) 2 w A2 ys.length ys) (hl : (xs.length + ys.length) * 16 ≤ 140737488355328) :
    Calls Try.prog 38 #[.slice (some ⟨b, 0, none⟩) 2 2] w fun e w' => ∃ v' : Value, e = .returned v' ∧ Kd.R k80 80 w' w0.heap.size (fun _ => True) v' (xs ++ ys) ∧ (∀ q, v'.ownBlock = some q → w.heap.size ≤ q) ∧ Below w.heap.size w w' := by
  have info80 := it.info80
  have HB0 := Aside0.mk hB
  have H1 := Aside0.mk h1
  have H2 := Aside0.mk h2
  have BK := Aside0.mk hb
  have HL := Aside0.mk hl
  clear h1 h2 hl hB
  generalize hn1 : xs.length = n1 at *
  generalize hn2 : ys.length = n2 at *
  have L1 := Aside0.mk hn1
  have L2 := Aside0.mk hn2
  clear hn1 hn2
  have hz0 : w.cell? ⟨b, 0, none⟩ = some (.slice A1 n1 c1) := (blk_cell hb 0).trans rfl
  have hz1 : w.cell? ⟨b, 1, none⟩ = some (.slice A2 n2 c2) := (blk_cell hb 1).trans rfl
  clear hb
  go_enter Try.func38, Try.ntmps38
  go_wp2
  go_loop [3, 11] (fun v3 v11 => ∃ k : Nat, k ≤ 2 ∧ v11 = .int .i64 (k : Int) ∧ v3 = .int .i64 (([n1, n2].take k).sum : Int)) (fun v3 v11 => 2 - (intOf v11).toNat)
  case atStart => exact ⟨0, Nat.zero_le _, rfl, rfl⟩
  case round =>
    obtain ⟨k, hk, rfl, rfl⟩ := hrel
    have HLL := HL.out
    obtain rfl | rfl | rfl : k = 0 ∨ k = 1 ∨ k = 2 := by omega
    · have e1 : wrap64 ((n1 : Int)) = (n1 : Int) := by unfold wrap64; omega
      have E1 := Aside0.mk e1
      have d1 : decide ((n1 : Int) < 0) = false := decide_eq_false (by omega)
      have d2 : (n1 < 0) = False := eq_false (by omega)
      clear HLL
      go_wp2
      go_round
      case rel => exact ⟨1, by omega, rfl, by simp [E1.out]⟩
      case measure => decide
    · have e1 : wrap64 ((n1 : Int) + (n2 : Int)) = (n1 : Int) + (n2 : Int) := by unfold wrap64; omega
      have E1 := Aside0.mk e1
      have d1 : decide ((n1 : Int) + (n2 : Int) < 0) = false := decide_eq_false (by omega)
      have d2 : (n1 + n2 < 0) = False := eq_false (by omega)
      clear HLL
      go_wp2
      go_round
      case rel => exact ⟨2, by omega, rfl, by simp [E1.out]⟩
      case measure => decide
    · clear HLL
      simp only [List.take_succ_cons, List.take_zero, List.sum_cons, List.sum_nil, Nat.add_zero]
      have hG : ∀ W : World, Calls Try.prog 46 #[.slice none 0 0, .int .i64 ((n1 + n2 : Nat) : Int)] W fun e w' => ∃ v6 : Value, e = .returned v6 ∧ (∀ base, base ≤ W.heap.size → Kd.R k80 80 w' base (fun _ => True) v6 []) ∧ (∀ q, v6.ownBlock = some q → W.heap.size ≤ q) ∧ Below W.heap.size W w' := by
        intro W
        by_cases h0 : 0 < n1 + n2
        · refine (it.grow1 (n1 + n2) h0 HL.out W).mono ?_
          rintro e w' ⟨b, c, rfl, h1, h2, h3⟩
          exact ⟨_, rfl, h1, fun q hq => by have : b = q := (by simpa [Value.ownBlock] using hq); omega, h3⟩
        · have e0 : n1 + n2 = 0 := by omega
          rw [e0]
          refine (it.grow0 W).mono ?_
          rintro e w' ⟨rfl, h3⟩
          exact ⟨_, rfl, fun base _ => Kd.R_nil _ _ _ _ _, fun q hq => by simp [Value.ownBlock] at hq, h3⟩
      have HG := Aside0.mk hG
      clear hG
      go_wp2_with (go_at_call 46; refine (HG.out _).mono ?_; rintro e_ w1 ⟨v6, rfl, h1, h2, h3⟩; have HO := Aside0.mk (h1 w0.heap.size HB0.out.size); have HN := Aside0.mk h2; have HBw := Aside0.mk h3; clear h1 h2 h3 hz0 hz1)
      go_loopw [6, 27] (fun v6 v27 wr => ∃ (k : Nat) (v : Value), k ≤ 2 ∧ v27 = .int .i64 (k : Int) ∧ v6 = v ∧ Aside0 (Kd.R k80 80 wr w0.heap.size (fun _ => True) v6 (([xs, ys].take k).flatten)) ∧ Aside0 (∀ q, v6.ownBlock = some q → w.heap.size ≤ q) ∧ Aside0 (Below w.heap.size w wr)) (fun v6 v27 _ => 2 - (intOf v27).toNat)
      case atStart => exact ⟨0, v6, Nat.zero_le _, rfl, rfl, HO, HN, HBw⟩
      case round =>
        clear HO HN HBw
        obtain ⟨k, v6, hk, rfl, rfl, HO, HN, HBw⟩ := hrel
        have hz0 : wr.cell? ⟨b, 0, none⟩ = some (.slice A1 n1 c1) := (blk_cell (blk_below BK.out HBw.out) 0).trans rfl
        have hz1 : wr.cell? ⟨b, 1, none⟩ = some (.slice A2 n2 c2) := (blk_cell (blk_below BK.out HBw.out) 1).trans rfl
        have HBr := Aside0.mk (below_then HB0.out HB0.out.size HBw.out)
        obtain rfl | rfl | rfl : k = 0 ∨ k = 1 ∨ k = 2 := by omega
        · simp only [List.take_zero, List.flatten_nil] at HO
          go_wp2_with ((at_builtin; go_must (refine Kd.R_append_rows k80 (Rr := fun x cs => cs = [.int .i64 x.f0, .int .i64 x.f1]) (w0 := w0) w0.heap.size rfl (.tmp 31) (.tmp 32) 76 80 (.agg #[.int .i64 0, .int .i64 0]) 16 rfl Try.underlying76 info80 rfl (by decide) (by omega) u6 ([] : List S80) xs A1 n1 c1 (fun _ => True) (fun _ => False) rfl rfl HO.out (H1.out.imp_ HBw.out (fun _ _ hp => hp)) (fun x cs hp => by rw [hp]; exact k80_mkM _ _ _ x) (fun _ hk => hk.elim) (fun _ _ => trivial) HBr.out HBr.out.size ?aL ?_); (case aL => exact (by have := HL.out; simp; omega)); intro v7 w7 ho hb hg hat; have HO7 := Aside0.mk ho; have HB7 := Aside0.mk hb; have HN7 := Aside0.mk (it.newer HN.out HBw.out.size hat); have HW7 := Aside0.mk (HBw.out.grown hg HBw.out.size HN.out); clear ho hb hg hat))
          go_roundw
          case rel => exact ⟨1, v7, by omega, rfl, rfl, ⟨by simpa using HO7.out⟩, HN7, HW7⟩
          case measure => decide
        · simp only [List.take_succ_cons, List.take_zero, List.flatten_cons, List.flatten_nil, List.append_nil] at HO
          go_wp2_with ((at_builtin; go_must (refine Kd.R_append_rows k80 (Rr := fun x cs => cs = [.int .i64 x.f0, .int .i64 x.f1]) (w0 := w0) w0.heap.size rfl (.tmp 31) (.tmp 32) 76 80 (.agg #[.int .i64 0, .int .i64 0]) 16 rfl Try.underlying76 info80 rfl (by decide) (by omega) u6 xs ys A2 n2 c2 (fun _ => True) (fun _ => False) rfl rfl HO.out (H2.out.imp_ HBw.out (fun _ _ hp => hp)) (fun x cs hp => by rw [hp]; exact k80_mkM _ _ _ x) (fun _ hk => hk.elim) (fun _ _ => trivial) HBr.out HBr.out.size ?aL ?_); (case aL => exact (by have := HL.out; rw [L1.out]; omega)); intro v7 w7 ho hb hg hat; have HO7 := Aside0.mk ho; have HB7 := Aside0.mk hb; have HN7 := Aside0.mk (it.newer HN.out HBw.out.size hat); have HW7 := Aside0.mk (HBw.out.grown hg HBw.out.size HN.out); clear ho hb hg hat))
          go_roundw
          case rel => exact ⟨2, v7, by omega, rfl, rfl, ⟨by simpa using HO7.out⟩, HN7, HW7⟩
          case measure => decide
        · simp only [List.take_succ_cons, List.take_zero, List.flatten_cons, List.flatten_nil, List.append_nil] at HO
          go_wp2
          go_ret
          exact ⟨u6, rfl, HO.out, HN.out, HBw.out⟩
theorem it.concat2 {w0 w : World} (hB : Below w0.heap.size w0 w) (b : Nat) (A1 A2 : Option Addr) (n1 n2 c1 c2 : Nat) (xs ys : List S80) (hb : w.heap[b]? = some (.cells #[.slice A1 n1 c1, .slice A2 n2 c2] 76 (0, 0))) (h1 : ReadsRow (fun (x : S80) cs => cs = [.int .i64 x.f0, .int .i64 x.f1]) 2 w A1 n1 xs) (h2 : ReadsRow (fun (x : S80) cs => cs = [.int .i64 x.f0, .int .i64 x.f1]) 2 w A2 n2 ys) (hl : (n1 + n2) * 16 ≤ 140737488355328) :
    Calls Try.prog 38 #[.slice (some ⟨b, 0, none⟩) 2 2] w fun e w' => ∃ (A' : Option Addr) (c' : Nat), e = .returned (.slice A' (n1 + n2) c') ∧ Kd.R k80 80 w' w0.heap.size (fun _ => True) (.slice A' (xs ++ ys).length c') (xs ++ ys) ∧ Below w.heap.size w w' := by
  obtain rfl := h1.1
  obtain rfl := h2.1
  refine (it.concat1 hB b A1 A2 c1 c2 xs ys hb h1 h2 hl).mono ?_
  rintro e w' ⟨v', rfl, ho, _, hb'⟩
  obtain ⟨A5, c5, rfl⟩ := Kd.R_slice ho
  exact ⟨A5, c5, by rw [List.length_append], ho, hb'⟩
/-- Delete, where nothing stands under the key. -/
theorem it.delN {w : World} {base g : Nat} {l : List S80} {A : Option Addr} {c : Nat} (h : it.Tab w base g l A c) (q : Nat) (k : Int) (r : Int) (hq : it.bs l k q 0 (l.length : Int) = some r)
    (hno : (decide (r < (l.length : Int)) && it.cs (rd_T80 l r).f0 k == 0) = false) :
    Calls Try.prog 22 #[.pointer (some ⟨g, 0, none⟩), .int .i64 k] w fun e w' => e = .returned (.bool false) ∧ Below w.heap.size w w' := by
  have HT := Aside0.mk h
  have HQ := Aside0.mk hq
  clear h hq
  go_enter Try.func22, Try.ntmps22
  go_wp2_with (go_at_call 20; refine (it.find1 HT.out q k r HQ.out).mono ?_; rw [hno]; rintro e_ w1 ⟨rfl, hb⟩)
  go_ret
  exact ⟨rfl, hb⟩
/-- Delete, where the key stands. -/
theorem it.delY {w0 w : World} {g : Nat} {l : List S80} {A : Option Addr} {c : Nat} (hB : Below w0.heap.size w0 w) (hg0 : w0.heap.size ≤ g) (h : it.Tab w w0.heap.size g l A c) (q : Nat) (k : Int) (rn : Nat) (hq : it.bs l k q 0 (l.length : Int) = some (rn : Int)) (hr1 : rn < l.length)
    (hyes : (decide ((rn : Int) < (l.length : Int)) && it.cs (rd_T80 l (rn : Int)).f0 k == 0) = true) (hl : l.length * 16 ≤ 140737488355328) :
    Calls Try.prog 22 #[.pointer (some ⟨g, 0, none⟩), .int .i64 k] w fun e w' => ∃ (A' : Option Addr) (c' : Nat), e = .returned (.bool true) ∧ it.Tab w' w0.heap.size g (l.take rn ++ l.drop (rn + 1)) A' c' ∧ it.Fr g w w' ∧ Below w0.heap.size w0 w' := by
  have info80 := it.info80
  obtain ⟨i0, hi0, _, hsz0, _⟩ := info_parts info80
  have HT := Aside0.mk h
  have HQ := Aside0.mk hq
  have HL := Aside0.mk hl
  have HI := Aside0.mk hr1
  have HR := Aside0.mk (it.rows h.row)
  have HC := Aside0.mk (Kd.R_reads' h.row).2.1
  have hcT := cut_to (P := Try.prog) 76 80 .i64 Try.underlying76 hi0 A l.length c (rn : Int) (by omega) (by omega) (Kd.R_reads' h.row).2.1
  have hcD := cut_from (P := Try.prog) 76 80 .i64 Try.underlying76 hi0 2 hsz0 A l.length c ((rn : Int) + 1) (by omega) (by omega)
  have hRD := it.rows_drop (m := rn + 1) (c := c) HR.out (by omega) HC.out
  rw [show ((rn : Int) + 1).toNat = rn + 1 by omega] at hcD
  rw [Int.toNat_natCast] at hcT
  have HWR := Aside0.mk (show wrap64 ((rn : Int) + 1) = (rn : Int) + 1 by have := h.len; unfold wrap64; omega)
  generalize (if c = rn + 1 then A else A.map (·.add ((rn + 1) * 2))) = AD at hcD hRD
  generalize hnD : l.length - (rn + 1) = nD at hcD hRD
  generalize c - (rn + 1) = cD at hcD
  have HRD := Aside0.mk hRD
  have HND := Aside0.mk hnD
  have HL3 := Aside0.mk (show l.length ≤ 4611686018427387904 by omega)
  have HL4 := Aside0.mk (show (rn + nD) * 16 ≤ 140737488355328 by omega)
  have HT1 := Aside0.mk (it.rowC (it.rows_take HR.out (Nat.le_of_lt hr1)))
  have HD1 := Aside0.mk (it.rowC HRD.out)
  clear hRD hnD hl
  have hz : w.cell? ⟨g, 0, none⟩ = some (.slice A l.length c) := (blk_cell h.cel 0).trans rfl
  have hy := blk_frozen h.cel 0
  clear hq hr1
  go_enter Try.func22, Try.ntmps22
  go_wp2_with (go_at_call 20; refine (it.find1 HT.out q k (rn : Int) HQ.out).mono ?_; rw [hyes]; rintro e_ w1 ⟨rfl, hb⟩; have HW1 := Aside0.mk hb; have HB1 := Aside0.mk (below_then hB hB.size hb); have BK1 := Aside0.mk (blk_below HT.out.cel hb); clear hb hz hy; have hz1 : w1.cell? ⟨g, 0, none⟩ = some (.slice A l.length c) := (blk_cell BK1.out 0).trans rfl; have hy1 := blk_frozen BK1.out 0)
  have hwr := HWR.out
  refine start_ (n := 19) (S := fun w' => w'.cell? ⟨g, 0, none⟩ = some (.slice A l.length c)) (ds := [18]) #[false, false, false, false, false, false, false, false, false, false, false, false, false, false, false, false, false, false, false] (by kernel_rfl) rfl rfl ((blk_cell (blk_drew BK1.out) 0).trans rfl) (fun hHeld => ?_)
  generalize hwd : w1.drew = wd at hHeld ⊢
  have BKd := Aside0.mk (hwd ▸ blk_drew BK1.out)
  have HWd := Aside0.mk (hwd ▸ (below_drew HW1.out))
  have HBd := Aside0.mk (hwd ▸ (below_drew HB1.out))
  clear hwd
  refine pure_ (i := 0) (N := some 14) (v := ?_) (a' := ?_) #[true, false, false, false, false, false, false, false, false, false, false, false, false, false, false, false, false, false, false] rfl rfl (by kernel_rfl) (fun _ _ _ h => h) (Or.inl ⟨by rfl, ?_⟩) ?_ ?_
  rotate_left
  · intro w'
    go_simp
    with_reducible rfl
  rotate_left
  · simp only [Act.put, List.setIfInBounds_toArray, List.set_cons_zero, List.set_cons_succ, i64_w, i32_w]
    rfl
  refine pure_ (i := 1) (N := some 15) (v := ?_) (a' := ?_) #[true, true, false, false, false, false, false, false, false, false, false, false, false, false, false, false, false, false, false] rfl rfl (by kernel_rfl) (fun _ _ _ h => h) (Or.inl ⟨by rfl, ?_⟩) ?_ ?_
  rotate_left
  · intro w'
    go_simp
    with_reducible rfl
  rotate_left
  · simp only [Act.put, List.setIfInBounds_toArray, List.set_cons_zero, List.set_cons_succ, i64_w, i32_w]
    rfl
  refine pure_ (i := 2) (N := some 16) (v := ?_) (a' := ?_) #[true, true, true, false, false, false, false, false, false, false, false, false, false, false, false, false, false, false, false] rfl rfl (by kernel_rfl) (fun _ _ _ h => h) (Or.inl ⟨by rfl, ?_⟩) ?_ ?_
  rotate_left
  · intro w'
    go_simp
    with_reducible rfl
  rotate_left
  · simp only [Act.put, List.setIfInBounds_toArray, List.set_cons_zero, List.set_cons_succ, i64_w, i32_w]
    rfl
  refine pure_ (i := 3) (N := some 17) (v := ?_) (a' := ?_) #[true, true, true, true, false, false, false, false, false, false, false, false, false, false, false, false, false, false, false] rfl rfl (by kernel_rfl) (fun _ _ _ h => h) (Or.inl ⟨by rfl, ?_⟩) ?_ ?_
  rotate_left
  · intro w'
    go_simp
    with_reducible rfl
  rotate_left
  · simp only [Act.put, List.setIfInBounds_toArray, List.set_cons_zero, List.set_cons_succ, i64_w, i32_w]
    rfl
  refine pure_ (i := 5) (N := some 19) (v := ?_) (a' := ?_) #[true, true, true, true, false, true, false, false, false, false, false, false, false, false, false, false, false, false, false] rfl rfl (by kernel_rfl) (fun _ _ _ h => h) (Or.inl ⟨by rfl, ?_⟩) ?_ ?_
  rotate_left
  · intro w'
    go_simp
    with_reducible rfl
  rotate_left
  · simp only [Act.put, List.setIfInBounds_toArray, List.set_cons_zero, List.set_cons_succ, i64_w, i32_w]
    rfl
  refine pure_ (i := 7) (N := some 21) (v := ?_) (a' := ?_) #[true, true, true, true, false, true, false, true, false, false, false, false, false, false, false, false, false, false, false] rfl rfl (by kernel_rfl) (fun _ _ _ h => h) (Or.inl ⟨by rfl, ?_⟩) ?_ ?_
  rotate_left
  · intro w'
    go_simp
    with_reducible rfl
  rotate_left
  · simp only [Act.put, List.setIfInBounds_toArray, List.set_cons_zero, List.set_cons_succ, i64_w, i32_w]
    rfl
  refine pure_ (i := 8) (N := some 22) (v := ?_) (a' := ?_) #[true, true, true, true, false, true, false, true, true, false, false, false, false, false, false, false, false, false, false] rfl rfl (by kernel_rfl) (fun _ _ _ h => h) (Or.inl ⟨by rfl, ?_⟩) ?_ ?_
  rotate_left
  · intro w'
    go_simp
    with_reducible rfl
  rotate_left
  · simp only [Act.put, List.setIfInBounds_toArray, List.set_cons_zero, List.set_cons_succ, i64_w, i32_w]
    rfl
  refine pure_ (i := 9) (N := some 23) (v := ?_) (a' := ?_) #[true, true, true, true, false, true, false, true, true, true, false, false, false, false, false, false, false, false, false] rfl rfl (by kernel_rfl) (fun _ _ _ h => h) (Or.inl ⟨by rfl, ?_⟩) ?_ ?_
  rotate_left
  · intro w'
    go_simp
    with_reducible rfl
  rotate_left
  · simp only [Act.put, List.setIfInBounds_toArray, List.set_cons_zero, List.set_cons_succ, i64_w, i32_w]
    rfl
  refine pure_ (i := 11) (N := some 25) (v := ?_) (a' := ?_) #[true, true, true, true, false, true, false, true, true, true, false, true, false, false, false, false, false, false, false] rfl rfl (by kernel_rfl) (fun _ _ _ h => h) (Or.inl ⟨by rfl, ?_⟩) ?_ ?_
  rotate_left
  · intro w'
    go_simp
    with_reducible rfl
  rotate_left
  · simp only [Act.put, List.setIfInBounds_toArray, List.set_cons_zero, List.set_cons_succ, i64_w, i32_w]
    rfl
  refine pure_ (i := 12) (N := some 26) (v := ?_) (a' := ?_) #[true, true, true, true, false, true, false, true, true, true, false, true, true, false, false, false, false, false, false] rfl rfl (by kernel_rfl) (fun _ _ _ h => h) (Or.inl ⟨by rfl, ?_⟩) ?_ ?_
  rotate_left
  · intro w'
    go_simp
    with_reducible rfl
  rotate_left
  · simp only [Act.put, List.setIfInBounds_toArray, List.set_cons_zero, List.set_cons_succ, i64_w, i32_w]
    rfl
  refine take_ (i := 4) (N := some 18) (v := ?_) (a' := ?_) #[true, true, true, true, true, true, false, true, true, true, false, true, true, false, false, false, false, false, false] rfl rfl (by kernel_rfl) (fun _ _ _ h => h) (Or.inl ⟨by rfl, ?_⟩) hHeld ?_ ?_
  rotate_left
  · intro w' s0
    go_simp
    with_reducible rfl
  rotate_left
  · simp only [Act.put, List.setIfInBounds_toArray, List.set_cons_zero, List.set_cons_succ, i64_w, i32_w]
    rfl
  refine pure_ (i := 6) (N := some 20) (v := ?_) (a' := ?_) #[true, true, true, true, true, true, true, true, true, true, false, true, true, false, false, false, false, false, false] rfl rfl (by kernel_rfl) (fun _ _ _ h => h) (Or.inl ⟨by rfl, ?_⟩) ?_ ?_
  rotate_left
  · intro w'
    go_simp
    with_reducible rfl
  rotate_left
  · simp only [Act.put, List.setIfInBounds_toArray, List.set_cons_zero, List.set_cons_succ, i64_w, i32_w]
    rfl
  refine take_ (i := 10) (N := some 24) (v := ?_) (a' := ?_) #[true, true, true, true, true, true, true, true, true, true, true, true, true, false, false, false, false, false, false] rfl rfl (by kernel_rfl) (fun _ _ _ h => h) (Or.inl ⟨by rfl, ?_⟩) hHeld ?_ ?_
  rotate_left
  · intro w' s0
    go_simp
    with_reducible rfl
  rotate_left
  · simp only [Act.put, List.setIfInBounds_toArray, List.set_cons_zero, List.set_cons_succ, i64_w, i32_w]
    rfl
  refine pure_ (i := 13) (N := some 27) (v := ?_) (a' := ?_) #[true, true, true, true, true, true, true, true, true, true, true, true, true, true, false, false, false, false, false] rfl rfl (by kernel_rfl) (fun _ _ _ h => h) (Or.inl ⟨by rfl, ?_⟩) ?_ ?_
  rotate_left
  · intro w'
    go_simp
    with_reducible rfl
  rotate_left
  · simp only [Act.put, List.setIfInBounds_toArray, List.set_cons_zero, List.set_cons_succ, i64_w, i32_w]
    rfl
  refine one_ (i := 14) (N := some 28) #[true, true, true, true, true, true, true, true, true, true, true, true, true, true, true, false, false, false, false] rfl rfl (by kernel_rfl) (by decide) (fun K hK => ?_)
  refine value_ (w1 := ?_) (v := ?_) (by rfl) rfl ?_ ?_
  rotate_left 2
  · go_simp
    constructor
    · rfl
    · rfl
  have BKa := Aside0.mk (blk_alloc BKd.out (.cells #[.slice A rn c, .slice AD nD cD] 76))
  have HBL := Aside0.mk (heap_alloc_new wd (.cells #[.slice A rn c, .slice AD nD cD] 76))
  have HWa := Aside0.mk (HWd.out.alloc HWd.out.size (.cells #[.slice A rn c, .slice AD nD cD] 76))
  have HBa := Aside0.mk (HBd.out.alloc HBd.out.size (.cells #[.slice A rn c, .slice AD nD cD] 76))
  refine hK.out _ _ ((blk_cell BKa.out 0).trans rfl) (fun hHeld => ?_)
  clear hK K
  refine norm_ (a' := ?_) ?_ ?_
  rotate_left
  · show Act.put _ (some 28) _ = _
    simp only [Act.put, List.setIfInBounds_toArray, List.set_cons_zero, List.set_cons_succ, i64_w, i32_w]
    rfl
  refine one_ (i := 15) (N := some 29) #[true, true, true, true, true, true, true, true, true, true, true, true, true, true, true, true, false, false, false] rfl rfl (by kernel_rfl) (by decide) (fun K hK => ?_)
  refine goes_ Try.func38 (by kernel_rfl) rfl #[.slice (some ⟨wd.heap.size, 0, none⟩) 2 2] (by rfl) rfl rfl (by (try simp only [List.map_toArray, List.map_cons, List.map_nil]); first | done | rfl) ?_
  refine (it.concat2 HBa.out wd.heap.size A AD rn nD c cD (l.take rn) (l.drop (rn + 1)) HBL.out (HT1.out.imp_ HWa.out (fun _ _ hp => hp)) (HD1.out.imp_ HWa.out (fun _ _ hp => hp)) HL4.out).mono ?_
  rintro e w3 ⟨A5, c5, rfl, ho3, hb3⟩
  refine ⟨_, rfl, ?_⟩
  have HO3 := Aside0.mk ho3
  have BK3 := Aside0.mk (blk_below BKa.out hb3)
  have HW3 := Aside0.mk (below_then HWa.out HWa.out.size hb3)
  have HB3 := Aside0.mk (below_then HBa.out HBa.out.size hb3)
  have hz3 : w3.cell? ⟨g, 0, none⟩ = some (.slice A l.length c) := (blk_cell BK3.out 0).trans rfl
  have hy3 := blk_frozen BK3.out 0
  clear ho3 hb3
  refine hK.out _ _ ((blk_cell BK3.out 0).trans rfl) (fun hHeld => ?_)
  clear hK K
  refine norm_ (a' := ?_) ?_ ?_
  rotate_left
  · show Act.put _ (some 29) _ = _
    simp only [Act.put, List.setIfInBounds_toArray, List.set_cons_zero, List.set_cons_succ, i64_w, i32_w]
    rfl
  refine pure_ (i := 16) (N := some 30) (v := ?_) (a' := ?_) #[true, true, true, true, true, true, true, true, true, true, true, true, true, true, true, true, true, false, false] rfl rfl (by kernel_rfl) (fun _ _ _ h => h) (Or.inl ⟨by rfl, ?_⟩) ?_ ?_
  rotate_left
  · intro w'
    go_simp
    with_reducible rfl
  rotate_left
  · simp only [Act.put, List.setIfInBounds_toArray, List.set_cons_zero, List.set_cons_succ, i64_w, i32_w]
    rfl
  refine pure_ (i := 17) (N := some 31) (v := ?_) (a' := ?_) #[true, true, true, true, true, true, true, true, true, true, true, true, true, true, true, true, true, true, false] rfl rfl (by kernel_rfl) (fun _ _ _ h => h) (Or.inl ⟨by rfl, ?_⟩) ?_ ?_
  rotate_left
  · intro w'
    go_simp
    with_reducible rfl
  rotate_left
  · simp only [Act.put, List.setIfInBounds_toArray, List.set_cons_zero, List.set_cons_succ, i64_w, i32_w]
    rfl
  refine last_ (i := 18) (N := none) #[true, true, true, true, true, true, true, true, true, true, true, true, true, true, true, true, true, true, true] rfl rfl (by kernel_rfl) (by decide) (fun K hK => ?_)
  refine skip_ (w1 := ?_) (by rfl) rfl ?_ ?_
  rotate_left
  · go_simp
    rfl
  refine hK.out _ _ ?_
  clear hK K
  refine done_ (by kernel_rfl) ?_
  go_wp2
  go_ret
  exact ⟨A5, c5, rfl, it.tabset BK3.out HO3.out (by have := HL3.out; have e2 := HI.out; simp only [List.length_append, List.length_take, List.length_drop]; omega) (by have e2 := HND.out; have e3 := HI.out; simp only [List.length_append, List.length_take, List.length_drop]; omega), (it.Fr.of_below HW3.out).trans (it.Fr.set _ _ _), HB3.out.setCell hg0 _⟩
theorem it.cs_neg (a b : Int) : it.cs a b < 0 ↔ a < b := by
  unfold it.cs
  split
  · simp_all
  · split <;> simp_all
theorem it.cs_zero (a b : Int) : it.cs a b = 0 ↔ a = b := by
  unfold it.cs
  split
  · constructor
    · intro h; simp at h
    · intro h; omega
  · split
    · constructor
      · intro h; simp at h
      · intro h; omega
    · constructor
      · intro h; omega
      · intro h; rfl
theorem it.rd_at {l : List S80} {j : Nat} (h : j < l.length) : l[j]? = some (rd_T80 l (j : Int)) := by
  unfold rd_T80
  rw [Int.toNat_natCast, List.getD_eq_getElem?_getD, List.getElem?_eq_getElem h]
  rfl
/-- Keys rise. -/
def it.Srt (l : List S80) : Prop := l.Pairwise (fun a b => a.f0 < b.f0)
/-- How many keys are less (from the left). -/
def it.fnd : List S80 → Int → Nat
  | [], _ => 0
  | x :: l, k => if x.f0 < k then it.fnd l k + 1 else 0
def it.has (l : List S80) (k : Int) : Bool := decide (it.fnd l k < l.length ∧ (rd_T80 l (it.fnd l k : Int)).f0 = k)
def it.put (l : List S80) (k v : Int) : List S80 := l.take (it.fnd l k) ++ [⟨k, v⟩] ++ l.drop (it.fnd l k + if it.has l k then 1 else 0)
def it.del (l : List S80) (k : Int) : List S80 := if it.has l k then l.take (it.fnd l k) ++ l.drop (it.fnd l k + 1) else l
theorem it.fnd_le (k : Int) : ∀ l : List S80, it.fnd l k ≤ l.length
  | [] => Nat.le_refl _
  | x :: l => by
    unfold it.fnd
    split
    · have := it.fnd_le k l; simp; omega
    · simp
theorem it.fnd_lt (k : Int) : ∀ (l : List S80) (j : Nat) (x : S80), l[j]? = some x → j < it.fnd l k → x.f0 < k
  | [], j, x, h, _ => by simp at h
  | y :: l, j, x, h, hj => by
    unfold it.fnd at hj
    split at hj
    · rename_i hy
      cases j with
      | zero => simp at h; subst h; exact hy
      | succ j => exact it.fnd_lt k l j x (by simpa using h) (by omega)
    · omega
theorem it.fnd_at (k : Int) : ∀ (l : List S80) (x : S80), l[it.fnd l k]? = some x → ¬ x.f0 < k
  | [], x, h => by simp [it.fnd] at h
  | y :: l, x, h => by
    unfold it.fnd at h
    split at h
    · exact it.fnd_at k l x (by simpa using h)
    · rename_i hy; simp at h; subst h; exact hy
theorem it.fnd_ge {l : List S80} (hs : it.Srt l) (k : Int) (j : Nat) (x : S80) (h : l[j]? = some x) (hj : it.fnd l k ≤ j) : ¬ x.f0 < k := by
  have hjl : j < l.length := (List.getElem?_eq_some_iff.1 h).1
  have h1 := it.fnd_at k l _ (it.rd_at (l := l) (j := it.fnd l k) (by omega))
  by_cases e : it.fnd l k = j
  · rw [it.rd_at hjl] at h
    obtain rfl := Option.some.inj h
    rw [e] at h1; exact h1
  · have h2 := List.pairwise_iff_getElem.1 hs (it.fnd l k) j (by omega) hjl (by omega)
    have e1 : l[it.fnd l k]'(by omega) = rd_T80 l (it.fnd l k : Int) := by
      have := it.rd_at (l := l) (j := it.fnd l k) (by omega)
      rw [List.getElem?_eq_getElem (by omega)] at this
      exact Option.some.inj this
    have e2 : l[j] = x := by rw [List.getElem?_eq_getElem hjl] at h; exact Option.some.inj h
    rw [e1, e2] at h2
    omega
theorem it.bs_run (l : List S80) (hs : it.Srt l) (k : Int) : ∀ (q i j : Nat), i ≤ it.fnd l k → it.fnd l k ≤ j → j ≤ l.length → j - i < q → it.bs l k q (i : Int) (j : Int) = some (it.fnd l k : Int)
  | 0, i, j, _, _, _, h => absurd h (Nat.not_lt_zero _)
  | q + 1, i, j, h1, h2, h3, h4 => by
    unfold it.bs
    by_cases h : i < j
    · have em : ((i : Int) + (j : Int)) / 2 = (((i + j) / 2 : Nat) : Int) := by omega
      rw [if_pos (by omega), if_pos (by omega), if_pos (by omega), em]
      have hm : (i + j) / 2 < l.length := by omega
      have ha := it.rd_at hm
      by_cases hlt : it.cs (rd_T80 l (((i + j) / 2 : Nat) : Int)).f0 k < 0
      · rw [if_pos hlt]
        have hr : (i + j) / 2 < it.fnd l k := Nat.lt_of_not_le (fun hle => it.fnd_ge hs k _ _ ha hle ((it.cs_neg _ _).1 hlt))
        have := it.bs_run l hs k q ((i + j) / 2 + 1) j (by omega) h2 h3 (by omega)
        simpa using this
      · rw [if_neg hlt]
        have hr : it.fnd l k ≤ (i + j) / 2 := Nat.le_of_not_lt (fun hl => hlt ((it.cs_neg _ _).2 (it.fnd_lt k _ _ _ ha hl)))
        exact it.bs_run l hs k q i ((i + j) / 2) h1 hr (by omega) (by omega)
    · rw [if_neg (by omega)]
      have : i = it.fnd l k := by omega
      rw [this]
theorem it.bs_fnd {l : List S80} (hs : it.Srt l) (k : Int) : it.bs l k (l.length + 1) 0 (l.length : Int) = some (it.fnd l k : Int) := by
  have := it.bs_run l hs k (l.length + 1) 0 l.length (Nat.zero_le _) (it.fnd_le k l) (Nat.le_refl _) (by omega)
  simpa using this
theorem it.flag (l : List S80) (k : Int) : (decide ((it.fnd l k : Int) < (l.length : Int)) && it.cs (rd_T80 l (it.fnd l k : Int)).f0 k == 0) = it.has l k := by
  unfold it.has
  rw [Bool.eq_iff_iff, Bool.and_eq_true, decide_eq_true_iff, beq_iff_eq, it.cs_zero, decide_eq_true_iff]
  constructor
  · rintro ⟨a, b⟩; exact ⟨by omega, b⟩
  · rintro ⟨a, b⟩; exact ⟨by omega, b⟩
theorem it.has_lt {l : List S80} {k : Int} (h : it.has l k = true) : it.fnd l k < l.length := (of_decide_eq_true h).1
theorem it.put_yes {l : List S80} {k v : Int} (h : it.has l k = true) : l.set (it.fnd l k) ⟨(rd_T80 l (it.fnd l k : Int)).f0, v⟩ = it.put l k v := by
  have hp := of_decide_eq_true h
  unfold it.put
  rw [if_pos h, hp.2, List.set_eq_take_append_cons_drop, if_pos hp.1]
  simp
theorem it.put_no {l : List S80} {k v : Int} (h : it.has l k = false) : l.take (it.fnd l k) ++ [⟨k, v⟩] ++ l.drop (it.fnd l k) = it.put l k v := by
  unfold it.put
  rw [h]
  simp
theorem it.mem_take {l : List S80} {k : Int} {x : S80} (h : x ∈ l.take (it.fnd l k)) : x.f0 < k := by
  obtain ⟨j, hj, rfl⟩ := List.getElem_of_mem h
  rw [List.length_take] at hj
  exact it.fnd_lt k l j _ (by rw [List.getElem_take]; exact List.getElem?_eq_getElem (by omega)) (by omega)
theorem it.mem_drop {l : List S80} (hs : it.Srt l) {k : Int} {x : S80} (h : x ∈ l.drop (it.fnd l k + if it.has l k then 1 else 0)) : k < x.f0 := by
  cases hh : it.has l k with
  | true =>
    rw [hh, if_pos rfl] at h
    obtain ⟨j, hj, rfl⟩ := List.getElem_of_mem h
    rw [List.length_drop] at hj
    rw [List.getElem_drop]
    have hp := of_decide_eq_true hh
    have h2 := List.pairwise_iff_getElem.1 hs (it.fnd l k) (it.fnd l k + 1 + j) hp.1 (by omega) (by omega)
    have e1 : l[it.fnd l k]'hp.1 = rd_T80 l (it.fnd l k : Int) := by
      have := it.rd_at (l := l) (j := it.fnd l k) hp.1
      rw [List.getElem?_eq_getElem hp.1] at this
      exact Option.some.inj this
    rw [e1, hp.2] at h2
    exact h2
  | false =>
    rw [hh, if_neg (by simp), Nat.add_zero] at h
    obtain ⟨j, hj, rfl⟩ := List.getElem_of_mem h
    rw [List.length_drop] at hj
    rw [List.getElem_drop]
    have hn := of_decide_eq_false hh
    have h2 := it.fnd_ge hs k (it.fnd l k + j) _ (List.getElem?_eq_getElem (by omega)) (by omega)
    have h3 : l[it.fnd l k + j].f0 ≠ k := by
      intro e
      by_cases hj0 : j = 0
      · subst hj0
        refine hn ⟨by omega, ?_⟩
        have := it.rd_at (l := l) (j := it.fnd l k) (by omega)
        rw [List.getElem?_eq_getElem (by omega)] at this
        rw [← Option.some.inj this]
        simpa using e
      · have h5 := List.pairwise_iff_getElem.1 hs (it.fnd l k) (it.fnd l k + j) (by omega) (by omega) (by omega)
        have h6 := it.fnd_at k l _ (List.getElem?_eq_getElem (show it.fnd l k < l.length by omega))
        omega
    omega
theorem it.srt_put {l : List S80} (hs : it.Srt l) (k v : Int) : it.Srt (it.put l k v) := by
  unfold it.Srt it.put
  rw [List.pairwise_append, List.pairwise_append]
  refine ⟨⟨List.Pairwise.sublist (List.take_sublist _ _) hs, List.pairwise_singleton _ _, fun a ha b hb => ?_⟩, List.Pairwise.sublist (List.drop_sublist _ _) hs, fun a ha b hb => ?_⟩
  · simp at hb; subst hb; exact it.mem_take ha
  · have hbk := it.mem_drop hs hb
    rcases List.mem_append.1 ha with h | h
    · have := it.mem_take h; omega
    · simp at h; subst h; exact hbk
theorem it.srt_del {l : List S80} (hs : it.Srt l) (k : Int) : it.Srt (it.del l k) := by
  unfold it.del
  split
  · refine List.Pairwise.sublist ?_ hs
    have h := List.Sublist.append (List.Sublist.refl (l.take (it.fnd l k))) (List.drop_sublist_drop_left l (Nat.le_add_right (it.fnd l k) 1))
    rwa [List.take_append_drop] at h
  · exact hs
theorem it.len_put (l : List S80) (k v : Int) : (it.put l k v).length ≤ l.length + 1 := by
  have := it.fnd_le k l
  unfold it.put
  split <;> simp <;> omega
theorem it.len_del (l : List S80) (k : Int) : (it.del l k).length ≤ l.length := by
  have := it.fnd_le k l
  unfold it.del
  split
  · simp; omega
  · exact Nat.le_refl _
/-- The document's pairs. -/
def it.r5 (x : S80) : S50 := ⟨x.f0, x.f1⟩
theorem it.rd5 {l : List S80} {j : Nat} (h : j < l.length) : rd_T50 (l.map it.r5) (j : Int) = it.r5 (rd_T80 l (j : Int)) := by
  unfold rd_T50 rd_T80
  rw [Int.toNat_natCast, List.getD_eq_getElem?_getD, List.getD_eq_getElem?_getD, List.getElem?_map, List.getElem?_eq_getElem h]
  rfl
theorem it.ref_run (l : List S80) (k : Int) (hl : l.length < 4611686018427387904) : ∀ (q j : Nat), j ≤ it.fnd l k → l.length - j < q → scrupleref05_Find.l0 q (l.map it.r5) k (j : Int) = some ((it.fnd l k : Int), it.has l k)
  | 0, j, _, h => absurd h (Nat.not_lt_zero _)
  | q + 1, j, h1, h2 => by
    have hf := it.fnd_le k l
    unfold scrupleref05_Find.l0
    rw [List.length_map]
    by_cases h : j < l.length
    · have ha := it.rd_at h
      rw [if_pos (by omega), if_pos (by omega), it.rd5 h]
      by_cases hlt : (rd_T80 l (j : Int)).f0 < k
      · have hj : j < it.fnd l k := by
          rcases Nat.lt_or_eq_of_le h1 with h3 | h3
          · exact h3
          · exact absurd hlt (it.fnd_at k l _ (h3 ▸ ha))
        rw [if_pos (show (it.r5 (rd_T80 l (j : Int))).f0 < k from hlt), show wrap64 ((j : Int) + 1) = ((j + 1 : Nat) : Int) by unfold wrap64; omega]
        exact it.ref_run l k hl q (j + 1) hj (by omega)
      · rw [if_neg (show ¬ (it.r5 (rd_T80 l (j : Int))).f0 < k from hlt)]
        have hj : j = it.fnd l k := by
          rcases Nat.lt_or_eq_of_le h1 with h3 | h3
          · exact absurd (it.fnd_lt k l j _ ha h3) hlt
          · exact h3
        subst hj
        congr 2
        unfold it.has
        rw [Bool.eq_iff_iff, decide_eq_true_iff, beq_iff_eq]
        exact ⟨fun e => ⟨h, e⟩, fun e => e.2⟩
    · rw [if_neg (by omega)]
      have hj : j = it.fnd l k := by omega
      subst hj
      congr 2
      unfold it.has
      exact (decide_eq_false (fun e => h e.1)).symm
theorem it.ref_find (l : List S80) (k : Int) (hl : l.length < 4611686018427387904) : scrupleref05_Find.f (l.length + 1) (l.map it.r5) k = some ((it.fnd l k : Int), it.has l k) := it.ref_run l k hl _ 0 (Nat.zero_le _) (by omega)
theorem it.ref_put (l : List S80) (k v : Int) (hl : l.length < 8796093022206) : scrupleref05_Put.f (l.length + 1) (l.map it.r5) k v = some ((it.put l k v).map it.r5, it.has l k) := by
  have hf := it.fnd_le k l
  unfold scrupleref05_Put.f
  rw [it.ref_find l k (by omega), Option.bind_some]
  dsimp only
  rw [if_pos (by omega), if_pos (by rw [List.length_map]; omega), Option.bind_some, if_pos (by simp; omega), Option.bind_some, if_pos (by simp; omega), Option.bind_some]
  unfold it.put
  cases hh : it.has l k with
  | true =>
    have hp := it.has_lt hh
    rw [if_pos rfl, show wrap64 ((it.fnd l k : Int) + 1) = ((it.fnd l k + 1 : Nat) : Int) by unfold wrap64; omega, if_pos (by omega), if_pos (by rw [List.length_map]; omega), Option.bind_some, if_pos (by simp; omega)]
    simp [it.r5]
  | false =>
    rw [if_neg (by simp), Option.bind_some, if_pos (by simp; omega)]
    simp [it.r5]
theorem it.findT {w : World} {base g : Nat} {l : List S80} {A : Option Addr} {c : Nat} (h : it.Tab w base g l A c) (hs : it.Srt l) (k : Int) :
    Calls Try.prog 20 #[.pointer (some ⟨g, 0, none⟩), .int .i64 k] w fun e w' => e = .returned (.tuple #[.int .i64 (it.fnd l k : Int), .bool (it.has l k)]) ∧ Below w.heap.size w w' := by
  refine (it.find1 h _ k _ (it.bs_fnd hs k)).mono ?_
  rw [it.flag]
  exact fun e w' h => h
theorem it.getT {w : World} {base g : Nat} {l : List S80} {A : Option Addr} {c : Nat} (h : it.Tab w base g l A c) (hs : it.Srt l) (k : Int) :
    Calls Try.prog 18 #[.pointer (some ⟨g, 0, none⟩), .int .i64 k] w fun e w' => ∃ vv : Int, vv = (if it.has l k then (rd_T80 l (it.fnd l k : Int)).f1 else 0) ∧ e = .returned (.tuple #[.int .i64 vv, .bool (it.has l k)]) ∧ Below w.heap.size w w' := by
  refine (it.get1 h _ k (it.fnd l k) (it.bs_fnd hs k) (it.fnd_le k l) _ rfl).mono ?_
  rintro e w' ⟨rfl, hb⟩
  refine ⟨_, ?_, rfl, hb⟩
  unfold it.has
  simp only [decide_eq_true_eq]
theorem it.putT {w0 w : World} {g : Nat} {l : List S80} {A : Option Addr} {c : Nat} (hB : Below w0.heap.size w0 w) (hg0 : w0.heap.size ≤ g) (h : it.Tab w w0.heap.size g l A c) (hs : it.Srt l) (k z : Int) (hl : (l.length + 1) * 16 ≤ 140737488355328) :
    Calls Try.prog 21 #[.pointer (some ⟨g, 0, none⟩), .int .i64 k, .int .i64 z] w fun e w' => ∃ (A' : Option Addr) (c' : Nat), e = .returned (.bool (it.has l k)) ∧ it.Tab w' w0.heap.size g (it.put l k z) A' c' ∧ it.Fr g w w' ∧ Below w0.heap.size w0 w' := by
  have hf := it.flag l k
  cases hh : it.has l k with
  | true =>
    have hlt := it.has_lt hh
    obtain ⟨ad, rfl⟩ : ∃ ad, A = some ad := (Kd.R_reads' h.row).2.2.2.2 (by omega) |>.imp fun ad e => e.1
    rw [hh] at hf
    refine (it.putY hB hg0 h _ k (it.fnd l k) (it.bs_fnd hs k) hlt hf z (by omega)).mono ?_
    rintro e w' ⟨A', c', rfl, h1, h2, h3⟩
    rw [it.put_yes hh] at h1
    exact ⟨A', c', rfl, h1, h2, h3⟩
  | false =>
    rw [hh] at hf
    refine (it.putN hB hg0 h _ k (it.fnd l k) (it.bs_fnd hs k) (it.fnd_le k l) hf z hl).mono ?_
    rintro e w' ⟨A', c', rfl, h1, h2, h3⟩
    rw [it.put_no hh] at h1
    exact ⟨A', c', rfl, h1, h2, h3⟩
theorem it.delT {w0 w : World} {g : Nat} {l : List S80} {A : Option Addr} {c : Nat} (hB : Below w0.heap.size w0 w) (hg0 : w0.heap.size ≤ g) (h : it.Tab w w0.heap.size g l A c) (hs : it.Srt l) (k : Int) (hl : l.length * 16 ≤ 140737488355328) :
    Calls Try.prog 22 #[.pointer (some ⟨g, 0, none⟩), .int .i64 k] w fun e w' => ∃ (A' : Option Addr) (c' : Nat), e = .returned (.bool (it.has l k)) ∧ it.Tab w' w0.heap.size g (it.del l k) A' c' ∧ it.Fr g w w' ∧ Below w0.heap.size w0 w' := by
  have hf := it.flag l k
  cases hh : it.has l k with
  | true =>
    have hlt := it.has_lt hh
    rw [hh] at hf
    refine (it.delY hB hg0 h _ k (it.fnd l k) (it.bs_fnd hs k) hlt hf hl).mono ?_
    rintro e w' ⟨A', c', rfl, h1, h2, h3⟩
    exact ⟨A', c', rfl, by unfold it.del; rw [if_pos hh]; exact h1, h2, h3⟩
  | false =>
    rw [hh] at hf
    refine (it.delN h _ k _ (it.bs_fnd hs k) hf).mono ?_
    rintro e w' ⟨rfl, h1⟩
    refine ⟨A, c, rfl, ?_, it.Fr.of_below h1, below_then hB hB.size h1⟩
    unfold it.del
    rw [hh, if_neg (by simp)]
    exact ⟨blk_below h.cel h1, Kd.R_below h.row h1, h.len⟩
theorem it.Tab.below {w w1 : World} {base g : Nat} {l : List S80} {A : Option Addr} {c : Nat} (h : it.Tab w base g l A c) (hb : Below w.heap.size w w1) : it.Tab w1 base g l A c := ⟨blk_below h.cel hb, Kd.R_below h.row hb, h.len⟩
/-- At, out of range. -/
theorem it.at0 {w : World} {base g : Nat} {l : List S80} {A : Option Addr} {c : Nat} (h : it.Tab w base g l A c) (i : Int) (hi : i < 0 ∨ (l.length : Int) ≤ i) :
    Calls Try.prog 19 #[.pointer (some ⟨g, 0, none⟩), .int .i64 i] w fun e w' => e = .returned (.tuple #[.int .i64 0, .int .i64 0, .bool false]) ∧ Below w.heap.size w w' := by
  have HT := Aside0.mk h
  have HB := Aside0.mk (Below.refl w.heap.size w)
  by_cases h0 : i < 0
  · have b0 : decide (i < 0) = true := decide_eq_true h0
    clear h0 hi
    go_enter Try.func19, Try.ntmps19
    go_wp2
    go_ret3
    exact ⟨rfl, HB.out⟩
  · have b0 : decide (i < 0) = false := decide_eq_false h0
    have b1 : decide (i ≥ (l.length : Int)) = true := decide_eq_true (by omega)
    have b2 : decide ((l.length : Int) ≤ i) = true := decide_eq_true (by omega)
    clear h0 hi
    go_enter Try.func19, Try.ntmps19
    go_wp2_with (go_at_call 23; refine (it.len1 HT.out).mono ?_; rintro e_ w2 ⟨rfl, hb⟩; have HB2 := Aside0.mk hb; clear hb)
    go_ret3
    exact ⟨rfl, HB2.out⟩
theorem it.new1 (w : World) : Calls Try.prog 24 #[] w fun e w' => ∃ g, e = .returned (.pointer (some ⟨g, 0, none⟩)) ∧ w'.heap[g]? = some (.cells #[.slice none 0 0] 78 (0, 0)) ∧ w.heap.size ≤ g ∧ Below w.heap.size w w' := by
  go_enter Try.func24, Try.ntmps24
  go_wp2_with ((with_reducible refine gate_dst (N := 2) rfl ?_); refine box_event ?hg (N := 2) ?hd (cs := #[.slice none 0 0]) (t := 78) ?hr ?_; (case hd => rfl); (case hg => rfl); (case hr => first | (go_simp; done) | (go_simp; rfl)); intro gb hg w1 hbox hb; have hge : w.heap.size ≤ gb := (by omega); clear hg)
  go_ret
  exact ⟨gb, rfl, hbox, hge, hb⟩
theorem it.tab0 {w : World} {base g : Nat} (h : w.heap[g]? = some (.cells #[.slice none 0 0] 78 (0, 0))) : it.Tab w base g [] none 0 := ⟨h, Kd.R_nil _ _ _ _ _, by simp⟩
theorem it.copyT {w : World} {base g : Nat} {l : List S80} {A : Option Addr} {c : Nat} (h : it.Tab w base g l A c) : Calls Try.prog 25 #[.pointer (some ⟨g, 0, none⟩)] w fun e w' => ∃ g', e = .returned (.pointer (some ⟨g', 0, none⟩)) ∧ it.Tab w' base g' l A c ∧ w.heap.size ≤ g' ∧ Below w.heap.size w w' := by
  have hz : w.cell? ⟨g, 0, none⟩ = some (.slice A l.length c) := (blk_cell h.cel 0).trans rfl
  have hy := blk_frozen h.cel 0
  go_enter Try.func25, Try.ntmps25
  go_wp2_with ((with_reducible refine gate_dst (N := 10) rfl ?_); refine box_event ?hg (N := 10) ?hd (cs := #[.slice A l.length c]) (t := 78) ?hr ?_; (case hd => rfl); (case hg => rfl); (case hr => first | (go_simp; done) | (go_simp; rfl)); intro gb hg w1 hbox hb; have hge : w.heap.size ≤ gb := (by omega); clear hg)
  go_ret
  exact ⟨gb, rfl, ⟨hbox, Kd.R_below h.row hb, h.len⟩, hge, hb⟩
theorem it.all1 {w : World} {base g : Nat} {l : List S80} {A : Option Addr} {c : Nat} (h : it.Tab w base g l A c) :
    Calls Try.prog 26 #[.pointer (some ⟨g, 0, none⟩)] w fun e w' => ∃ (gb : Nat), e = .returned (.func (.func 44) #[] #[.pointer (some ⟨gb, 0, none⟩)]) ∧ w'.heap[gb]? = some (.cells #[.slice A l.length c] 76 (0, 0)) ∧ w.heap.size ≤ gb ∧ Below w.heap.size w w' := by
  have hz : w.cell? ⟨g, 0, none⟩ = some (.slice A l.length c) := (blk_cell h.cel 0).trans rfl
  have hy := blk_frozen h.cel 0
  have HLEN := Aside0.mk h.len
  generalize l.length = n at *
  go_enter Try.func26, Try.ntmps26
  go_wp2_with (go_at_call 33; refine (it.walk1 A n c _).mono ?_; rintro e_ w2 ⟨gb, rfl, h1, h2, hb⟩)
  go_ret
  exact ⟨gb, rfl, h1, h2, hb⟩
theorem it.info50 : (Try.prog.info? 50).map (fun i => (i.zero, i.size, i.bytes)) = some (some (.agg #[.int .i64 0, .int .i64 0]), 2, 16) := by kernel_rfl
/-- The document's Delete. -/
theorem it.refDel {w : World} (l : List S80) (k : Int) (A : Option Addr) (c : Nat) (hr : Kd.C k50 w A (l.map it.r5).length (l.map it.r5)) (hc : (l.map it.r5).length ≤ c) (hl : l.length * 16 ≤ 140737488355328) (base : Nat) (hbase : base ≤ w.heap.size) (hR : Kd.R k50 50 w base (fun _ => True) (.slice A (l.map it.r5).length c) (l.map it.r5)) :
    Calls Try.prog 41 #[.slice A (l.map it.r5).length c, .int .i64 k] w fun e w' => ∃ v : Value, e = .returned (.tuple #[v, .bool (it.has l k)]) ∧ Kd.R k50 50 w' base (fun _ => True) v ((it.del l k).map it.r5) ∧ Below w.heap.size w w' := by
  have HF := Aside0.mk (it.ref_find l k (by omega))
  have HR := Aside0.mk hr
  have HC := Aside0.mk hc
  have HRR := Aside0.mk hR
  cases hh : it.has l k with
  | false =>
    rw [hh] at HF
    have HD := Aside0.mk (show it.del l k = l by unfold it.del; rw [hh, if_neg (by simp)])
    clear hr hc hR hh
    generalize hm : l.map it.r5 = m at *
    have HM := Aside0.mk hm
    clear hm
    go_enter Try.func41, Try.ntmps41
    go_wp2_with (go_at_call 16; refine (scrupleref05_Find.calls _ A c m k _ _ _ HR.out HC.out HF.out).mono ?_; rintro e_ w1 ⟨rfl, hb⟩; have HB1 := Aside0.mk hb.below; clear hb)
    go_ret2
    exact ⟨_, rfl, by rw [HD.out, HM.out]; exact Kd.R_below HRR.out HB1.out, HB1.out⟩
  | true =>
    rw [hh] at HF
    have hlt := it.has_lt hh
    have HD := Aside0.mk (show (it.del l k).map it.r5 = (l.map it.r5).take (it.fnd l k) ++ (l.map it.r5).drop (it.fnd l k + 1) by unfold it.del; rw [hh, if_pos rfl, List.map_append, List.map_take, List.map_drop])
    have hml : (l.map it.r5).length = l.length := List.length_map _
    rw [← hml] at hlt hl
    clear hml hR hh
    generalize it.fnd l k = rn at *
    generalize l.map it.r5 = m at *
    have info50 := it.info50
    obtain ⟨i0, hi0, _, hsz0, _⟩ := info_parts info50
    have hcT := cut_to (P := Try.prog) 40 50 .i64 Try.underlying40 hi0 A m.length c (rn : Int) (by omega) (by omega) hc
    have hcD := cut_from (P := Try.prog) 40 50 .i64 Try.underlying40 hi0 2 hsz0 A m.length c ((rn : Int) + 1) (by omega) (by omega)
    have hRD := it.rows_drop (m := rn + 1) (c := c) hr (by omega) hc
    rw [show ((rn : Int) + 1).toNat = rn + 1 by omega] at hcD
    rw [Int.toNat_natCast] at hcT
    have hwr : wrap64 ((rn : Int) + 1) = (rn : Int) + 1 := by unfold wrap64; omega
    have hRD2 : ReadsRow (fun (x : S50) cs => cs = [.int .i64 x.f0, .int .i64 x.f1]) 2 w (if c = rn + 1 then A else A.map (·.add ((rn + 1) * 2))) (m.length - (rn + 1)) (m.drop (rn + 1)) := hRD.imp_ (Below.refl _ _) (fun _ _ hp => k50_open hp)
    have hRT2 : ReadsRow (fun (x : S50) cs => cs = [.int .i64 x.f0, .int .i64 x.f1]) 2 w A rn (m.take rn) := (it.rows_take hr (by omega)).imp_ (Below.refl _ _) (fun _ _ hp => k50_open hp)
    generalize (if c = rn + 1 then A else A.map (·.add ((rn + 1) * 2))) = AD at hcD hRD2
    have HL1 := Aside0.mk (show (([] : List S50).length + rn) * 16 ≤ 140737488355328 by simp; omega)
    have HL2 := Aside0.mk (show ((m.take rn).length + (m.length - (rn + 1))) * 16 ≤ 140737488355328 by rw [List.length_take]; omega)
    generalize hnD : m.length - (rn + 1) = nD at hcD hRD2 HL2
    generalize c - (rn + 1) = cD at hcD
    have HRD := Aside0.mk hRD2
    have HRT := Aside0.mk hRT2
    have HB := Aside0.mk (Below.refl w.heap.size w)
    have HBA := Aside0.mk hbase
    have hi0' : 0 ≤ (rn : Int) := by omega
    have hi1' : (rn : Int) ≤ (m.length : Int) := by omega
    clear hRD2 hRT2 hRD hnD hr hl hlt
    go_enter Try.func41, Try.ntmps41
    go_wp2_with (first | (go_at_call 16; refine (scrupleref05_Find.calls _ A c m k _ _ _ HR.out HC.out HF.out).mono ?_; rintro e_ w1 ⟨rfl, hb⟩; have HB1 := Aside0.mk hb.below; clear hb) | (at_builtin; refine Kd.R_append_rows k50 (Rr := fun x cs => cs = [.int .i64 x.f0, .int .i64 x.f1]) (w0 := w) w.heap.size rfl (.tmp 18) (.tmp 21) 40 50 (.agg #[.int .i64 0, .int .i64 0]) 16 rfl Try.underlying40 info50 rfl (by decide) (by omega) (.slice none 0 0) ([] : List S50) (m.take rn) A rn c (fun _ => True) (fun _ => False) rfl rfl (Kd.R_nil _ _ _ _ _) (HRT.out.imp_ HB1.out (fun _ _ hp => hp)) (fun x cs hp => by rw [hp]; exact k50_mkM _ _ _ x) (fun _ hk => hk.elim) (fun _ _ => trivial) HB1.out HB1.out.size ?aL ?_; (case aL => exact HL1.out); intro v2 w2 ho hb hg hat; have HO2 := Aside0.mk ho; have HB2 := Aside0.mk hb; clear ho hb hg hat) | (at_builtin; refine Kd.R_append_rows k50 (Rr := fun x cs => cs = [.int .i64 x.f0, .int .i64 x.f1]) (w0 := w) w.heap.size rfl (.tmp 23) (.tmp 27) 40 50 (.agg #[.int .i64 0, .int .i64 0]) 16 rfl Try.underlying40 info50 rfl (by decide) (by omega) v2 (m.take rn) (m.drop (rn + 1)) AD nD cD (fun _ => True) (fun _ => False) rfl rfl HO2.out (HRD.out.imp_ HB2.out (fun _ _ hp => hp)) (fun x cs hp => by rw [hp]; exact k50_mkM _ _ _ x) (fun _ hk => hk.elim) (fun _ _ => trivial) HB2.out HB2.out.size ?aL ?_; (case aL => exact HL2.out); intro v3 w3 ho hb hg hat; have HO3 := Aside0.mk ho; have HB3 := Aside0.mk hb; clear ho hb hg hat))
    go_ret2
    exact ⟨_, rfl, by rw [HD.out]; exact Kd.R_lower HO3.out HBA.out, HB3.out⟩
end
end Go.Proofs.Ytgpmkljklkmipaa.X
