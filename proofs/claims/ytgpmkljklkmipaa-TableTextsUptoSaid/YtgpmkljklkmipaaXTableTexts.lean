/- XTableTexts: walks by hand, for the claim. -/
import Derived.Test.YtgpmkljklkmipaaXx0
import Derived.Test.YtgpmkljklkmipaaXWords
import Derived.RangeFuncMany
import Derived.Laws.Pointers
import Derived.Shelf.Abstract
import Derived.Lib.SliceRun
import Derived.RangeFuncFrom
import Derived.RangeFuncWrites
import Derived.RangeFuncBox
import Derived.RangeFuncLeaves
import Derived.OwnWalkIn
import Derived.TacticsInMore
import Derived.LoopNIn
import Derived.LoopIn
import Derived.Deep.DeepMust
set_option linter.unusedVariables false
set_option linter.unusedSimpArgs false
namespace Go.Proofs.Ytgpmkljklkmipaa.X
open Go.RowKit Go.Proofs.YtgpmkljklkmipaaW.PrintWords Go.Proofs.YtgpmkljklkmipaaW.PrintLast Go.Proofs.YtgpmkljklkmipaaW.PrintMore Go.Proofs.YtgpmkljklkmipaaW
section
set_option maxHeartbeats 4000000
set_option maxRecDepth 100000
/-- The order of two texts, as cmp.Compare tells it. -/
def tableTexts.cs (a b : ByteArray) : Int := if Op.bytesLess a.toList b.toList = true then -1 else if Op.bytesLess b.toList a.toList = true then 1 else 0
theorem tableTexts.nan (x : ByteArray) (w : World) : Calls Try.prog 43 #[.string x] w fun e w' => e = .returned (.bool false) ∧ Below w.heap.size w w' := by
  go_enter Try.func43, Try.ntmps43
  go_wp2
  go_ret
  exact ⟨by simp, Below.refl _ _⟩
theorem tableTexts.cmp (a b : ByteArray) (w : World) : Calls Try.prog 32 #[.string a, .string b] w fun e w' => e = .returned (.int .i64 (tableTexts.cs a b)) ∧ Below w.heap.size w w' := by
  have HB := Aside0.mk (Below.refl w.heap.size w)
  unfold tableTexts.cs
  cases h1 : Op.bytesLess a.toList b.toList with
  | true =>
    go_enter Try.func32, Try.ntmps32
    go_wp2_with (first | (go_at_call 43; (with_reducible refine (tableTexts.nan a _).mono ?_); rintro e_ w_ ⟨rfl, hb⟩; have n0_ := Aside0.mk (below_step HB.out hb); clear HB hb; have HB := n0_; clear n0_) | (go_at_call 43; (with_reducible refine (tableTexts.nan b _).mono ?_); rintro e_ w_ ⟨rfl, hb⟩; have n0_ := Aside0.mk (below_step HB.out hb); clear HB hb; have HB := n0_; clear n0_))
    go_ret
    exact ⟨rfl, HB.out⟩
  | false =>
    cases h2 : Op.bytesLess b.toList a.toList with
    | true =>
      go_enter Try.func32, Try.ntmps32
      go_wp2_with (first | (go_at_call 43; (with_reducible refine (tableTexts.nan a _).mono ?_); rintro e_ w_ ⟨rfl, hb⟩; have n0_ := Aside0.mk (below_step HB.out hb); clear HB hb; have HB := n0_; clear n0_) | (go_at_call 43; (with_reducible refine (tableTexts.nan b _).mono ?_); rintro e_ w_ ⟨rfl, hb⟩; have n0_ := Aside0.mk (below_step HB.out hb); clear HB hb; have HB := n0_; clear n0_))
      go_ret
      exact ⟨rfl, HB.out⟩
    | false =>
      go_enter Try.func32, Try.ntmps32
      go_wp2_with (first | (go_at_call 43; (with_reducible refine (tableTexts.nan a _).mono ?_); rintro e_ w_ ⟨rfl, hb⟩; have n0_ := Aside0.mk (below_step HB.out hb); clear HB hb; have HB := n0_; clear n0_) | (go_at_call 43; (with_reducible refine (tableTexts.nan b _).mono ?_); rintro e_ w_ ⟨rfl, hb⟩; have n0_ := Aside0.mk (below_step HB.out hb); clear HB hb; have HB := n0_; clear n0_))
      go_ret
      exact ⟨rfl, HB.out⟩
theorem tableTexts.clo (x k : ByteArray) (A : Option Addr) (n c : Nat) (w : World) : Calls Try.prog 31 #[.agg #[.string x, .slice A n c], .string k] w fun e w' => e = .returned (.int .i64 (tableTexts.cs x k)) ∧ Below w.heap.size w w' := by
  have hu68 := Try.underlying68
  go_enter Try.func31, Try.ntmps31
  go_wp2_with (first | ((with_reducible refine gate_dst (N := 2) rfl ?_); refine box_event ?hg (N := 2) ?hd (cs := #[.string x, .slice A n c]) (t := 68) ?hr ?_; (case hd => rfl); (case hg => rfl); (case hr => first | (go_simp; done) | (go_simp; rfl)); intro gb hg w1 hbox hb; have HB1 := Aside0.mk hb; have hz : w1.cell? ⟨gb, 0, none⟩ = some (.string x) := (blk_cell hbox 0).trans rfl; have hy := blk_frozen hbox 0; clear hg hbox hb) | (go_at_call 32; refine (tableTexts.cmp x k _).mono ?_; rintro e_ w_ ⟨rfl, hb⟩))
  go_ret
  exact ⟨rfl, below_step HB1.out hb⟩
/-- The binary search, as the code does it. -/
def tableTexts.bs (l : List S68) (k : ByteArray) : Nat → Int → Int → Option Int
  | 0, _, _ => none
  | q + 1, i, j => if i < j then (if 0 ≤ (i + j) / 2 then (if (i + j) / 2 < (l.length : Int) then (if tableTexts.cs (rd_T68 l ((i + j) / 2)).f0 k < 0 then tableTexts.bs l k q ((i + j) / 2 + 1) j else tableTexts.bs l k q i ((i + j) / 2)) else none) else none) else some i
theorem tableTexts.search (q : Nat) (l : List S68) (k : ByteArray) (A : Option Addr) (c : Nat) (r : Int) (w : World) (hr : Kd.C k68 w A l.length l) (hc : l.length ≤ c) (hl : l.length ≤ 4611686018427387904) (h : tableTexts.bs l k q 0 (l.length : Int) = some r) :
    Calls Try.prog 30 #[.slice A l.length c, .string k, .func (.func 31) #[] #[]] w fun e w' => e = .returned (.tuple #[.int .i64 r, .bool (decide (r < (l.length : Int)) && tableTexts.cs (rd_T68 l r).f0 k == 0)]) ∧ Below w.heap.size w w' := by
  have hu68 := Try.underlying68
  have HR := Aside0.mk hr
  have HC := Aside0.mk hc
  have HL := Aside0.mk hl
  have HH := Aside0.mk h
  clear hr hc hl h
  go_enter Try.func30, Try.ntmps30
  go_wp2
  go_loopg [9, 10, 11] q (fun kq v9 v10 v11 w' => ∃ (i j : Int), v9 = .int .i64 i ∧ v10 = .int .i64 j ∧ Aside0 (tableTexts.bs l k kq i j = some r) ∧ Aside0 (kq ≤ q) ∧ Aside0 (0 ≤ i ∧ i ≤ l.length ∧ 0 ≤ j ∧ j ≤ l.length) ∧ Aside0 (Below w.heap.size w w'))
  case atStart => exact ⟨0, l.length, rfl, rfl, HH, ⟨Nat.le_refl _⟩, ⟨by omega, by omega, by omega, by omega⟩, ⟨Below.refl _ _⟩⟩
  case round =>
    obtain ⟨i, j, rfl, rfl, HA, HK, HI, HB⟩ := hrel
    cases gk with
    | zero => exact absurd HA.out (by simp [tableTexts.bs])
    | succ q1 =>
      have H := HA.out
      clear HA HH
      have hi := HI.out
      have hl := HL.out
      simp only [tableTexts.bs] at H
      by_cases c1 : i < j
      · have c1b : decide (i < j) = true := decide_eq_true c1
        have e1 : wrap64 (i + j) = i + j := by unfold wrap64; omega
        have e2 : (i + j) % 18446744073709551616 = i + j := by omega
        have e3 : wrap64 ((i + j) / 2) = (i + j) / 2 := by unfold wrap64; omega
        have p0 : 0 ≤ (i + j) / 2 := by omega
        have p1 : (i + j) / 2 < (l.length : Int) := by omega
        rw [if_pos c1, if_pos p0, if_pos p1] at H
        have bp0 : decide (0 ≤ (i + j) / 2) = true := decide_eq_true p0
        have bp1 : decide ((i + j) / 2 < (l.length : Int)) = true := decide_eq_true p1
        obtain ⟨ad, A1, c1_, ead, hx0, hx1, hl1, hi1⟩ := at_T68 HR.out ((i + j) / 2) p0 p1
        cases ead
        clear hi1 hl1
        replace hx0 := (HB.out.cell (World.block_lt_of_cell? w _ hx0)).trans hx0
        replace hx1 := (HB.out.cell (World.block_lt_of_cell? w _ hx1)).trans hx1
        generalize rd_T68 l ((i + j) / 2) = x at *
        generalize hm : (i + j) / 2 = m at *
        have e4 : wrap64 (m + 1) = m + 1 := by unfold wrap64; omega
        by_cases c2 : tableTexts.cs x.f0 k < 0
        · rw [if_pos c2] at H
          have c2b : decide (tableTexts.cs x.f0 k < 0) = true := decide_eq_true c2
          have H' := Aside0.mk H
          clear H
          go_wp2_with (go_at_call 31; refine (tableTexts.clo x.f0 k A1 x.f1.length c1_ _).mono ?_; rintro e_ w2 ⟨rfl, hb⟩; have HB2 := Aside0.mk (below_step HB.out hb); clear hb)
          go_roundg q1
          case measure => have := HK.out; omega
          case rel => exact ⟨m + 1, j, (by first | rfl | (congr 1)), rfl, H', ⟨by have := HK.out; omega⟩, ⟨by omega, by omega, by omega, by omega⟩, HB2⟩
        · rw [if_neg c2] at H
          have c2b : decide (tableTexts.cs x.f0 k < 0) = false := decide_eq_false c2
          have H' := Aside0.mk H
          clear H
          go_wp2_with (go_at_call 31; refine (tableTexts.clo x.f0 k A1 x.f1.length c1_ _).mono ?_; rintro e_ w2 ⟨rfl, hb⟩; have HB2 := Aside0.mk (below_step HB.out hb); clear hb)
          go_roundg q1
          case measure => have := HK.out; omega
          case rel => exact ⟨i, m, rfl, (by first | rfl | (congr 1)), H', ⟨by have := HK.out; omega⟩, ⟨by omega, by omega, by omega, by omega⟩, HB2⟩
      · have c1b : decide (i < j) = false := decide_eq_false c1
        rw [if_neg c1] at H
        obtain rfl := Option.some.inj H
        by_cases c3 : i < (l.length : Int)
        · have c3b : decide (i < (l.length : Int)) = true := decide_eq_true c3
          have bp0 : decide (0 ≤ i) = true := decide_eq_true hi.1
          obtain ⟨ad, A1, c1_, ead, hx0, hx1, hl1, hi1⟩ := at_T68 HR.out i hi.1 c3
          cases ead
          clear hi1 hl1
          replace hx0 := (HB.out.cell (World.block_lt_of_cell? w _ hx0)).trans hx0
          replace hx1 := (HB.out.cell (World.block_lt_of_cell? w _ hx1)).trans hx1
          generalize hxe : rd_T68 l i = x at *
          go_wp2_with (go_at_call 31; refine (tableTexts.clo x.f0 k A1 x.f1.length c1_ _).mono ?_; rintro e_ w2 ⟨rfl, hb⟩; have HB2 := Aside0.mk (below_step HB.out hb); clear hb)
          go_ret2
          exact ⟨by simp [c3, hxe], HB2.out⟩
        · have c3b : decide (i < (l.length : Int)) = false := decide_eq_false c3
          go_wp2
          go_ret2
          exact ⟨by simp [c3], HB.out⟩
theorem tableTexts.ptr : Try.prog.underlying 23 = some (.pointer (Try.prog.pointee 23)) := by kernel_rfl
theorem tableTexts.eqn1 (a : Addr) (w : World) : (binOp .eql 23 (.pointer (some a)) (.pointer none)).run Try.prog w = .ok (.bool false) w := run_eql_pointer_nil w 23 (some a) tableTexts.ptr
attribute [local go_sem high] tableTexts.eqn1
/-- A table at block g: its cells are a row of ours (made since base). -/
structure tableTexts.Tab (w : World) (base g : Nat) (l : List S68) (A : Option Addr) (c : Nat) : Prop where
  cel : w.heap[g]? = some (.cells #[.slice A l.length c] 65 (0, 0))
  row : Kd.R k68 68 w base (fun _ => True) (.slice A l.length c) l
  len : l.length ≤ 4611686018427387904
/-- All but block g stays. -/
def tableTexts.Fr (g : Nat) (w w' : World) : Prop := w.heap.size ≤ w'.heap.size ∧ ∀ k, k < w.heap.size → k ≠ g → w'.heap[k]? = w.heap[k]?
theorem tableTexts.Fr.refl (g : Nat) (w : World) : tableTexts.Fr g w w := ⟨Nat.le_refl _, fun _ _ _ => rfl⟩
theorem tableTexts.Fr.trans {g : Nat} {w w1 w2 : World} (h : tableTexts.Fr g w w1) (k : tableTexts.Fr g w1 w2) : tableTexts.Fr g w w2 := ⟨Nat.le_trans h.1 k.1, fun i hi hne => (k.2 i (Nat.lt_of_lt_of_le hi h.1) hne).trans (h.2 i hi hne)⟩
theorem tableTexts.Fr.of_below {g : Nat} {w w1 : World} (h : Below w.heap.size w w1) : tableTexts.Fr g w w1 := ⟨h.size, fun i hi _ => h.block i hi⟩
theorem tableTexts.Fr.set (w : World) (g : Nat) (v : Value) : tableTexts.Fr g w (w.setCell ⟨g, 0, none⟩ v) := ⟨by simp [World.setCell], fun i _ hne => Below.heap_setCell w ⟨g, 0, none⟩ v i hne⟩
theorem tableTexts.Fr.grown {g : Nat} {w W W1 : World} {b : Nat} (h : tableTexts.Fr g w W) (hg : W.grownBy W1 (some b)) (hb : w.heap.size ≤ b) : tableTexts.Fr g w W1 :=
  ⟨Nat.le_trans h.1 hg.size, fun i hi hne => (hg.block i (Nat.lt_of_lt_of_le hi h.1) (fun e => by injection e with e; omega)).trans (h.2 i hi hne)⟩
theorem tableTexts.Fr.rowk {α : Type} {d : Kd α} {e base g : Nat} {w w1 : World} {v : Value} {xs : List α} {ok : Nat → Prop} {cs : Array Value} (hk : tableTexts.Fr g w w1) (BK : w.heap[g]? = some (.cells cs 65 (0, 0))) (h : d.R e w base ok v xs) (ht : ∀ q, q ∈ e :: d.E → q ≠ 65) : d.R e w1 base ok v xs :=
  Kd.R_mono (Kd.R_move (Kd.R_bound (Kd.R_types h BK ht)) (fun k hk' => hk.2 k hk'.2.2.1 hk'.1.2)) (fun _ h => h.1.1)
theorem tableTexts.Fr.tab {w w1 : World} {base g g2 : Nat} {l : List S68} {A : Option Addr} {c : Nat} {cs : Array Value} (hk : tableTexts.Fr g w w1) (BK : w.heap[g]? = some (.cells cs 65 (0, 0))) (hne : g2 ≠ g) (h : tableTexts.Tab w base g2 l A c) : tableTexts.Tab w1 base g2 l A c :=
  ⟨(hk.2 g2 (blk_lt h.cel) hne).trans h.cel, tableTexts.Fr.rowk hk BK h.row (by decide), h.len⟩
theorem tableTexts.len1 {w : World} {base g : Nat} {l : List S68} {A : Option Addr} {c : Nat} (h : tableTexts.Tab w base g l A c) : Calls Try.prog 11 #[.pointer (some ⟨g, 0, none⟩)] w fun e w' => e = .returned (.int .i64 l.length) ∧ Below w.heap.size w w' := by
  have hz : w.cell? ⟨g, 0, none⟩ = some (.slice A l.length c) := (blk_cell h.cel 0).trans rfl
  have hy := blk_frozen h.cel 0
  go_enter Try.func11, Try.ntmps11
  go_wp2
  go_ret
  exact ⟨rfl, Below.refl _ _⟩
theorem tableTexts.find1 {w : World} {base g : Nat} {l : List S68} {A : Option Addr} {c : Nat} (h : tableTexts.Tab w base g l A c) (q : Nat) (k : ByteArray) (r : Int) (hb : tableTexts.bs l k q 0 (l.length : Int) = some r) :
    Calls Try.prog 13 #[.pointer (some ⟨g, 0, none⟩), .string k] w fun e w' => e = .returned (.tuple #[.int .i64 r, .bool (decide (r < (l.length : Int)) && tableTexts.cs (rd_T68 l r).f0 k == 0)]) ∧ Below w.heap.size w w' := by
  have hz : w.cell? ⟨g, 0, none⟩ = some (.slice A l.length c) := (blk_cell h.cel 0).trans rfl
  have hy := blk_frozen h.cel 0
  have HT := Aside0.mk h
  have HQ := Aside0.mk hb
  clear hb
  generalize hbb : (decide (r < (l.length : Int)) && tableTexts.cs (rd_T68 l r).f0 k == 0) = bb
  go_enter Try.func13, Try.ntmps13
  go_wp2_with (go_at_call 30; refine (tableTexts.search q l k A c r _ (Kd.R_reads' HT.out.row).2.2 (Kd.R_reads' HT.out.row).2.1 HT.out.len HQ.out).mono ?_; rw [hbb]; rintro e_ w2 ⟨rfl, hb⟩)
  go_ret2
  exact ⟨rfl, hb⟩
theorem tableTexts.at1 {w : World} {base g : Nat} {l : List S68} {A : Option Addr} {c : Nat} (h : tableTexts.Tab w base g l A c) (i : Int) (h0 : 0 ≤ i) (h1 : i < (l.length : Int)) :
    Calls Try.prog 12 #[.pointer (some ⟨g, 0, none⟩), .int .i64 i] w fun e w' => ∃ (A1 : Option Addr) (c1 : Nat), e = .returned (.tuple #[.string (rd_T68 l i).f0, .slice A1 (rd_T68 l i).f1.length c1, .bool true]) ∧ (Kd.int .i64).C w' A1 (rd_T68 l i).f1.length (rd_T68 l i).f1 ∧ (rd_T68 l i).f1.length ≤ c1 ∧ Below w.heap.size w w' := by
  have HT := Aside0.mk h
  have hz : w.cell? ⟨g, 0, none⟩ = some (.slice A l.length c) := (blk_cell h.cel 0).trans rfl
  have hy := blk_frozen h.cel 0
  have b0 : decide (i < 0) = false := decide_eq_false (by omega)
  have b1 : decide (i ≥ (l.length : Int)) = false := decide_eq_false (by omega)
  have b2 : decide ((l.length : Int) ≤ i) = false := decide_eq_false (by omega)
  have b3 : decide (0 ≤ i) = true := decide_eq_true h0
  have b4 : decide (i < (l.length : Int)) = true := decide_eq_true h1
  have hu68 := Try.underlying68
  obtain ⟨ad, A1, c1_, ead, hx0, hx1, hl1, hi1⟩ := at_T68 (Kd.R_reads' h.row).2.2 i h0 h1
  cases ead
  generalize rd_T68 l i = x at *
  have HI := Aside0.mk hi1
  have HL := Aside0.mk hl1
  clear hi1 hl1
  go_enter Try.func12, Try.ntmps12
  go_wp2_with (go_at_call 11; refine (tableTexts.len1 HT.out).mono ?_; rintro e_ w2 ⟨rfl, hb⟩; have HB2 := Aside0.mk hb; have kz := (hb.cell (World.block_lt_of_cell? w _ hz)).trans hz; have BK2 := blk_below HT.out.cel hb; have ky := blk_frozen BK2 0; have k0 := (hb.cell (World.block_lt_of_cell? w _ hx0)).trans hx0; have k1 := (hb.cell (World.block_lt_of_cell? w _ hx1)).trans hx1; clear hz hy hx0 hx1 hb BK2)
  go_quiet (fail)
  go_wp2
  go_ret3
  exact ⟨_, _, rfl, Kd.C_below HI.out (pw_below_drewN HB2.out _), HL.out, pw_below_drewN HB2.out _⟩
theorem tableTexts.info68 : (Try.prog.info? 68).map (fun i => (i.zero, i.size, i.bytes)) = some (some (.agg #[.string ⟨#[]⟩, .slice none 0 0]), 2, 40) := by kernel_rfl
/-- The cells of a table, as a row of ours that is read: what is told of an element lies below. -/
theorem tableTexts.rows {w : World} {base : Nat} {l : List S68} {A : Option Addr} {c : Nat} (h : Kd.R k68 68 w base (fun _ => True) (.slice A l.length c) l) : ReadsRow (k68.M w base (fun k => k < w.heap.size)) 2 w A l.length l := by
  obtain ⟨A', c', e, _, hr⟩ := OwnRow.reads h.2
  injection e with e1 _ _
  subst e1
  exact hr.imp_ (Below.refl _ _) (fun x cs hp => k68.M_mono (fun k hk => hk.2.2.1) (k68.M_bound hp))
theorem tableTexts.clone1 {w0 w : World} {l : List S68} {ad : Addr} {c : Nat} (hB : Below w0.heap.size w0 w) (h : Kd.R k68 68 w w0.heap.size (fun _ => True) (.slice (some ad) l.length c) l) (hl : l.length * 40 ≤ 140737488355328) :
    Calls Try.prog 28 #[.slice (some ad) l.length c] w fun e w' => ∃ v' : Value, e = .returned v' ∧ Kd.R k68 68 w' w0.heap.size (fun _ => True) v' l ∧ (∃ b, v'.ownBlock = some b ∧ w.heap.size ≤ b) ∧ Below w.heap.size w w' := by
  have info68 := tableTexts.info68
  have HR := Aside0.mk (tableTexts.rows h)
  have HL := Aside0.mk hl
  have HB := Aside0.mk hB
  clear hl hB h
  have hE0 : ∀ w' : World, (binOp .eql 63 (.slice (some ad) l.length c) (.slice none 0 0)).run Try.prog w' = .ok (.bool false) w' := fun w' => Lib.run_eql_slice_nil w' _ _ _ _ _ _ _ Try.underlying63
  go_enter Try.func28, Try.ntmps28
  go_wp2_with (first | ((with_reducible refine gate_dst (N := 5) rfl ?_); refine Kd.R_lit k68 (w0 := w) w.heap.size 68 ?hg (N := 5) ?hd (xs := ([] : List S68)) (inner := []) (ok := fun _ => True) (okp := fun _ => True) ?hr ?hp (fun _ hk => hk) trivial (Below.refl _ _) (Nat.le_refl _) (by simp) ?_; (case hd => rfl); (case hg => rfl); (case hr => first | (go_simp; done) | (go_simp; rfl)); (case hp => exact Reps.none _ _); intro v1 w1 ho hb hg_ hnew; have HO := Aside0.mk ho; have HW := Aside0.mk hb; have HN := Aside0.mk hnew; clear ho hb hg_ hnew) | (at_builtin; refine Kd.R_append_rows k68 (Rr := k68.M w w0.heap.size (fun k => k < w.heap.size)) (w0 := w0) w0.heap.size rfl (.tmp 5) (.tmp 6) 63 68 (.agg #[.string ⟨#[]⟩, .slice none 0 0]) 40 rfl Try.underlying63 info68 rfl (by decide) (by omega) v1 ([] : List S68) l (some ad) l.length c (fun _ => True) (fun k => k < w.heap.size) rfl rfl ?aO ?aR ?aK ?aP ?aF ?aB ?aS ?aL ?_; (case aR => exact HR.out.imp_ HW.out (fun _ _ hp => hp)); (case aK => intro x cs hp; exact Kd.M_below hp HW.out); (case aP => intro k hk; refine ⟨trivial, fun e_ => ?_⟩; obtain ⟨b, hb, hge⟩ := HN.out; rw [hb] at e_; injection e_ with e_; omega); (case aB => exact below_then HB.out HB.out.size HW.out); (case aF => exact (fun _ _ => trivial)); (case aO => exact Kd.R_lower HO.out HB.out.size); (case aS => exact Nat.le_trans HB.out.size HW.out.size); (case aL => have := HL.out; simp; omega); intro v2 w2 ho hb hg hat; have HO2 := Aside0.mk ho; have HG2 := Aside0.mk hg; have HA2 := Aside0.mk hat; clear ho hb hg hat))
  go_ret
  refine ⟨v2, rfl, by simpa using HO2.out, ?_, ?_⟩
  · obtain ⟨b, hb, hge⟩ := HN.out
    rcases HA2.out with e | ⟨b2, e, hge2⟩
    · exact ⟨b, by rw [e, hb], hge⟩
    · exact ⟨b2, e, Nat.le_trans HW.out.size hge2⟩
  · obtain ⟨b, hb, hge⟩ := HN.out
    exact HW.out.grown HG2.out HW.out.size (fun k hk => by rw [hb] at hk; injection hk with hk; omega)
theorem tableTexts.rows_take {α : Type} {Rr : α → List Value → Prop} {w : World} {A : Option Addr} {xs : List α} {m sz : Nat} (h : ReadsRow Rr sz w A xs.length xs) (hm : m ≤ xs.length) : ReadsRow Rr sz w A m (xs.take m) := by
  refine ⟨by rw [List.length_take]; omega, by have := h.2.1; omega, fun hp => ?_⟩
  obtain ⟨ad, e, hc⟩ := h.2.2 (by omega)
  refine ⟨ad, e, fun j p hj => hc j p ?_⟩
  rw [List.getElem?_take] at hj
  split at hj
  · exact hj
  · cases hj
theorem tableTexts.rows_drop {α : Type} {Rr : α → List Value → Prop} {w : World} {A : Option Addr} {xs : List α} {m sz c : Nat} (h : ReadsRow Rr sz w A xs.length xs) (hm : m ≤ xs.length) (hc : xs.length ≤ c) : ReadsRow Rr sz w (if c = m then A else A.map (·.add (m * sz))) (xs.length - m) (xs.drop m) := by
  refine ⟨List.length_drop, by have := h.2.1; omega, fun hp => ?_⟩
  obtain ⟨ad, rfl, hcell⟩ := h.2.2 (by omega)
  rw [if_neg (by omega)]
  refine ⟨ad.add (m * sz), rfl, fun j p hj => ?_⟩
  rw [List.getElem?_drop] at hj
  obtain ⟨cs, h1, h2, h3⟩ := hcell (m + j) p hj
  refine ⟨cs, h1, h2, fun i u hu => ?_⟩
  rw [Addr.add_add, show m * sz + (j * sz + i) = (m + j) * sz + i by rw [Nat.add_mul]; omega]
  exact h3 i u hu
theorem tableTexts.newer {B : Nat} {W : World} {v v1 : Value} (h : ∀ b, v.ownBlock = some b → B ≤ b) (hs : B ≤ W.heap.size) (hat : v1.ownBlock = v.ownBlock ∨ ∃ b, v1.ownBlock = some b ∧ W.heap.size ≤ b) : ∀ b, v1.ownBlock = some b → B ≤ b := fun b e => by
  rcases hat with e1 | ⟨b', e1, hge⟩
  · exact h b (by rw [← e1]; exact e)
  · rw [e1] at e
    injection e with e
    omega
theorem tableTexts.tabset {W : World} {base g : Nat} {l : List S68} {A : Option Addr} {c : Nat} {old : Value} (hc : W.heap[g]? = some (.cells #[old] 65 (0, 0))) (hr : Kd.R k68 68 W base (fun _ => True) (.slice A l.length c) l) (hl : l.length ≤ 4611686018427387904) {n : Nat} (hn : n = l.length) : tableTexts.Tab (W.setCell ⟨g, 0, none⟩ (.slice A n c)) base g l A c := by
  subst hn
  exact ⟨by simpa using blk_set hc 0 (.slice A l.length c), Kd.R_mono (Kd.R_far (Kd.R_types hr hc (by decide)) (fun _ hk => hk.2) _) (fun _ _ => trivial), hl⟩
/-- Put, where nothing stands under the key. -/
theorem tableTexts.putN {w0 w : World} {g : Nat} {l : List S68} {A : Option Addr} {c : Nat} (hB : Below w0.heap.size w0 w) (hg0 : w0.heap.size ≤ g) (h : tableTexts.Tab w w0.heap.size g l A c) (q : Nat) (k : ByteArray) (rn : Nat) (hq : tableTexts.bs l k q 0 (l.length : Int) = some (rn : Int)) (hr1 : rn ≤ l.length)
    (hno : (decide ((rn : Int) < (l.length : Int)) && tableTexts.cs (rd_T68 l (rn : Int)).f0 k == 0) = false) (Az : Option Addr) (cz : Nat) (z : List Int) (hz : Kd.R (Kd.int .i64) 3 w w0.heap.size (fun _ => True) (.slice Az z.length cz) z) (hl : (l.length + 1) * 40 ≤ 140737488355328) :
    Calls Try.prog 9 #[.pointer (some ⟨g, 0, none⟩), .string k, .slice Az z.length cz] w fun e w' => ∃ (A' : Option Addr) (c' : Nat), e = .returned (.bool false) ∧ tableTexts.Tab w' w0.heap.size g (l.take rn ++ [⟨k, z⟩] ++ l.drop rn) A' c' ∧ tableTexts.Fr g w w' ∧ Below w0.heap.size w0 w' := by
  have info68 := tableTexts.info68
  obtain ⟨i0, hi0, _, hsz0, _⟩ := info_parts info68
  have HT := Aside0.mk h
  have HQ := Aside0.mk hq
  have HL := Aside0.mk hl
  have HZ := Aside0.mk hz
  have HI := Aside0.mk hr1
  have HR := Aside0.mk (tableTexts.rows h.row)
  have HC := Aside0.mk (Kd.R_reads' h.row).2.1
  have hcT := cut_to (P := Try.prog) 63 68 .i64 Try.underlying63 hi0 A l.length c (rn : Int) (by omega) (by omega) (Kd.R_reads' h.row).2.1
  have hcD := cut_from (P := Try.prog) 63 68 .i64 Try.underlying63 hi0 2 hsz0 A l.length c (rn : Int) (by omega) (by omega)
  have hRD := tableTexts.rows_drop (m := rn) (c := c) HR.out hr1 HC.out
  rw [Int.toNat_natCast] at hcT hcD
  generalize (if c = rn then A else A.map (·.add (rn * 2))) = AD at hcD hRD
  generalize hnD : l.length - rn = nD at hcD hRD
  generalize c - rn = cD at hcD
  have HRD := Aside0.mk hRD
  have HND := Aside0.mk hnD
  have HR1 := Aside0.mk hr1
  have HL3 := Aside0.mk (show (([] : List S68).length + rn) * 40 ≤ 140737488355328 by simp only [List.length_nil]; omega)
  have HL4 := Aside0.mk (show ((l.take rn).length + 1) * 40 ≤ 140737488355328 by rw [List.length_take]; omega)
  have HL5 := Aside0.mk (show ((l.take rn ++ [(⟨k, z⟩ : S68)]).length + nD) * 40 ≤ 140737488355328 by simp only [List.length_append, List.length_take, List.length_cons, List.length_nil]; omega)
  clear hRD hnD hr1
  have hz : w.cell? ⟨g, 0, none⟩ = some (.slice A l.length c) := (blk_cell h.cel 0).trans rfl
  have hy := blk_frozen h.cel 0
  clear hq hl
  go_enter Try.func9, Try.ntmps9
  go_wp2_with (first | (go_at_call 13; refine (tableTexts.find1 HT.out q k (rn : Int) HQ.out).mono ?_; rw [hno]; rintro e_ w1 ⟨rfl, hb⟩; have HW1 := Aside0.mk hb; have HB1 := Aside0.mk (below_then hB hB.size hb); have BK1 := Aside0.mk (blk_below HT.out.cel hb); clear hb hz hy; have hz1 : w1.cell? ⟨g, 0, none⟩ = some (.slice A l.length c) := (blk_cell BK1.out 0).trans rfl; have hy1 := blk_frozen BK1.out 0) | ((with_reducible refine gate_dst (N := 41) rfl ?_); refine XWords.R_make_c k68 (w0 := w0) w0.heap.size 68 rfl (N := 41) rfl 63 _ _ rfl 0 (wrap64 ((l.length : Int) + 1)) rfl rfl Try.underlying63 (.agg #[.string ⟨#[]⟩, .slice none 0 0]) 40 info68 rfl (by decide) (by omega) z68 (ok := fun _ => True) (okp := fun _ => True) (k68_mkM _ _ _ z68 (Kd.R_nil _ _ _ _ _)) (fun _ hk => hk) trivial (by omega) (by have e := HL.out; unfold wrap64; omega) (by have e := HL.out; have e2 : wrap64 ((l.length : Int) + 1) = (l.length : Int) + 1 := (by unfold wrap64; omega); rw [e2]; omega) HB1.out HB1.out.size ?_; intro v2 w2 ho hb hg hat; clear hz1 hy1; have HO2 : Aside0 (Kd.R k68 68 w2 w0.heap.size (fun _ => True) v2 []) := Aside0.mk ho; have HB2 := Aside0.mk hb; have BK2 := Aside0.mk (blk_grown BK1.out hg (by simp)); have HN2 := Aside0.mk (show ∀ b, v2.ownBlock = some b → w.heap.size ≤ b from fun b e_ => by obtain ⟨b', e', hge⟩ := hat; rw [e'] at e_; injection e_ with e_; have := HW1.out.size; omega); have HW2 := Aside0.mk (HW1.out.grown hg HW1.out.size (fun _ e_ => by cases e_)); clear ho hb hg hat; have hz2 : w2.cell? ⟨g, 0, none⟩ = some (.slice A l.length c) := (blk_cell BK2.out 0).trans rfl; have hy2 := blk_frozen BK2.out 0) | (at_builtin; refine Kd.R_append_rows k68 (Rr := k68.M w w0.heap.size (fun k_ => k_ < w.heap.size)) (w0 := w0) w0.heap.size rfl (.tmp 42) (.tmp 48) 63 68 (.agg #[.string ⟨#[]⟩, .slice none 0 0]) 40 rfl Try.underlying63 info68 rfl (by decide) (by omega) v2 ([] : List S68) (l.take rn) A rn c (fun _ => True) (fun k_ => k_ < w.heap.size) rfl rfl ?aO ?aR ?aK (fun k_ hk => ⟨trivial, fun e_ => Nat.not_lt.2 (HN2.out k_ e_.symm) hk⟩) ?aF ?aB ?aS ?aL ?_; (case aR => exact (tableTexts.rows_take (HR.out) HR1.out).imp_ HW2.out (fun _ _ hp => hp)); (case aK => intro x cs hp; exact Kd.M_below hp HW2.out); (case aB => exact HB2.out); (case aF => exact (fun _ _ => trivial)); (case aO => exact HO2.out); (case aS => exact HB2.out.size); (case aL => exact HL3.out); intro v3 w3 ho hb hg hat; clear hz2 hy2; have HO3 : Aside0 (Kd.R k68 68 w3 w0.heap.size (fun _ => True) v3 (l.take rn)) := Aside0.mk ho; have HB3 := Aside0.mk hb; have BK3 := Aside0.mk (blk_grown BK2.out hg (Kd.R_away (Kd.R_types HO2.out BK2.out (by decide)) (fun _ hk => hk.2))); have HN3 := Aside0.mk (tableTexts.newer HN2.out HW2.out.size hat); have HW3 := Aside0.mk (HW2.out.grown hg HW2.out.size HN2.out); clear ho hb hg hat; have hz3 : w3.cell? ⟨g, 0, none⟩ = some (.slice A l.length c) := (blk_cell BK3.out 0).trans rfl; have hy3 := blk_frozen BK3.out 0) | (at_builtin; refine Kd.R_append k68 (w0 := w0) w0.heap.size rfl (.tmp 50) (.tmp 54) 63 68 (.agg #[.string ⟨#[]⟩, .slice none 0 0]) 40 rfl Try.underlying63 info68 rfl (by decide) (by omega) v3 (l.take rn) (⟨k, z⟩ : S68) [.string k, .slice Az z.length cz] (fun _ => True) (fun k_ => k_ < w.heap.size) rfl rfl (k68_mkM _ _ _ ⟨k, z⟩ (Kd.R_below (Kd.R_mono (Kd.R_bound HZ.out) (fun k_ hk => hk.2.2.1)) HW3.out)) (fun k_ hk => ⟨trivial, fun e_ => Nat.not_lt.2 (HN3.out k_ e_.symm) hk⟩) ?aF ?aO ?aB ?aS ?aL ?_; (case aB => exact HB3.out); (case aF => exact (fun _ _ => trivial)); (case aO => exact HO3.out); (case aS => exact HB3.out.size); (case aL => exact HL4.out); intro v4 w4 ho hb hg hat; clear hz3 hy3; have HO4 : Aside0 (Kd.R k68 68 w4 w0.heap.size (fun _ => True) v4 (l.take rn ++ [(⟨k, z⟩ : S68)])) := Aside0.mk ho; have HB4 := Aside0.mk hb; have BK4 := Aside0.mk (blk_grown BK3.out hg (Kd.R_away (Kd.R_types HO3.out BK3.out (by decide)) (fun _ hk => hk.2))); have HN4 := Aside0.mk (tableTexts.newer HN3.out HW3.out.size hat); have HW4 := Aside0.mk (HW3.out.grown hg HW3.out.size HN3.out); clear ho hb hg hat; have hz4 : w4.cell? ⟨g, 0, none⟩ = some (.slice A l.length c) := (blk_cell BK4.out 0).trans rfl; have hy4 := blk_frozen BK4.out 0) | (at_builtin; refine Kd.R_append_rows k68 (Rr := k68.M w w0.heap.size (fun k_ => k_ < w.heap.size)) (w0 := w0) w0.heap.size rfl (.tmp 57) (.tmp 63) 63 68 (.agg #[.string ⟨#[]⟩, .slice none 0 0]) 40 rfl Try.underlying63 info68 rfl (by decide) (by omega) v4 (l.take rn ++ [(⟨k, z⟩ : S68)]) (l.drop rn) AD nD cD (fun _ => True) (fun k_ => k_ < w.heap.size) rfl rfl ?aO ?aR ?aK (fun k_ hk => ⟨trivial, fun e_ => Nat.not_lt.2 (HN4.out k_ e_.symm) hk⟩) ?aF ?aB ?aS ?aL ?_; (case aR => exact HRD.out.imp_ HW4.out (fun _ _ hp => hp)); (case aK => intro x cs hp; exact Kd.M_below hp HW4.out); (case aB => exact HB4.out); (case aF => exact (fun _ _ => trivial)); (case aO => exact HO4.out); (case aS => exact HB4.out.size); (case aL => exact HL5.out); intro v5 w5 ho hb hg hat; clear hz4 hy4; have HO5 : Aside0 (Kd.R k68 68 w5 w0.heap.size (fun _ => True) v5 (l.take rn ++ [(⟨k, z⟩ : S68)] ++ l.drop rn)) := Aside0.mk ho; have HB5 := Aside0.mk hb; have BK5 := Aside0.mk (blk_grown BK4.out hg (Kd.R_away (Kd.R_types HO4.out BK4.out (by decide)) (fun _ hk => hk.2))); have HN5 := Aside0.mk (tableTexts.newer HN4.out HW4.out.size hat); have HW5 := Aside0.mk (HW4.out.grown hg HW4.out.size HN4.out); clear ho hb hg hat; have hz5 : w5.cell? ⟨g, 0, none⟩ = some (.slice A l.length c) := (blk_cell BK5.out 0).trans rfl; have hy5 := blk_frozen BK5.out 0;  obtain ⟨A5, c5, e5⟩ := Kd.R_slice HO5.out; subst e5))
  go_ret
  exact ⟨A5, c5, rfl, tableTexts.tabset BK5.out HO5.out (by have e := HL5.out; have e2 := HND.out; have e3 := HR1.out; simp only [List.length_append, List.length_take, List.length_drop, List.length_cons, List.length_nil] at e ⊢; omega) (by simp only [List.length_append, List.length_take, List.length_drop, List.length_cons, List.length_nil]; omega), (tableTexts.Fr.of_below HW5.out).trans (tableTexts.Fr.set _ _ _), HB5.out.setCell hg0 _⟩
/-- Put, where the key stands. -/
theorem tableTexts.mid3 {w0 w w2 : World} {g b c2 rn : Nat} {old : Value} {l : List S68} (hB : Below w0.heap.size w0 w2) (hg0 : w0.heap.size ≤ g) (BK : w2.heap[g]? = some (.cells #[old] 65 (0, 0))) (HO : Kd.R k68 68 w2 w0.heap.size (fun _ => True) (.slice (some ⟨b, 0, none⟩) l.length c2) l) (HW : Below w.heap.size w w2)
    {Az : Option Addr} {cz : Nat} {z : List Int} (hz : Kd.R (Kd.int .i64) 3 w w0.heap.size (fun k_ => k_ < w.heap.size) (.slice Az z.length cz) z) (hr : rn < l.length) {csw : Array Value} (BKw : w.heap[g]? = some (.cells csw 65 (0, 0))) : ∀ w3, w3 = w2.setCell ⟨g, 0, none⟩ (.slice (some ⟨b, 0, none⟩) l.length c2) →
    Kd.R k68 68 w3 w0.heap.size (fun _ => True) (.slice (some ⟨b, 0, none⟩) l.length c2) l ∧ Below w0.heap.size w0 w3 ∧ w3.heap[g]? = some (.cells #[.slice (some ⟨b, 0, none⟩) l.length c2] 65 (0, 0)) ∧ tableTexts.Fr g w w3 ∧ Kd.R (Kd.int .i64) 3 w3 w0.heap.size (fun k_ => k_ < w.heap.size) (.slice Az z.length cz) z ∧
    ∃ v1, ∀ j u, [.string (rd_T68 l (rn : Int)).f0, v1][j]? = some u → w3.cell? ⟨b, (rn : Int).toNat * k68.sz + j, none⟩ = some u := by
  rintro w3 rfl
  have h1 : Kd.R k68 68 (w2.setCell ⟨g, 0, none⟩ (.slice (some ⟨b, 0, none⟩) l.length c2)) w0.heap.size (fun _ => True) (.slice (some ⟨b, 0, none⟩) l.length c2) l := Kd.R_mono (Kd.R_far (p := ⟨g, 0, none⟩) (Kd.R_types HO BK (by decide)) (fun _ hk => hk.2) _) (fun _ _ => trivial)
  have hF : tableTexts.Fr g w (w2.setCell ⟨g, 0, none⟩ (.slice (some ⟨b, 0, none⟩) l.length c2)) := (tableTexts.Fr.of_below HW).trans (tableTexts.Fr.set _ _ _)
  obtain ⟨c3, hc1, hc2, hc3, _⟩ := Kd.R_elem h1 z68 (rn : Int) (by omega) (by omega)
  obtain ⟨v1, hc4, _⟩ := k68_openM hc2
  subst hc4
  exact ⟨h1, hB.setCell hg0 _, by simpa using blk_set BK 0 (.slice (some ⟨b, 0, none⟩) l.length c2), hF, tableTexts.Fr.rowk hF BKw hz (by decide), v1, hc3⟩
theorem tableTexts.grownBlk {W W1 : World} {g b n c base : Nat} {cs : Array Value} {l : List S68} (BK : W.heap[g]? = some (.cells cs 65 (0, 0))) (HO : Kd.R k68 68 W base (fun _ => True) (.slice (some ⟨b, 0, none⟩) n c) l) (hg : W.grownBy W1 (some b)) : W1.heap[g]? = some (.cells cs 65 (0, 0)) :=
  blk_grown BK (by simpa [Value.ownBlock] using hg) (Kd.R_away (Kd.R_types HO BK (by decide)) (fun _ hk => hk.2))
theorem tableTexts.putY {w0 w : World} {g : Nat} {l : List S68} {ad : Addr} {c : Nat} (hB : Below w0.heap.size w0 w) (hg0 : w0.heap.size ≤ g) (h : tableTexts.Tab w w0.heap.size g l (some ad) c) (q : Nat) (k : ByteArray) (rn : Nat) (hq : tableTexts.bs l k q 0 (l.length : Int) = some (rn : Int)) (hr1 : rn < l.length)
    (hyes : (decide ((rn : Int) < (l.length : Int)) && tableTexts.cs (rd_T68 l (rn : Int)).f0 k == 0) = true) (Az : Option Addr) (cz : Nat) (z : List Int) (hz : Kd.R (Kd.int .i64) 3 w w0.heap.size (fun _ => True) (.slice Az z.length cz) z) (hl : l.length * 40 ≤ 140737488355328) :
    Calls Try.prog 9 #[.pointer (some ⟨g, 0, none⟩), .string k, .slice Az z.length cz] w fun e w' => ∃ (A' : Option Addr) (c' : Nat), e = .returned (.bool true) ∧ tableTexts.Tab w' w0.heap.size g (l.set rn ⟨(rd_T68 l (rn : Int)).f0, z⟩) A' c' ∧ tableTexts.Fr g w w' ∧ Below w0.heap.size w0 w' := by
  have HT := Aside0.mk h
  have HQ := Aside0.mk hq
  have HL := Aside0.mk hl
  have HZB := Aside0.mk (Kd.R_mono (Kd.R_bound hz) (fun k_ hk => hk.2.2.1) : Kd.R (Kd.int .i64) 3 w w0.heap.size (fun k_ => k_ < w.heap.size) (.slice Az z.length cz) z)
  have HI := Aside0.mk hr1
  have i0 : decide (0 ≤ (rn : Int)) = true := decide_eq_true (by omega)
  have i1 : decide ((rn : Int) < (l.length : Int)) = true := decide_eq_true (by omega)
  have i2 : decide (rn < l.length) = true := decide_eq_true hr1
  have i3 : (rn < l.length) = True := eq_true hr1
  clear hl
  have hz : w.cell? ⟨g, 0, none⟩ = some (.slice (some ad) l.length c) := (blk_cell h.cel 0).trans rfl
  have hy := blk_frozen h.cel 0
  clear hq
  have HOFF := Aside0.mk (show rn * 2 + 1 = (rn : Int).toNat * k68.sz + 1 by rw [Int.toNat_natCast]; rfl)
  go_enter Try.func9, Try.ntmps9
  go_wp2_with (first | (go_at_call 13; refine (tableTexts.find1 HT.out q k (rn : Int) HQ.out).mono ?_; rw [hyes]; rintro e_ w1 ⟨rfl, hb⟩; have HW1 := Aside0.mk hb; have HB1 := Aside0.mk (below_then hB hB.size hb); have BK1 := Aside0.mk (blk_below HT.out.cel hb); clear hb hz hy; have hz1 : w1.cell? ⟨g, 0, none⟩ = some (.slice (some ad) l.length c) := (blk_cell BK1.out 0).trans rfl; have hy1 := blk_frozen BK1.out 0) | (go_at_call 28; go_loud (refine (tableTexts.clone1 HB1.out (Kd.R_below HT.out.row HW1.out) HL.out).mono ?_; rintro e_ w2 ⟨v2, rfl, ho, ⟨b, hv, hnew⟩, hb⟩; obtain ⟨b2, c2, rfl, _, _, _⟩ := Kd.R_form ho (by have := HI.out; omega); have hv2 : b2 = b := (by simpa [Value.ownBlock] using hv); subst hv2; have HO2 := Aside0.mk ho; have HN2 := Aside0.mk (show w.heap.size ≤ b2 from Nat.le_trans HW1.out.size hnew); have HB2 := Aside0.mk (below_then HB1.out HB1.out.size hb); have HW2 := Aside0.mk (below_then HW1.out HW1.out.size hb); have BK2 := Aside0.mk (blk_below BK1.out hb); clear hb hnew hv ho hz1 hy1; have hz2 : w2.cell? ⟨g, 0, none⟩ = some (.slice (some ad) l.length c) := (blk_cell BK2.out 0).trans rfl; have hy2 := blk_frozen BK2.out 0)) | ((with_reducible refine gate_store (p := 26) rfl ?_); go_loud (refine store_event ?hg (t := 63) (p := 26) (v := .tmp 24) (w1 := w2.setCell ⟨g, 0, none⟩ (.slice (some ⟨b2, 0, none⟩) l.length c2)) ?ho ?hN ?hr ?_); (case ho => rfl); (case hN => rfl); (case hg => rfl); (case hr => first | (go_simp; done) | (go_simp; rfl)); intro w3 e3; obtain ⟨hO3, hB3, hBK3, hF3, hZ3, v1, hC3⟩ := tableTexts.mid3 HB2.out hg0 BK2.out HO2.out HW2.out HZB.out HI.out HT.out.cel w3 e3; have HO3 := Aside0.mk hO3; have HB3 := Aside0.mk hB3; have BK3 := Aside0.mk hBK3; have HF3 := Aside0.mk hF3; have HZ3 := Aside0.mk hZ3; have HC3 := Aside0.mk hC3; clear e3 hz2 hy2 hO3 hB3 hBK3 hF3 hZ3 hC3; have hz3 : w3.cell? ⟨g, 0, none⟩ = some (.slice (some ⟨b2, 0, none⟩) l.length c2) := (blk_cell BK3.out 0).trans rfl; have hy3 := blk_frozen BK3.out 0) | ((with_reducible refine gate_store (p := 34) rfl ?_); go_must (refine Kd.R_store k68 (w0 := w0) w0.heap.size rfl rfl 25 (.tmp 34) (.tmp 32) rfl 68 (rn : Int) 1 l (⟨(rd_T68 l (rn : Int)).f0, z⟩ : S68) (.slice Az z.length cz) [.slice Az z.length cz] [.string (rd_T68 l (rn : Int)).f0, v1] (fun _ => True) (fun k_ => k_ < w.heap.size) rfl ?s2 rfl rfl ?s5 ?s6 HO3.out ?s7 ?s8 rfl HC3.out ?s11 ?s12 ?s13 HB3.out ?_; (case s2 => exact HOFF.out); (case s5 => kernel_rfl); (case s6 => intro q_ hq; simp at hq; subst hq; rfl); (case s7 => omega); (case s8 => have := HI.out; omega); (case s11 => exact Nat.le_refl 2); (case s12 => exact k68_mkM _ _ _ (⟨(rd_T68 l (rn : Int)).f0, z⟩ : S68) HZ3.out); (case s13 => exact (fun k_ hk => ⟨trivial, fun e_ => by have := HN2.out; omega⟩)); intro w4 ho hb hg; have HO4 := Aside0.mk ho; have HB4 := Aside0.mk hb; have HG4 := Aside0.mk hg; clear ho hb hg)))
  go_ret
  have hBK := tableTexts.grownBlk BK3.out HO3.out HG4.out
  exact ⟨some ⟨b2, 0, none⟩, c2, rfl, ⟨by rw [List.length_set]; exact hBK, by rw [List.length_set]; exact HO4.out, by rw [List.length_set]; exact h.len⟩, HF3.out.grown HG4.out HN2.out, HB4.out⟩
/-- walk's closure: what a round is given. -/
def tableTexts.en (x : ByteArray × (Option Addr × (Nat × Nat))) : Array Value := #[.string x.1, .slice x.2.1 x.2.2.1 x.2.2.2]
def tableTexts.d0 : ByteArray × (Option Addr × (Nat × Nat)) := (⟨#[]⟩, none, 0, 0)
theorem tableTexts.take_succ {α : Type} (d : α) (vs : List α) (k : Nat) (h : k < vs.length) : vs.take (k + 1) = vs.take k ++ [vs.getD k d] := by
  rw [List.take_add_one, List.getD_eq_getElem?_getD, List.getElem?_eq_getElem h]
  rfl
theorem tableTexts.meas (k len : Nat) (h : k < len) (e : wrap64 ((k : Int) + 1) = (k : Int) + 1) : len - (intOf (.int .i64 (wrap64 ((k : Int) + 1)))).toNat < len - (intOf (.int .i64 (k : Int))).toNat := by
  rw [e]
  show len - ((k : Int) + 1).toNat < len - ((k : Int)).toNat
  omega
theorem tableTexts.iter1 (F : Fence) (n : Nat) (h47 : F.fn 47) (hro : F.round = none) (hn : 1 ≤ n) (l Bs n₀ : Nat) (ad : Addr) (A : Option Addr) (len cap : Nat) (hAd : 0 < len → A = some ad) (vs : List (ByteArray × (Option Addr × (Nat × Nat)))) (hlen : vs.length = len) (hreach : len ≤ 4611686018427387904) (hb : 0 < len → ad.block < n₀) (J Jx : List (ByteArray × (Option Addr × (Nat × Nat))) → World → Prop)
    (hY : ∀ pre x W, J pre W → pre.length < len → YieldAt F (n - 1) Try.prog l (tableTexts.en x) W fun e W' =>
      (e = .returned (.bool true) ∧ J (pre ++ [x]) W' ∧ Below n₀ W W') ∨ (e = .returned (.bool false) ∧ Jx (pre ++ [x]) W'))
    (W : World) (hn0 : n₀ ≤ W.heap.size) (hA : AbidesFrom W.heap.size J) (hBs : W.cell? ⟨Bs, 0, none⟩ = some (.slice A len cap)) (hBb : Bs < n₀)
    (hc : ∀ j, j < len → W.cell? (ad.add (j * 2)) = some (.string (vs.getD j tableTexts.d0).1) ∧ W.cell? ⟨(ad.add (j * 2)).block, (ad.add (j * 2)).off + 1, none⟩ = some (.slice (vs.getD j tableTexts.d0).2.1 (vs.getD j tableTexts.d0).2.2.1 (vs.getD j tableTexts.d0).2.2.2)) (h0 : J [] W) :
    CallsIn F n Try.prog 47 #[.func (.yield l) #[] #[], .pointer (some ⟨Bs, 0, none⟩)] W fun e W' => (∃ v, e = .returned v) ∧
      ((∃ ys, ys = vs ∧ J ys W') ∨ (∃ pre, (∃ k, 0 < k ∧ k ≤ len ∧ pre = vs.take k) ∧ Jx pre W')) := by
  have HY := Aside0.mk hY
  have HC := Aside0.mk hc
  have HA := Aside0.mk hA
  have HL := Aside0.mk hlen
  have HR := Aside0.mk hreach
  clear hY hc hA hlen hreach
  refine callsIn_of_wp Try.func47 rfl h47 ?_ hro
  simp only [Try.ntmps47, List.size_toArray, List.length_cons, List.length_nil, Nat.reduceAdd, Nat.reduceSub, Array.replicate_succ, Array.replicate_zero, List.push_toArray, List.append_toArray, List.nil_append, List.cons_append]
  gi_wp2
  gi_loopw [4, 7] (fun p i wr => ∃ k : Nat, k ≤ len ∧ i = .int .i64 k ∧ J (vs.take k) wr ∧ Below n₀ W wr)
    (fun p i _ => len - (intOf i).toNat)
  case atStart => exact ⟨0, Nat.zero_le _, rfl, h0, Below.refl _ _⟩
  case round =>
    obtain ⟨k, hk, rfl, hJs, hnx⟩ := hrel
    by_cases hlt : k < len
    · obtain rfl : A = some ad := hAd (by omega)
      replace hb := hb (by omega)
      have hcx := HC.out k hlt
      obtain ⟨hc0, hc1⟩ := hcx
      replace hc0 := (hnx.cell (p := ad.add (k * 2)) (by rw [add_block]; exact hb)).trans hc0
      replace hc1 := (hnx.cell (p := ⟨(ad.add (k * 2)).block, (ad.add (k * 2)).off + 1, none⟩) (by show (ad.add (k * 2)).block < n₀; rw [add_block]; exact hb)).trans hc1
      have ets := tableTexts.take_succ tableTexts.d0 vs k (by have := HL.out; omega)
      generalize vs.getD k tableTexts.d0 = x at hc0 hc1 ets
      obtain ⟨x0, x1, x2, x3⟩ := x
      have HW := Aside0.mk (show wrap64 ((k : Int) + 1) = (k : Int) + 1 by have := HR.out; unfold wrap64; omega)
      have HM := Aside0.mk (tableTexts.meas k len hlt HW.out)
      obtain ⟨W2, hW2⟩ : ∃ W2, wr.alloc (.cells #[.string x0, .slice x1 x2 x3] 68) = W2 := ⟨_, rfl⟩
      have hJ2 : J (vs.take k) W2 := HA.out _ wr W2 none hJs (by rw [← hW2]; exact World.grownBy_alloc wr _ none) (fun r e => by cases e)
      have hnx2 : Below n₀ W W2 := by rw [← hW2]; exact hnx.alloc (Nat.le_trans hn0 hnx.size) _
      obtain ⟨fn, tmps, assign, body, hy, hR⟩ := HY.out _ (x0, x1, x2, x3) W2 hJ2 (by rw [List.length_take]; have := HL.out; omega)
      simp only [tableTexts.en] at hy
      rw [← hW2] at hy
      have HW2 := Aside0.mk hW2
      clear hW2
      have i1 : decide (k < len) = true := decide_eq_true hlt
      dsimp only at hc0 hc1
      gi_wp2
      rw [HW2.out]
      refine hR.mono ?_
      rintro e W3 (⟨rfl, hJ3, hk3⟩ | ⟨rfl, hJx3⟩)
      · rw [← ets] at hJ3
        clear ets
        gi_wp2
        go_roundw
        case rel => exact ⟨k + 1, by omega, by rw [HW.out]; rfl, hJ3, hnx2.trans hk3⟩
        case measure => exact HM.out
      · rw [← ets] at hJx3
        clear ets
        gi_wp2
        refine bodyPost_ret (results_none rfl _ _ _) rfl ?_
        exact ⟨⟨_, rfl⟩, .inr ⟨_, ⟨k + 1, by omega, by omega, rfl⟩, hJx3⟩⟩
    · obtain rfl : k = len := by omega
      gi_wp2
      go_end0
      have e : vs.take k = vs := List.take_of_length_le (by have := HL.out; omega)
      rw [e] at hJs
      exact ⟨⟨_, rfl⟩, .inl ⟨_, rfl, hJs⟩⟩
theorem tableTexts.stops1 (F : Fence) (n : Nat) (h47 : F.fn 47) (hro : F.round = none) (hn : 1 ≤ n) (Bs : Nat) (ad : Addr) (A : Option Addr) (len cap : Nat) (hAd : 0 < len → A = some ad) (vs : List (ByteArray × (Option Addr × (Nat × Nat)))) (hlen : vs.length = len) (hreach : len ≤ 4611686018427387904) (w : World) (hb : 0 < len → ad.block < w.heap.size)
    (hBs : w.cell? ⟨Bs, 0, none⟩ = some (.slice A len cap))
    (hc : ∀ W, Below w.heap.size w W → ∀ j, j < len → W.cell? (ad.add (j * 2)) = some (.string (vs.getD j tableTexts.d0).1) ∧ W.cell? ⟨(ad.add (j * 2)).block, (ad.add (j * 2)).off + 1, none⟩ = some (.slice (vs.getD j tableTexts.d0).2.1 (vs.getD j tableTexts.d0).2.2.1 (vs.getD j tableTexts.d0).2.2.2)) :
    SeqStopsK F n Try.prog 47 #[.pointer (some ⟨Bs, 0, none⟩)] tableTexts.en (Below w.heap.size) (fun ys => ys = vs) (fun pre => ∃ k, 0 < k ∧ k ≤ len ∧ pre = vs.take k) len w := fun l J Jx W hW hA _ hY h0 =>
  tableTexts.iter1 F n h47 hro hn l Bs w.heap.size ad A len cap hAd vs hlen hreach hb J Jx hY W hW.size hA ((hW.cell (p := ⟨Bs, 0, none⟩) (World.block_lt_of_cell? w _ hBs)).trans hBs) (World.block_lt_of_cell? w _ hBs) (hc W hW) h0
/-- What each place has, as a list. -/
theorem tableTexts.listOf {α : Type} (d : α) (P : Nat → α → Prop) : ∀ n : Nat, (∀ j, j < n → ∃ y, P j y) → ∃ vs : List α, vs.length = n ∧ ∀ j, j < n → P j (vs.getD j d)
  | 0, _ => ⟨[], rfl, fun _ h => absurd h (Nat.not_lt_zero _)⟩
  | n + 1, h => by
    obtain ⟨vs, hl, hv⟩ := tableTexts.listOf d P n (fun j hj => h j (by omega))
    obtain ⟨y, hy⟩ := h n (Nat.lt_succ_self n)
    refine ⟨vs ++ [y], by simp [hl], fun j hj => ?_⟩
    by_cases e : j < n
    · rw [List.getD_eq_getElem?_getD, List.getElem?_append_left (by omega), ← List.getD_eq_getElem?_getD]
      exact hv j e
    · obtain rfl : j = n := by omega
      rw [List.getD_eq_getElem?_getD, List.getElem?_append_right (by omega), hl]
      simpa using hy
theorem tableTexts.walk1 (A : Option Addr) (n c : Nat) (w : World) : Calls Try.prog 42 #[.slice A n c] w fun e w' => ∃ gb, e = .returned (.func (.func 47) #[] #[.pointer (some ⟨gb, 0, none⟩)]) ∧ w'.heap[gb]? = some (.cells #[.slice A n c] 63 (0, 0)) ∧ w.heap.size ≤ gb ∧ Below w.heap.size w w' := by
  go_enter Try.func42, Try.ntmps42
  go_wp2_with ((with_reducible refine gate_dst (N := 1) rfl ?_); refine box_event ?hg (N := 1) ?hd (cs := #[.slice A n c]) (t := 63) ?hr ?_; (case hd => rfl); (case hg => rfl); (case hr => first | (go_simp; done) | (go_simp; rfl)); intro gb hg w1 hbox hb; have hge : w.heap.size ≤ gb := (by omega); clear hg)
  go_ret
  exact ⟨gb, rfl, hbox, hge, hb⟩
theorem tableTexts.from1 {w : World} {base g : Nat} {l : List S68} {A : Option Addr} {c : Nat} (h : tableTexts.Tab w base g l A c) (q : Nat) (k : ByteArray) (rn : Nat) (hq : tableTexts.bs l k q 0 (l.length : Int) = some (rn : Int)) (hr1 : rn ≤ l.length) :
    Calls Try.prog 29 #[.pointer (some ⟨g, 0, none⟩), .string k] w fun e w' => ∃ (gb : Nat) (AD : Option Addr) (cD : Nat), e = .returned (.func (.func 47) #[] #[.pointer (some ⟨gb, 0, none⟩)]) ∧ w'.heap[gb]? = some (.cells #[.slice AD (l.length - rn) cD] 63 (0, 0)) ∧ w.heap.size ≤ gb ∧ ReadsRow (k68.M w base (fun k_ => k_ < w.heap.size)) 2 w AD (l.length - rn) (l.drop rn) ∧ Below w.heap.size w w' := by
  have info68 := tableTexts.info68
  obtain ⟨i0, hi0, _, hsz0, _⟩ := info_parts info68
  have HT := Aside0.mk h
  have HQ := Aside0.mk hq
  have HC := Aside0.mk (Kd.R_reads' h.row).2.1
  have hcD := cut_from (P := Try.prog) 63 68 .i64 Try.underlying63 hi0 2 hsz0 A l.length c (rn : Int) (by omega) (by omega)
  have hRD := tableTexts.rows_drop (m := rn) (c := c) (tableTexts.rows h.row) hr1 HC.out
  rw [Int.toNat_natCast] at hcD
  generalize (if c = rn then A else A.map (·.add (rn * 2))) = AD at hcD hRD
  generalize hnD : l.length - rn = nD at hcD hRD ⊢
  generalize c - rn = cD at hcD
  have HRD := Aside0.mk hRD
  generalize hbb : (decide ((rn : Int) < (l.length : Int)) && tableTexts.cs (rd_T68 l (rn : Int)).f0 k == 0) = bb
  clear hRD hnD hr1
  have hz : w.cell? ⟨g, 0, none⟩ = some (.slice A l.length c) := (blk_cell h.cel 0).trans rfl
  have hy := blk_frozen h.cel 0
  clear hq
  go_enter Try.func29, Try.ntmps29
  go_wp2_with (first | (go_at_call 13; refine (tableTexts.find1 HT.out q k (rn : Int) HQ.out).mono ?_; rw [hbb]; rintro e_ w1 ⟨rfl, hb⟩; have HW1 := Aside0.mk hb; have BK1 := Aside0.mk (blk_below HT.out.cel hb); clear hb hz hy; have hz1 : w1.cell? ⟨g, 0, none⟩ = some (.slice A l.length c) := (blk_cell BK1.out 0).trans rfl; have hy1 := blk_frozen BK1.out 0) | (go_at_call 42; refine (tableTexts.walk1 AD nD cD _).mono ?_; rintro e_ w2 ⟨gb, rfl, h1, h2, hb⟩; have H1 := Aside0.mk h1; have H2 := Aside0.mk h2; have HB2 := Aside0.mk hb; clear h1 h2 hb))
  go_ret
  exact ⟨gb, AD, cD, rfl, H1.out, Nat.le_trans HW1.out.size H2.out, HRD.out, below_then HW1.out HW1.out.size HB2.out⟩
theorem tableTexts.below_put {B : Nat} {w W : World} (h : Below B w W) (hB : B ≤ W.heap.size) {r : Nat} (hr : B ≤ r) (o : Obj) : Below B w (W.putObj r o) := h.grown (grownBy_putObj' _ r o) hB (fun k hk => by cases hk; exact hr)
attribute [local go_sem] Oper.semAt_some
theorem tableTexts.getRow {w0 w : World} {base : Nat} {l : List S68} {AD : Option Addr} {rn nD : Nat} (h : ReadsRow (k68.M w base (fun k_ => k_ < w.heap.size)) 2 w AD nD (l.drop rn)) (hp : 0 < nD) (hl : rn + nD = l.length) (hb : Below w.heap.size w w0) : ∃ (ad : Addr) (vs : List (ByteArray × (Option Addr × (Nat × Nat)))), AD = some ad ∧ ad.block < w.heap.size ∧ vs.length = nD ∧ (∀ j, j < nD → (vs.getD j tableTexts.d0).1 = (rd_T68 l ((rn + j : Nat) : Int)).f0) ∧ ∀ W, Below w.heap.size w W → ∀ j, j < nD → W.cell? (ad.add (j * 2)) = some (.string (vs.getD j tableTexts.d0).1) ∧ W.cell? ⟨(ad.add (j * 2)).block, (ad.add (j * 2)).off + 1, none⟩ = some (.slice (vs.getD j tableTexts.d0).2.1 (vs.getD j tableTexts.d0).2.2.1 (vs.getD j tableTexts.d0).2.2.2) := by
  obtain ⟨ad, rfl, hc⟩ := h.2.2 hp
  have hcell : ∀ j, j < nD → ∃ y : ByteArray × (Option Addr × (Nat × Nat)), y.1 = (rd_T68 l ((rn + j : Nat) : Int)).f0 ∧ w.cell? (ad.add (j * 2)) = some (.string y.1) ∧ w.cell? ⟨(ad.add (j * 2)).block, (ad.add (j * 2)).off + 1, none⟩ = some (.slice y.2.1 y.2.2.1 y.2.2.2) := by
    intro j hj
    have hlt : rn + j < l.length := by omega
    obtain ⟨cs, h1, h2, h3⟩ := hc j (l[rn + j]'hlt) (by rw [List.getElem?_drop]; exact List.getElem?_eq_getElem hlt)
    obtain ⟨v1, rfl, g1⟩ := k68_openM h2
    obtain ⟨A1, c1, rfl⟩ := Kd.R_slice g1
    have e : rd_T68 l ((rn + j : Nat) : Int) = l[rn + j]'hlt := by
      unfold rd_T68
      rw [Int.toNat_natCast, List.getD_eq_getElem?_getD, List.getElem?_eq_getElem hlt]
      rfl
    refine ⟨((l[rn + j]'hlt).f0, A1, (l[rn + j]'hlt).f1.length, c1), by rw [e], ?_, ?_⟩
    · exact h3 0 _ rfl
    · rw [← add_field _ _ 1 (by omega)]
      exact h3 1 _ rfl
  obtain ⟨vs, hvl, hv⟩ := tableTexts.listOf tableTexts.d0 _ nD hcell
  have hblk : ad.block < w.heap.size := by
    have := World.block_lt_of_cell? w _ (hv 0 hp).2.1
    rwa [add_block] at this
  refine ⟨ad, vs, rfl, hblk, hvl, fun j hj => (hv j hj).1, fun W hW j hj => ⟨?_, ?_⟩⟩
  · exact (hW.cell (p := ad.add (j * 2)) (by rw [add_block]; exact hblk)).trans (hv j hj).2.1
  · exact (hW.cell (p := ⟨(ad.add (j * 2)).block, (ad.add (j * 2)).off + 1, none⟩) (by show (ad.add (j * 2)).block < _; rw [add_block]; exact hblk)).trans (hv j hj).2.2
theorem tableTexts.getRow0 {w w1 : World} {base : Nat} {l : List S68} {AD : Option Addr} {rn : Nat} (h : ReadsRow (k68.M w base (fun k_ => k_ < w.heap.size)) 2 w AD (l.length - rn) (l.drop rn)) (hr : rn ≤ l.length) (hb : Below w.heap.size w w1) : ∃ (ad : Addr) (vs : List (ByteArray × (Option Addr × (Nat × Nat)))), (0 < l.length - rn → AD = some ad) ∧ (0 < l.length - rn → ad.block < w1.heap.size) ∧ vs.length = l.length - rn ∧ (∀ j, j < l.length - rn → (vs.getD j tableTexts.d0).1 = (rd_T68 l ((rn + j : Nat) : Int)).f0) ∧ ∀ W, Below w1.heap.size w1 W → ∀ j, j < l.length - rn → W.cell? (ad.add (j * 2)) = some (.string (vs.getD j tableTexts.d0).1) ∧ W.cell? ⟨(ad.add (j * 2)).block, (ad.add (j * 2)).off + 1, none⟩ = some (.slice (vs.getD j tableTexts.d0).2.1 (vs.getD j tableTexts.d0).2.2.1 (vs.getD j tableTexts.d0).2.2.2) := by
  by_cases hp : 0 < l.length - rn
  · obtain ⟨ad, vs, h1, h2, h3, h4, h5⟩ := tableTexts.getRow h hp (by omega) hb
    exact ⟨ad, vs, fun _ => h1, fun _ => Nat.lt_of_lt_of_le h2 hb.size, h3, h4, fun W hW => h5 W (below_step hb hW)⟩
  · exact ⟨⟨0, 0, none⟩, [], fun h => absurd h hp, fun h => absurd h hp, by simp; omega, fun j hj => absurd hj (by omega), fun W _ j hj => absurd hj (by omega)⟩
theorem tableTexts.tl (x k : ByteArray) (h : x ≠ k) : (x.toList == k.toList) = false := by
  rw [ByteArray.toList_eq, ByteArray.toList_eq]
  exact beq_eq_false_iff_ne.2 (fun e => h (by cases x; cases k; exact congrArg ByteArray.mk (Array.toList_inj.1 e)))
theorem tableTexts.get1 {w : World} {base g : Nat} {l : List S68} {A : Option Addr} {c : Nat} (h : tableTexts.Tab w base g l A c) (q : Nat) (k : ByteArray) (rn : Nat) (hq : tableTexts.bs l k q 0 (l.length : Int) = some (rn : Int)) (hr1 : rn ≤ l.length) :
    Calls Try.prog 10 #[.pointer (some ⟨g, 0, none⟩), .string k] w fun e w' => ∃ v : Value, e = .returned (.tuple #[v, .bool (decide (rn < l.length ∧ (rd_T68 l (rn : Int)).f0 = k))]) ∧ Below w.heap.size w w' := by
  refine (callsIn_wide (n := 10)).mp ?_
  refine callsIn_of_wp_marks Try.func10 rfl trivial ?_ rfl
  simp only [Try.ntmps10, List.size_toArray, List.length_cons, List.length_nil, Nat.reduceAdd, Nat.reduceSub, Array.replicate_succ, Array.replicate_zero, List.push_toArray, List.append_toArray, List.nil_append, List.cons_append]
  obtain ⟨W0, hW0⟩ : ∃ W0, ((w.alloc (.cells #[.string k] 9)).alloc (.cells #[.slice none 0 0] 25)).alloc (.cells #[.bool false] 4) = W0 := ⟨_, rfl⟩
  have hs0 : W0.heap.size = w.heap.size + 3 := by rw [← hW0]; simp
  have hB0 : Below w.heap.size w W0 := by rw [← hW0]; exact (((Below.refl _ w).alloc (Nat.le_refl _) _).alloc (by simp) _).alloc (by simp; omega) _
  have hBk : W0.heap[w.heap.size]? = some (.cells #[.string k] 9 (0, 0)) := by
    rw [← hW0]; exact ((Below.heap_alloc _ _ _ (by simp; omega)).trans (Below.heap_alloc _ _ _ (by simp))).trans (World.alloc_heap_new w _)
  have ck : W0.cell? ⟨w.heap.size, 0, none⟩ = some (.string k) := (blk_cell hBk 0).trans rfl
  have dk := blk_frozen hBk 0
  have hB1 : W0.heap[w.heap.size + 1]? = some (.cells #[.slice none 0 0] 25 (0, 0)) := by
    rw [← hW0]; refine (Below.heap_alloc _ _ _ (by simp)).trans ?_
    have := World.alloc_heap_new (w.alloc (.cells #[.string k] 9)) (.cells #[.slice none 0 0] 25); rwa [World.size_alloc] at this
  have hB2 : W0.heap[w.heap.size + 1 + 1]? = some (.cells #[.bool false] 4 (0, 0)) := by
    rw [← hW0]; have := World.alloc_heap_new ((w.alloc (.cells #[.string k] 9)).alloc (.cells #[.slice none 0 0] 25)) (.cells #[.bool false] 4); rwa [World.size_alloc, World.size_alloc] at this
  have HT := Aside0.mk (show tableTexts.Tab W0 base g l A c from ⟨blk_below h.cel hB0, Kd.R_below h.row hB0, h.len⟩)
  have HQ := Aside0.mk hq
  have HR := Aside0.mk hr1
  have h29 : Fence.wide.fn 29 := trivial
  gi_wp2_with (gi_at_call 29; refine (callsIn_wide.mpr (tableTexts.from1 HT.out q k rn HQ.out HR.out)).mono ?_; rintro e w' ⟨gb, AD, cD, rfl, h1, h2, h3, h4⟩)
  have hsz := h3
  have hlt0 : W0.heap.size ≤ w'.heap.size := h4.size
  obtain ⟨ad, vs, hAd, hblk, hvl, hv1, hvc⟩ := tableTexts.getRow0 h3 HR.out h4
  have hBg : w'.cell? ⟨gb, 0, none⟩ = some (.slice AD (l.length - rn) cD) := (blk_cell h1 0).trans rfl
  have k1 := blk_below hB1 h4
  have k2 := blk_below hB2 h4
  have hBw : Below w.heap.size w w' := below_then hB0 hB0.size h4
  have hLR : l.length - rn ≤ 4611686018427387904 := by have := HT.out.len; omega
  refine wpIn_rangeFunc_ownG rfl (by omega) (gf := 47) (lb := #[.pointer (some ⟨gb, 0, none⟩)]) rfl trivial (enters_of Try.func47 (by kernel_rfl) rfl)
    (tableTexts.stops1 Fence.wide (10 - 1) trivial rfl (by omega) gb ad AD (l.length - rn) cD hAd vs hvl hLR w' hblk hBg hvc) belowK_t (belowK_b (Nat.le_refl _)) (Below.refl _ _) (fun _ => rfl)
    (fun pre W => pre = [] ∧ (W.heap[w.heap.size + 1]? = some (.cells #[.slice none 0 0] 25 (0, 0)) ∧ W.heap[w.heap.size + 1 + 1]? = some (.cells #[.bool false] 4 (0, 0)) ∧ W.heap[w.heap.size]? = some (.cells #[.string k] 9 (0, 0))) ∧ Below w.heap.size w W)
    (fun cc pre W => (∃ x : ByteArray × (Option Addr × (Nat × Nat)), pre = [x] ∧ ((cc = .ret ∧ x.1 = k ∧ W.heap[w.heap.size + 1]? = some (.cells #[.slice x.2.1 x.2.2.1 x.2.2.2] 25 (0, 0)) ∧ W.heap[w.heap.size + 1 + 1]? = some (.cells #[.bool true] 4 (0, 0))) ∨ (cc = .exit 0 ∧ x.1 ≠ k ∧ W.heap[w.heap.size + 1]? = some (.cells #[.slice none 0 0] 25 (0, 0)) ∧ W.heap[w.heap.size + 1 + 1]? = some (.cells #[.bool false] 4 (0, 0))))) ∧ Below w.heap.size w W)
    ?hI ?hIx ⟨rfl, ⟨k1, k2, blk_below hBk h4⟩, hBw⟩
    (fun x => { tmps := #[.pointer (some ⟨g, 0, none⟩), .string k, undef, .pointer (some ⟨w.heap.size, 0, none⟩), .pointer (some ⟨w.heap.size + 1, 0, none⟩), .pointer (some ⟨w.heap.size + 1 + 1, 0, none⟩), .string x.1, .slice x.2.1 x.2.2.1 x.2.2.2, undef, .pointer (some ⟨g, 0, none⟩), .string k, .func (.func 47) #[] #[.pointer (some ⟨gb, 0, none⟩)], .string x.1, .slice x.2.1 x.2.2.1 x.2.2.2, undef, undef, undef, undef, undef], defers := [] }) ?assign ?body ?done ?stop
  case hI =>
    exact fun s X Y row ⟨e1, ⟨e2, e3, e4⟩, e5⟩ hg hr => ⟨e1, ⟨(grownBy_keeps_cells hg (fun r e => (hr r e).2) e2 rfl).trans e2, (grownBy_keeps_cells hg (fun r e => (hr r e).2) e3 rfl).trans e3, (grownBy_keeps_cells hg (fun r e => (hr r e).2) e4 rfl).trans e4⟩, e5.grown hg e5.size (fun k_ e => Nat.le_trans hBw.size (hr k_ e).1)⟩
  case hIx =>
    intro cc s X Y row hs hg hr
    obtain ⟨⟨x, ex, hx⟩, e5⟩ := hs
    refine ⟨⟨x, ex, ?_⟩, e5.grown hg e5.size (fun k_ e => Nat.le_trans hBw.size (hr k_ e).1)⟩
    rcases hx with ⟨e1, e2, e3, e4⟩ | ⟨e1, e2, e3, e4⟩
    · exact .inl ⟨e1, e2, (grownBy_keeps_cells hg (fun r e => (hr r e).2) e3 rfl).trans e3, (grownBy_keeps_cells hg (fun r e => (hr r e).2) e4 rfl).trans e4⟩
    · exact .inr ⟨e1, e2, (grownBy_keeps_cells hg (fun r e => (hr r e).2) e3 rfl).trans e3, (grownBy_keeps_cells hg (fun r e => (hr r e).2) e4 rfl).trans e4⟩
  case assign =>
    intro l x W K hK
    obtain ⟨x0, x1, x2, x3⟩ := x
    simp only [tableTexts.en]
    gi_wp2
    exact hK
  case body =>
    rintro l_ pre x W ⟨rfl, ⟨m1, m2, m0⟩, hB⟩ _
    obtain ⟨x0, x1, x2, x3⟩ := x
    dsimp only
    have c0 : W.cell? ⟨w.heap.size, 0, none⟩ = some (.string k) := (blk_cell m0 0).trans rfl
    have d0_ := blk_frozen m0 0
    have c1 : W.cell? ⟨w.heap.size + 1, 0, none⟩ = some (.slice none 0 0) := (blk_cell m1 0).trans rfl
    have d1 := blk_frozen m1 0
    have c2 : W.cell? ⟨w.heap.size + 1 + 1, 0, none⟩ = some (.bool false) := (blk_cell m2 0).trans rfl
    have d2 := blk_frozen m2 0
    have l1 : w.heap.size + 1 < W.heap.size := blk_lt m1
    have l2 : w.heap.size + 1 + 1 < W.heap.size := blk_lt m2
    by_cases hx : x0 = k
    · subst hx
      gi_wp2
      have m1s := blk_far (p := ⟨w.heap.size + 1 + 1, 0, none⟩) (blk_put m1 0 (.slice x1 x2 x3) rfl) (by show w.heap.size + 1 ≠ w.heap.size + 1 + 1; omega) (.bool true)
      have m2s := blk_put (blk_far (p := ⟨w.heap.size + 1, 0, none⟩) m2 (by show w.heap.size + 1 + 1 ≠ w.heap.size + 1; omega) (.slice x1 x2 x3)) 0 (.bool true) rfl
      exact ⟨((KeepsOthers.setCell _ _ _).trans (KeepsOthers.setCell _ _ _)).from _, ⟨(x0, x1, x2, x3), rfl, .inl ⟨rfl, rfl, m1s, m2s⟩⟩, (hB.setCell (by show w.heap.size ≤ w.heap.size + 1; omega) _).setCell (by show w.heap.size ≤ w.heap.size + 1 + 1; omega) _⟩
    · have hx1 : decide (x0 = k) = false := decide_eq_false hx
      have hx2 := tableTexts.tl x0 k hx
      gi_wp2
      exact ⟨KeepsFrom.refl _ _, ⟨(x0, x1, x2, x3), rfl, .inr ⟨rfl, hx, m1, m2⟩⟩, hB⟩
  case done =>
    rintro D ys W hD rfl ⟨hnil, ⟨m1, m2, m0⟩, hB⟩ hK
    have HF := Aside0.mk (show decide (rn < l.length ∧ (rd_T68 l (rn : Int)).f0 = k) = false from decide_eq_false (fun h => by have e := hvl; rw [hnil] at e; simp at e; omega))
    have c1 : W.cell? ⟨w.heap.size + 1, 0, none⟩ = some (.slice none 0 0) := (blk_cell m1 0).trans rfl
    have d1 := blk_frozen m1 0
    have c2 : W.cell? ⟨w.heap.size + 1 + 1, 0, none⟩ = some (.bool false) := (blk_cell m2 0).trans rfl
    have d2 := blk_frozen m2 0
    have l1 : w.heap.size + 1 < W.heap.size := blk_lt m1
    have l2 : w.heap.size + 1 + 1 < W.heap.size := blk_lt m2
    gi_wp2
    have hK' : ((W.setCell ⟨w.heap.size + 1, 0, none⟩ (.slice none 0 0)).setCell ⟨w.heap.size + 1 + 1, 0, none⟩ (.bool false)).heap[D]? = some (.deferred (some [])) :=
      (Below.heap_setCell _ _ _ _ (by show D ≠ w.heap.size + 1 + 1; omega)).trans ((Below.heap_setCell _ _ _ _ (by show D ≠ w.heap.size + 1; omega)).trans hK)
    have k1s := blk_far (p := ⟨w.heap.size + 1 + 1, 0, none⟩) (blk_put m1 0 (.slice none 0 0) rfl) (by show w.heap.size + 1 ≠ w.heap.size + 1 + 1; omega) (.bool false)
    have k2s := blk_put (blk_far (p := ⟨w.heap.size + 1, 0, none⟩) m2 (by show w.heap.size + 1 + 1 ≠ w.heap.size + 1; omega) (.slice none 0 0)) 0 (.bool false) rfl
    have hb4 : Below w.heap.size w ((W.setCell ⟨w.heap.size + 1, 0, none⟩ (.slice none 0 0)).setCell ⟨w.heap.size + 1 + 1, 0, none⟩ (.bool false)) := (hB.setCell (by show w.heap.size ≤ w.heap.size + 1; omega) _).setCell (by show w.heap.size ≤ w.heap.size + 1 + 1; omega) _
    have z1 := cell_kept ((blk_cell k1s 0).trans rfl) (grownBy_putObj' _ D (.deferred none)) (fun r e => by cases e; exact ⟨_, hK', rfl⟩)
    have z2 := cell_kept ((blk_cell k2s 0).trans rfl) (grownBy_putObj' _ D (.deferred none)) (fun r e => by cases e; exact ⟨_, hK', rfl⟩)
    refine ⟨by simp, .inl ⟨_, _, rfl, run_takeDeferred hK', ?_⟩⟩
    refine ⟨.tuple #[.slice none 0 0, .bool false], ?_, .slice none 0 0, by rw [HF.out], tableTexts.below_put hb4 hb4.size (by omega) _⟩
    simp [results, Try.f10, go_sem, z1, z2]
  case stop =>
    rintro D cc pre W hD ⟨k', hk0, hk1, rfl⟩ ⟨⟨x, hx, hcase⟩, hB⟩ hK
    have hxe : x = vs.getD 0 tableTexts.d0 := by
      cases vs with
      | nil => simp at hx
      | cons y ys =>
        cases k' with
        | zero => omega
        | succ k' => simp at hx; rw [← hx.1]; rfl
    have hlt : rn < l.length := by omega
    have hxk : x.1 = (rd_T68 l (rn : Int)).f0 := by rw [hxe]; exact hv1 0 (by omega)
    rcases hcase with ⟨rfl, hk, m1, m2⟩ | ⟨rfl, hk, m1, m2⟩
    · have HF := Aside0.mk (show decide (rn < l.length ∧ (rd_T68 l (rn : Int)).f0 = k) = true from decide_eq_true ⟨hlt, by rw [← hxk, hk]⟩)
      gi_wp2
      have z1 := cell_kept ((blk_cell m1 0).trans rfl) (grownBy_putObj' _ D (.deferred none)) (fun r e => by cases e; exact ⟨_, hK, rfl⟩)
      have z2 := cell_kept ((blk_cell m2 0).trans rfl) (grownBy_putObj' _ D (.deferred none)) (fun r e => by cases e; exact ⟨_, hK, rfl⟩)
      refine ⟨by simp, .inl ⟨_, _, rfl, run_takeDeferred hK, ?_⟩⟩
      refine ⟨.tuple #[.slice x.2.1 x.2.2.1 x.2.2.2, .bool true], ?_, .slice x.2.1 x.2.2.1 x.2.2.2, by rw [HF.out], tableTexts.below_put hB hB.size (Nat.le_trans hBw.size hD) _⟩
      simp [results, Try.f10, go_sem, z1, z2]
    · have HF := Aside0.mk (show decide (rn < l.length ∧ (rd_T68 l (rn : Int)).f0 = k) = false from decide_eq_false (fun h => hk (by rw [hxk]; exact h.2)))
      have c1 : W.cell? ⟨w.heap.size + 1, 0, none⟩ = some (.slice none 0 0) := (blk_cell m1 0).trans rfl
      have d1 := blk_frozen m1 0
      have c2 : W.cell? ⟨w.heap.size + 1 + 1, 0, none⟩ = some (.bool false) := (blk_cell m2 0).trans rfl
      have d2 := blk_frozen m2 0
      have l1 : w.heap.size + 1 < W.heap.size := blk_lt m1
      have l2 : w.heap.size + 1 + 1 < W.heap.size := blk_lt m2
      gi_wp2
      have hK' : ((W.setCell ⟨w.heap.size + 1, 0, none⟩ (.slice none 0 0)).setCell ⟨w.heap.size + 1 + 1, 0, none⟩ (.bool false)).heap[D]? = some (.deferred (some [])) :=
        (Below.heap_setCell _ _ _ _ (by show D ≠ w.heap.size + 1 + 1; omega)).trans ((Below.heap_setCell _ _ _ _ (by show D ≠ w.heap.size + 1; omega)).trans hK)
      have k1s := blk_far (p := ⟨w.heap.size + 1 + 1, 0, none⟩) (blk_put m1 0 (.slice none 0 0) rfl) (by show w.heap.size + 1 ≠ w.heap.size + 1 + 1; omega) (.bool false)
      have k2s := blk_put (blk_far (p := ⟨w.heap.size + 1, 0, none⟩) m2 (by show w.heap.size + 1 + 1 ≠ w.heap.size + 1; omega) (.slice none 0 0)) 0 (.bool false) rfl
      have hb4 : Below w.heap.size w ((W.setCell ⟨w.heap.size + 1, 0, none⟩ (.slice none 0 0)).setCell ⟨w.heap.size + 1 + 1, 0, none⟩ (.bool false)) := (hB.setCell (by show w.heap.size ≤ w.heap.size + 1; omega) _).setCell (by show w.heap.size ≤ w.heap.size + 1 + 1; omega) _
      have z1 := cell_kept ((blk_cell k1s 0).trans rfl) (grownBy_putObj' _ D (.deferred none)) (fun r e => by cases e; exact ⟨_, hK', rfl⟩)
      have z2 := cell_kept ((blk_cell k2s 0).trans rfl) (grownBy_putObj' _ D (.deferred none)) (fun r e => by cases e; exact ⟨_, hK', rfl⟩)
      refine ⟨by simp, .inl ⟨_, _, rfl, run_takeDeferred hK', ?_⟩⟩
      refine ⟨.tuple #[.slice none 0 0, .bool false], ?_, .slice none 0 0, by rw [HF.out], tableTexts.below_put hb4 hb4.size (by omega) _⟩
      simp [results, Try.f10, go_sem, z1, z2]
theorem tableTexts.bl0 : ∀ (x y : List UInt8), Op.bytesLess x y = decide (x < y)
  | [], [] => by simp [Op.bytesLess]
  | _ :: _, [] => by simp [Op.bytesLess]
  | [], _ :: _ => by simp [Op.bytesLess]
  | a :: x, b :: y => by
    rw [Op.bytesLess, tableTexts.bl0 x y]
    simp only [List.cons_lt_cons_iff]
    by_cases h1 : a < b <;> by_cases h2 : a = b <;> by_cases h3 : x < y <;> simp [h1, h2, h3]
theorem tableTexts.bl (x y : List UInt8) : (Op.bytesLess x y = true) ↔ x < y := by rw [tableTexts.bl0]; simp
theorem tableTexts.tli {x k : ByteArray} (e : x.toList = k.toList) : x = k := by
  rw [ByteArray.toList_eq, ByteArray.toList_eq] at e
  cases x; cases k; exact congrArg ByteArray.mk (Array.toList_inj.1 e)
theorem tableTexts.cs_neg (a b : ByteArray) : tableTexts.cs a b < 0 ↔ a.toList < b.toList := by
  unfold tableTexts.cs
  rw [← tableTexts.bl]
  split
  · simp_all
  · split <;> simp_all
theorem tableTexts.cs_zero (a b : ByteArray) : tableTexts.cs a b = 0 ↔ a = b := by
  unfold tableTexts.cs
  by_cases h1 : a.toList < b.toList
  · rw [if_pos ((tableTexts.bl _ _).2 h1)]
    exact ⟨fun h => absurd h (by decide), fun e => by subst e; exact absurd h1 (List.lt_irrefl _)⟩
  · rw [if_neg (fun h => h1 ((tableTexts.bl _ _).1 h))]
    by_cases h2 : b.toList < a.toList
    · rw [if_pos ((tableTexts.bl _ _).2 h2)]
      exact ⟨fun h => absurd h (by decide), fun e => by subst e; exact absurd h2 (List.lt_irrefl _)⟩
    · rw [if_neg (fun h => h2 ((tableTexts.bl _ _).1 h))]
      exact ⟨fun _ => tableTexts.tli (List.le_antisymm (by exact h2) (by exact h1)), fun _ => rfl⟩
/-- Keys rise. -/
def tableTexts.Srt (l : List S68) : Prop := ∀ (i j : Nat) (x y : S68), l[i]? = some x → l[j]? = some y → i < j → x.f0.toList < y.f0.toList
/-- Where a key belongs. -/
def tableTexts.Cut (l : List S68) (k : ByteArray) (r : Nat) : Prop := r ≤ l.length ∧ (∀ (j : Nat) (x : S68), l[j]? = some x → j < r → x.f0.toList < k.toList) ∧ ∀ (j : Nat) (x : S68), l[j]? = some x → r ≤ j → ¬ x.f0.toList < k.toList
theorem tableTexts.rd_at {l : List S68} {j : Nat} (h : j < l.length) : l[j]? = some (rd_T68 l (j : Int)) := by
  unfold rd_T68
  rw [Int.toNat_natCast, List.getD_eq_getElem?_getD, List.getElem?_eq_getElem h]
  rfl
theorem tableTexts.bs_run (l : List S68) (k : ByteArray) (r : Nat) (hc : tableTexts.Cut l k r) : ∀ (q i j : Nat), i ≤ r → r ≤ j → j ≤ l.length → j - i < q → tableTexts.bs l k q (i : Int) (j : Int) = some (r : Int)
  | 0, i, j, _, _, _, h => absurd h (Nat.not_lt_zero _)
  | q + 1, i, j, h1, h2, h3, h4 => by
    unfold tableTexts.bs
    by_cases h : i < j
    · have em : ((i : Int) + (j : Int)) / 2 = (((i + j) / 2 : Nat) : Int) := by omega
      rw [if_pos (by omega), if_pos (by omega), if_pos (by omega), em]
      have hm : (i + j) / 2 < l.length := by omega
      have ha := tableTexts.rd_at hm
      by_cases hlt : tableTexts.cs (rd_T68 l (((i + j) / 2 : Nat) : Int)).f0 k < 0
      · rw [if_pos hlt]
        have hr : (i + j) / 2 < r := Nat.lt_of_not_le (fun hle => hc.2.2 _ _ ha hle ((tableTexts.cs_neg _ _).1 hlt))
        have := tableTexts.bs_run l k r hc q ((i + j) / 2 + 1) j (by omega) h2 h3 (by omega)
        simpa using this
      · rw [if_neg hlt]
        have hr : r ≤ (i + j) / 2 := Nat.le_of_not_lt (fun hl => hlt ((tableTexts.cs_neg _ _).2 (hc.2.1 _ _ ha hl)))
        exact tableTexts.bs_run l k r hc q i ((i + j) / 2) h1 hr (by omega) (by omega)
    · rw [if_neg (by omega)]
      have : i = r := by omega
      rw [this]
theorem tableTexts.cut_ex (l : List S68) (hs : tableTexts.Srt l) (k : ByteArray) : ∃ r, tableTexts.Cut l k r := by
  suffices H : ∀ m, m ≤ l.length → ∃ r, r ≤ m ∧ (∀ (j : Nat) (x : S68), l[j]? = some x → j < r → x.f0.toList < k.toList) ∧ ∀ (j : Nat) (x : S68), l[j]? = some x → r ≤ j → j < m → ¬ x.f0.toList < k.toList by
    obtain ⟨r, h1, h2, h3⟩ := H l.length (Nat.le_refl _)
    exact ⟨r, h1, h2, fun j x hx hj => h3 j x hx hj (List.getElem?_eq_some_iff.1 hx).1⟩
  intro m
  induction m with
  | zero => exact fun _ => ⟨0, Nat.le_refl _, fun j x _ h => absurd h (Nat.not_lt_zero _), fun j x _ _ h => absurd h (Nat.not_lt_zero _)⟩
  | succ m ih =>
    intro hm
    obtain ⟨r, h1, h2, h3⟩ := ih (by omega)
    have ha := tableTexts.rd_at (l := l) (j := m) (by omega)
    by_cases hlt : (rd_T68 l (m : Int)).f0.toList < k.toList
    · refine ⟨m + 1, Nat.le_refl _, fun j x hx hj => ?_, fun j x hx h4 h5 => absurd h5 (by omega)⟩
      by_cases e : j = m
      · subst e
        rw [ha] at hx
        cases hx
        exact hlt
      · exact List.lt_trans (hs j m _ _ hx ha (by omega)) hlt
    · refine ⟨r, by omega, h2, fun j x hx h4 h5 => ?_⟩
      by_cases e : j = m
      · subst e
        rw [ha] at hx
        cases hx
        exact hlt
      · exact h3 j x hx h4 (by omega)
theorem tableTexts.bs_cut {l : List S68} {k : ByteArray} {r : Nat} (hc : tableTexts.Cut l k r) : tableTexts.bs l k (l.length + 1) 0 (l.length : Int) = some (r : Int) := by
  have := tableTexts.bs_run l k r hc (l.length + 1) 0 l.length (Nat.zero_le _) hc.1 (Nat.le_refl _) (by omega)
  simpa using this
/-- The place of a key that stands there. -/
theorem tableTexts.cut_at {l : List S68} (hs : tableTexts.Srt l) {i : Nat} {x : S68} (h : l[i]? = some x) : tableTexts.Cut l x.f0 i :=
  ⟨Nat.le_of_lt (List.getElem?_eq_some_iff.1 h).1, fun j y hy hj => hs j i y x hy h hj, fun j y hy hj hlt => by
    rcases Nat.lt_or_eq_of_le hj with e | e
    · exact List.lt_asymm (hs i j x y h hy e) hlt
    · subst e
      rw [h] at hy
      cases hy
      exact List.lt_irrefl _ hlt⟩
/-- What stands in l, with z under k. -/
def tableTexts.With (l l' : List S68) (k : ByteArray) (z : List Int) : Prop := tableTexts.Srt l' ∧ (∀ x, x ∈ l' ↔ x = ⟨k, z⟩ ∨ (x ∈ l ∧ x.f0 ≠ k)) ∧ l'.length ≤ l.length + 1
theorem tableTexts.with_new {l : List S68} {k : ByteArray} {r : Nat} (hs : tableTexts.Srt l) (hc : tableTexts.Cut l k r) (hno : ¬ (r < l.length ∧ (rd_T68 l (r : Int)).f0 = k)) (z : List Int) : tableTexts.With l (l.take r ++ [⟨k, z⟩] ++ l.drop r) k z := by
  have hne : ∀ x ∈ l, x.f0 ≠ k := by
    intro x hx e
    obtain ⟨j, hj⟩ := List.getElem?_of_mem hx
    have hjl := (List.getElem?_eq_some_iff.1 hj).1
    by_cases h1 : j < r
    · have := hc.2.1 j x hj h1
      rw [e] at this
      exact List.lt_irrefl _ this
    · by_cases h2 : j = r
      · subst h2
        have ha := tableTexts.rd_at hjl
        rw [ha] at hj
        cases hj
        exact hno ⟨hjl, e⟩
      · have hrl : r < l.length := by omega
        have h3 := hs r j _ x (tableTexts.rd_at hrl) hj (by omega)
        rw [e] at h3
        exact hc.2.2 r _ (tableTexts.rd_at hrl) (Nat.le_refl _) h3
  have hgt : ∀ (j : Nat) (x : S68), l[j]? = some x → r ≤ j → k.toList < x.f0.toList := by
    intro j x hx hj
    have h1 := hc.2.2 j x hx hj
    have h2 : x.f0 ≠ k := hne x (List.mem_of_getElem? hx)
    by_cases h3 : k.toList < x.f0.toList
    · exact h3
    · exact absurd (tableTexts.tli (List.le_antisymm (by exact h3) (by exact h1))) h2
  have hget : ∀ (i : Nat) (x : S68), (l.take r ++ [⟨k, z⟩] ++ l.drop r)[i]? = some x → (i < r ∧ l[i]? = some x) ∨ (i = r ∧ x = ⟨k, z⟩) ∨ (r < i ∧ l[i - 1]? = some x) := by
    intro i x h
    have hr := hc.1
    by_cases h1 : i < r
    · rw [List.append_assoc, List.getElem?_append_left (by rw [List.length_take]; omega), List.getElem?_take, if_pos h1] at h
      exact .inl ⟨h1, h⟩
    · by_cases h2 : i = r
      · subst h2
        rw [List.append_assoc, List.getElem?_append_right (by rw [List.length_take]; omega), List.length_take, Nat.min_eq_left hr, Nat.sub_self] at h
        simp at h
        exact .inr (.inl ⟨rfl, h.symm⟩)
      · rw [List.getElem?_append_right (by simp; omega)] at h
        simp only [List.length_append, List.length_take, Nat.min_eq_left hr, List.length_cons, List.length_nil] at h
        rw [List.getElem?_drop, show r + (i - (r + (0 + 1))) = i - 1 by omega] at h
        exact .inr (.inr ⟨by omega, h⟩)
  refine ⟨fun i j x y hx hy hij => ?_, fun x => ?_, by simp; omega⟩
  · rcases hget i x hx with ⟨a1, a2⟩ | ⟨a1, a2⟩ | ⟨a1, a2⟩ <;> rcases hget j y hy with ⟨b1, b2⟩ | ⟨b1, b2⟩ | ⟨b1, b2⟩
    · exact hs i j x y a2 b2 hij
    · rw [b2]; exact hc.2.1 i x a2 a1
    · exact List.lt_trans (hc.2.1 i x a2 a1) (hgt (j - 1) y b2 (by omega))
    · omega
    · omega
    · rw [a2]; exact hgt (j - 1) y b2 (by omega)
    · omega
    · omega
    · exact hs (i - 1) (j - 1) x y a2 b2 (by omega)
  · rw [List.mem_append, List.mem_append, List.mem_singleton]
    constructor
    · rintro ((h | h) | h)
      · exact .inr ⟨List.mem_of_mem_take h, hne x (List.mem_of_mem_take h)⟩
      · exact .inl h
      · exact .inr ⟨List.mem_of_mem_drop h, hne x (List.mem_of_mem_drop h)⟩
    · rintro (h | ⟨h, _⟩)
      · exact .inl (.inr h)
      · rw [← List.take_append_drop r l] at h
        rcases List.mem_append.1 h with h | h
        · exact .inl (.inl h)
        · exact .inr h
theorem tableTexts.with_old {l : List S68} {k : ByteArray} {r : Nat} (hs : tableTexts.Srt l) (hr : r < l.length) (hk : (rd_T68 l (r : Int)).f0 = k) (z : List Int) : tableTexts.With l (l.set r ⟨(rd_T68 l (r : Int)).f0, z⟩) k z := by
  have ha := tableTexts.rd_at hr
  rw [hk]
  have hget : ∀ (i : Nat) (x : S68), (l.set r ⟨k, z⟩)[i]? = some x → ∃ y, l[i]? = some y ∧ y.f0 = x.f0 ∧ ((i = r ∧ x = ⟨k, z⟩) ∨ (i ≠ r ∧ y = x)) := by
    intro i x h
    rw [List.getElem?_set] at h
    split at h
    · rename_i e
      subst e
      cases h
      exact ⟨_, ha, hk, .inl ⟨rfl, rfl⟩⟩
    · rename_i e
      exact ⟨x, h, rfl, .inr ⟨fun e2 => e e2.symm, rfl⟩⟩
  refine ⟨fun i j x y hx hy hij => ?_, fun x => ?_, by simp⟩
  · obtain ⟨x', h1, h2, _⟩ := hget i x hx
    obtain ⟨y', h3, h4, _⟩ := hget j y hy
    rw [← h2, ← h4]
    exact hs i j x' y' h1 h3 hij
  · constructor
    · intro h
      obtain ⟨i, hi⟩ := List.getElem?_of_mem h
      obtain ⟨y, h1, h2, ⟨_, h3⟩ | ⟨h3, h4⟩⟩ := hget i x hi
      · exact .inl h3
      · subst h4
        refine .inr ⟨List.mem_of_getElem? h1, fun e => ?_⟩
        rcases Nat.lt_or_gt_of_ne h3 with h5 | h5
        · have := hs i r _ _ h1 ha h5
          rw [e, hk] at this
          exact List.lt_irrefl _ this
        · have := hs r i _ _ ha h1 h5
          rw [e, hk] at this
          exact List.lt_irrefl _ this
    · rintro (h | ⟨h, hne⟩)
      · subst h
        exact List.mem_of_getElem? (i := r) (by rw [List.getElem?_set_self hr])
      · obtain ⟨i, hi⟩ := List.getElem?_of_mem h
        refine List.mem_of_getElem? (i := i) ?_
        rw [List.getElem?_set_ne (fun e => by subst e; rw [ha] at hi; cases hi; exact hne hk)]
        exact hi
theorem tableTexts.tail {a : S68} {l : List S68} (hs : tableTexts.Srt (a :: l)) : tableTexts.Srt l := fun i j x y hx hy h => hs (i + 1) (j + 1) x y (by simpa using hx) (by simpa using hy) (by omega)
theorem tableTexts.head {a : S68} {l : List S68} (hs : tableTexts.Srt (a :: l)) : ∀ x ∈ l, a.f0.toList < x.f0.toList := fun x hx => by
  obtain ⟨j, hj⟩ := List.getElem?_of_mem hx
  exact hs 0 (j + 1) a x rfl (by simpa using hj) (by omega)
/-- Sorted rows of the same entries are the same. -/
theorem tableTexts.same : ∀ (l l' : List S68), tableTexts.Srt l → tableTexts.Srt l' → (∀ x, x ∈ l ↔ x ∈ l') → l = l'
  | [], [], _, _, _ => rfl
  | [], b :: l', _, _, h => absurd ((h b).2 List.mem_cons_self) List.not_mem_nil
  | a :: l, [], _, _, h => absurd ((h a).1 List.mem_cons_self) List.not_mem_nil
  | a :: l, b :: l', hs, hs', h => by
    have hab : a = b := by
      rcases List.mem_cons.1 ((h a).1 List.mem_cons_self) with e | e
      · exact e
      · rcases List.mem_cons.1 ((h b).2 List.mem_cons_self) with e2 | e2
        · exact e2.symm
        · exact absurd (tableTexts.head hs' a e) (List.lt_asymm (tableTexts.head hs b e2))
    subst hab
    refine congrArg (a :: ·) (tableTexts.same l l' (tableTexts.tail hs) (tableTexts.tail hs') (fun x => ⟨fun hx => ?_, fun hx => ?_⟩))
    · rcases List.mem_cons.1 ((h x).1 (List.mem_cons_of_mem _ hx)) with e | e
      · subst e; exact absurd (tableTexts.head hs x hx) (List.lt_irrefl _)
      · exact e
    · rcases List.mem_cons.1 ((h x).2 (List.mem_cons_of_mem _ hx)) with e | e
      · subst e; exact absurd (tableTexts.head hs' x hx) (List.lt_irrefl _)
      · exact e
/-- The rows of the texts from a on, below b: each text's last place. -/
def tableTexts.Last (f : Nat → ByteArray) (a b : Nat) (l : List S68) : Prop := tableTexts.Srt l ∧ ∀ x, x ∈ l ↔ ∃ j, a ≤ j ∧ j < b ∧ f j = x.f0 ∧ x.f1 = [(j : Int)] ∧ ∀ j', j < j' → j' < b → f j' ≠ x.f0
theorem tableTexts.last_nil (f : Nat → ByteArray) (a : Nat) : tableTexts.Last f a a [] := ⟨fun i j x y h => by simp at h, fun x => ⟨fun h => absurd h List.not_mem_nil, fun ⟨j, h1, h2, _⟩ => absurd h1 (by omega)⟩⟩
theorem tableTexts.last_up {f : Nat → ByteArray} {a b : Nat} {l l' : List S68} (hab : a ≤ b) (h : tableTexts.Last f a b l) (hw : tableTexts.With l l' (f b) [(b : Int)]) : tableTexts.Last f a (b + 1) l' := by
  refine ⟨hw.1, fun x => ?_⟩
  rw [hw.2.1]
  constructor
  · rintro (e | ⟨hx, hne⟩)
    · subst e
      exact ⟨b, hab, by omega, rfl, rfl, fun j' h1 h2 => absurd h1 (by omega)⟩
    · obtain ⟨j, h1, h2, h3, h4, h5⟩ := (h.2 x).1 hx
      refine ⟨j, h1, by omega, h3, h4, fun j' h6 h7 => ?_⟩
      by_cases e : j' = b
      · subst e; exact fun e => hne e.symm
      · exact h5 j' h6 (by omega)
  · rintro ⟨j, h1, h2, h3, h4, h5⟩
    by_cases e : j = b
    · subst e
      left
      cases x
      simp only at h3 h4
      rw [← h3, ← h4]
    · right
      exact ⟨(h.2 x).2 ⟨j, h1, by omega, h3, h4, fun j' h6 h7 => h5 j' h6 (by omega)⟩, fun e2 => h5 b (by omega) (by omega) e2.symm⟩
theorem tableTexts.last_down {f : Nat → ByteArray} {a b : Nat} {l l' : List S68} (hab : a < b) (h : tableTexts.Last f (a + 1) b l) (hno : ∀ x ∈ l, x.f0 ≠ f a) (hw : tableTexts.With l l' (f a) [(a : Int)]) : tableTexts.Last f a b l' := by
  refine ⟨hw.1, fun x => ?_⟩
  rw [hw.2.1]
  have hnone : ∀ j, a < j → j < b → f j ≠ f a := by
    intro j
    -- the last place of f a behind a
    suffices H : ∀ m j, b - j = m → a < j → j < b → f j ≠ f a from H _ j rfl
    intro m
    induction m using Nat.strongRecOn with
    | _ m ih =>
      intro j hm h1 h2 e
      exact hno ⟨f j, [(j : Int)]⟩ ((h.2 _).2 ⟨j, by omega, h2, rfl, rfl, fun j' h3 h4 e2 => ih (b - j') (by omega) j' rfl (by omega) h4 (e2.trans e)⟩) e
  constructor
  · rintro (e | ⟨hx, hne⟩)
    · subst e
      exact ⟨a, Nat.le_refl _, hab, rfl, rfl, fun j' h1 h2 => hnone j' h1 h2⟩
    · obtain ⟨j, h1, h2, h3, h4, h5⟩ := (h.2 x).1 hx
      exact ⟨j, by omega, h2, h3, h4, h5⟩
  · rintro ⟨j, h1, h2, h3, h4, h5⟩
    by_cases e : j = a
    · subst e
      left
      cases x
      simp only at h3 h4
      rw [← h3, ← h4]
    · right
      have hx : x ∈ l := (h.2 x).2 ⟨j, by omega, h2, h3, h4, h5⟩
      exact ⟨hx, hno x hx⟩
theorem tableTexts.last_skip {f : Nat → ByteArray} {a b : Nat} {l : List S68} (h : tableTexts.Last f (a + 1) b l) {y : S68} (hy : y ∈ l) (e : y.f0 = f a) : tableTexts.Last f a b l := by
  refine ⟨h.1, fun x => ?_⟩
  rw [h.2]
  constructor
  · rintro ⟨j, h1, h2, h3, h4, h5⟩
    exact ⟨j, by omega, h2, h3, h4, h5⟩
  · rintro ⟨j, h1, h2, h3, h4, h5⟩
    refine ⟨j, ?_, h2, h3, h4, h5⟩
    obtain ⟨j2, g1, g2, g3, _, _⟩ := (h.2 y).1 hy
    rcases Nat.lt_or_eq_of_le h1 with h6 | h6
    · omega
    · subst h6
      exact absurd (g3.trans (e.trans h3)) (h5 j2 (by omega) g2)
theorem tableTexts.last_one {f : Nat → ByteArray} {a b : Nat} {l l' : List S68} (h : tableTexts.Last f a b l) (h' : tableTexts.Last f a b l') : l = l' := tableTexts.same l l' h.1 h'.1 (fun x => by rw [h.2, h'.2])
theorem tableTexts.last_some {f : Nat → ByteArray} {b : Nat} {l : List S68} (h : tableTexts.Last f 0 (b + 1) l) : 0 < l.length := by
  cases l with
  | nil => exact absurd ((h.2 ⟨f b, [(b : Int)]⟩).2 ⟨b, by omega, by omega, rfl, rfl, fun j' h1 h2 => absurd h1 (by omega)⟩) List.not_mem_nil
  | cons x l => simp
theorem tableTexts.flag {l : List S68} {k : ByteArray} {r : Nat} : (decide ((r : Int) < (l.length : Int)) && tableTexts.cs (rd_T68 l (r : Int)).f0 k == 0) = decide (r < l.length ∧ (rd_T68 l (r : Int)).f0 = k) := by
  rw [Bool.eq_iff_iff, Bool.and_eq_true, decide_eq_true_iff, beq_iff_eq, tableTexts.cs_zero, decide_eq_true_iff]
  constructor
  · rintro ⟨a, b⟩; exact ⟨by omega, b⟩
  · rintro ⟨a, b⟩; exact ⟨by omega, b⟩
theorem tableTexts.putA {w0 w : World} {g : Nat} {l : List S68} {A : Option Addr} {c : Nat} (hB : Below w0.heap.size w0 w) (hg0 : w0.heap.size ≤ g) (h : tableTexts.Tab w w0.heap.size g l A c) (hs : tableTexts.Srt l) (k : ByteArray) (Az : Option Addr) (cz : Nat) (z : List Int) (hz : Kd.R (Kd.int .i64) 3 w w0.heap.size (fun _ => True) (.slice Az z.length cz) z) (hl : (l.length + 1) * 40 ≤ 140737488355328) :
    Calls Try.prog 9 #[.pointer (some ⟨g, 0, none⟩), .string k, .slice Az z.length cz] w fun e w' => ∃ (b : Bool) (l' : List S68) (A' : Option Addr) (c' : Nat), e = .returned (.bool b) ∧ tableTexts.With l l' k z ∧ tableTexts.Tab w' w0.heap.size g l' A' c' ∧ tableTexts.Fr g w w' ∧ Below w0.heap.size w0 w' := by
  obtain ⟨r, hc⟩ := tableTexts.cut_ex l hs k
  have hq := tableTexts.bs_cut hc
  by_cases hy : r < l.length ∧ (rd_T68 l (r : Int)).f0 = k
  · obtain ⟨g', c', e, _⟩ := Kd.R_form h.row (by omega)
    injection e with e1 _ _
    subst e1
    refine (tableTexts.putY hB hg0 h _ k r hq hy.1 (by rw [tableTexts.flag]; exact decide_eq_true hy) Az cz z hz (by omega)).mono ?_
    rintro e w' ⟨A', c'', rfl, h1, h2, h3⟩
    exact ⟨_, _, A', c'', rfl, tableTexts.with_old hs hy.1 hy.2 z, h1, h2, h3⟩
  · refine (tableTexts.putN hB hg0 h _ k r hq hc.1 (by rw [tableTexts.flag]; exact decide_eq_false hy) Az cz z hz hl).mono ?_
    rintro e w' ⟨A', c', rfl, h1, h2, h3⟩
    exact ⟨_, _, A', c', rfl, tableTexts.with_new hs hc hy z, h1, h2, h3⟩
theorem tableTexts.getA {w : World} {base g : Nat} {l : List S68} {A : Option Addr} {c : Nat} (h : tableTexts.Tab w base g l A c) (hs : tableTexts.Srt l) (k : ByteArray) :
    Calls Try.prog 10 #[.pointer (some ⟨g, 0, none⟩), .string k] w fun e w' => ∃ (v : Value) (b : Bool), e = .returned (.tuple #[v, .bool b]) ∧ (b = true → ∃ x ∈ l, x.f0 = k) ∧ (b = false → ∀ x ∈ l, x.f0 ≠ k) ∧ Below w.heap.size w w' := by
  obtain ⟨r, hc⟩ := tableTexts.cut_ex l hs k
  refine (tableTexts.get1 h _ k r (tableTexts.bs_cut hc) hc.1).mono ?_
  rintro e w' ⟨v, rfl, hb⟩
  refine ⟨v, _, rfl, fun hd => ?_, fun hd x hx e => ?_, hb⟩
  · have := of_decide_eq_true hd
    exact ⟨_, List.mem_of_getElem? (tableTexts.rd_at this.1), this.2⟩
  · have hn := of_decide_eq_false hd
    obtain ⟨j, hj⟩ := List.getElem?_of_mem hx
    have hjl := (List.getElem?_eq_some_iff.1 hj).1
    rcases Nat.lt_trichotomy j r with h1 | h1 | h1
    · have h2 := hc.2.1 j x hj h1
      rw [e] at h2
      exact List.lt_irrefl _ h2
    · subst h1
      rw [tableTexts.rd_at hjl] at hj
      cases hj
      exact hn ⟨hjl, e⟩
    · have h2 := hs r j _ x (tableTexts.rd_at (by omega)) hj h1
      rw [e] at h2
      exact hc.2.2 r _ (tableTexts.rd_at (by omega)) (Nat.le_refl _) h2
theorem tableTexts.findA {w : World} {base g : Nat} {l : List S68} {A : Option Addr} {c : Nat} (h : tableTexts.Tab w base g l A c) (hs : tableTexts.Srt l) (i : Nat) (hi : i < l.length) :
    Calls Try.prog 13 #[.pointer (some ⟨g, 0, none⟩), .string (rd_T68 l (i : Int)).f0] w fun e w' => e = .returned (.tuple #[.int .i64 (i : Int), .bool true]) ∧ Below w.heap.size w w' := by
  have hc := tableTexts.cut_at hs (tableTexts.rd_at hi)
  refine (tableTexts.find1 h _ _ (i : Int) (tableTexts.bs_cut hc)).mono ?_
  rw [tableTexts.flag, decide_eq_true ⟨hi, rfl⟩]
  rintro e w' ⟨rfl, hb⟩
  exact ⟨rfl, hb⟩
theorem tableTexts.new1 (w : World) : Calls Try.prog 8 #[] w fun e w' => ∃ g, e = .returned (.pointer (some ⟨g, 0, none⟩)) ∧ w'.heap[g]? = some (.cells #[.slice none 0 0] 65 (0, 0)) ∧ w.heap.size ≤ g ∧ Below w.heap.size w w' := by
  go_enter Try.func8, Try.ntmps8
  go_wp2_with ((with_reducible refine gate_dst (N := 2) rfl ?_); refine box_event ?hg (N := 2) ?hd (cs := #[.slice none 0 0]) (t := 65) ?hr ?_; (case hd => rfl); (case hg => rfl); (case hr => first | (go_simp; done) | (go_simp; rfl)); intro gb hg w1 hbox hb; have hge : w.heap.size ≤ gb := (by omega); clear hg)
  go_ret
  exact ⟨gb, rfl, hbox, hge, hb⟩
theorem tableTexts.tab0 {w : World} {base g : Nat} (h : w.heap[g]? = some (.cells #[.slice none 0 0] 65 (0, 0))) : tableTexts.Tab w base g [] none 0 := ⟨h, Kd.R_nil _ _ _ _ _, by simp⟩
theorem tableTexts.Tab.grown0 {w w1 : World} {base g : Nat} {l : List S68} {A : Option Addr} {c : Nat} (h : tableTexts.Tab w base g l A c) (hg : w.grownBy w1 none) : tableTexts.Tab w1 base g l A c := ⟨blk_grown h.cel hg (by simp), Kd.R_grown h.row hg (fun _ _ => by simp), h.len⟩
theorem tableTexts.Tab.below {w w1 : World} {base g : Nat} {l : List S68} {A : Option Addr} {c : Nat} (h : tableTexts.Tab w base g l A c) (hb : Below w.heap.size w w1) : tableTexts.Tab w1 base g l A c := ⟨blk_below h.cel hb, Kd.R_below h.row hb, h.len⟩
theorem tableTexts.last_val {f : Nat → ByteArray} {a b : Nat} {l : List S68} (h : tableTexts.Last f a b l) {i : Nat} (hi : i < l.length) : ∃ j : Nat, (rd_T68 l (i : Int)).f1 = [(j : Int)] := by
  obtain ⟨j, _, _, _, e, _⟩ := (h.2 _).1 (List.mem_of_getElem? (tableTexts.rd_at hi))
  exact ⟨j, e⟩
theorem tableTexts.cell1 {w : World} {A : Option Addr} {n : Nat} {j : Int} (h : (Kd.int .i64).C w A n [j]) : ∃ ad, A = some ad ∧ ∀ W, Below w.heap.size w W → W.cell? ad = some (.int .i64 j) := by
  have hn : n = 1 := h.1.symm
  subst hn
  obtain ⟨ad, e, hx⟩ := Kd.at_int h 0 (by decide) (by decide)
  have hx' : w.cell? (ad.add 0) = some (.int .i64 j) := hx
  rw [Addr.add_zero'] at hx'
  exact ⟨ad, e, fun W hW => (hW.cell (World.block_lt_of_cell? w _ hx')).trans hx'⟩
theorem tableTexts.run (keys : List ByteArray) (A0 : Option Addr) (cap : Nat) (w : World) (hC : Kd.string.C w A0 keys.length keys) (hcap : keys.length ≤ cap) (hn : keys.length ≤ 1048576) : Calls Try.prog 3 #[.slice A0 keys.length cap] w fun e w' => e = .returned (.bool true) ∧ Below w.heap.size w w' := by
  have HK := Aside0.mk hC
  have HNN := Aside0.mk hn
  have HB := Aside0.mk (Below.refl w.heap.size w)
  clear hC hn
  go_enter Try.func3, Try.ntmps3
  go_wp2_with (first | (go_at_call 8; (with_reducible refine (tableTexts.new1 _).mono ?_); rintro e_ w1 ⟨g1, rfl, h1, h2, hb⟩; have HB1 := Aside0.mk (below_step HB.out hb); clear HB; have G1 := Aside0.mk h2; have BK1 := Aside0.mk h1; clear h1 h2 hb) | (go_at_call 8; (with_reducible refine (tableTexts.new1 _).mono ?_); rintro e_ w2 ⟨g2, rfl, h1, h2, hb⟩; have HB2 := Aside0.mk (below_step HB1.out hb); have G2 := Aside0.mk (show w.heap.size ≤ g2 from Nat.le_trans HB1.out.size h2); have HN := Aside0.mk (show g2 ≠ g1 from fun e => by have := blk_lt BK1.out; omega); have HT2 := Aside0.mk (tableTexts.tab0 (base := w.heap.size) (blk_below BK1.out hb)); have HU2 := Aside0.mk (tableTexts.tab0 (base := w.heap.size) h1); clear HB1 BK1 h1 h2 hb))
  go_loopw [5] (fun v5 wr => ∃ (i : Nat) (l : List S68) (A : Option Addr) (c : Nat), v5 = .int .i64 (i : Int) ∧ Aside0 (i ≤ keys.length) ∧ Aside0 (tableTexts.Tab wr w.heap.size g1 l A c) ∧ Aside0 (tableTexts.Tab wr w.heap.size g2 [] none 0) ∧ Aside0 (tableTexts.Last (fun j => rdOf ByteArray.empty keys (j : Int)) 0 i l) ∧ Aside0 (l.length ≤ i) ∧ Aside0 (Below w.heap.size w wr)) (fun v5 _ => keys.length - (intOf v5).toNat)
  case atStart => exact ⟨0, [], none, 0, rfl, ⟨Nat.zero_le _⟩, HT2, HU2, ⟨tableTexts.last_nil _ _⟩, ⟨Nat.le_refl _⟩, HB2⟩
  case round =>
    clear HT2 HU2 HB2
    obtain ⟨i, l, A, c, rfl, HI, HT, HU, HL, HLL, HB⟩ := hrel
    by_cases hlt : i < keys.length
    · have i1 : decide ((i : Int) < (keys.length : Int)) = true := decide_eq_true (by omega)
      have i2 : decide (i < keys.length) = true := decide_eq_true hlt
      have i3 : (i < keys.length) = True := eq_true hlt
      obtain ⟨ad, rfl, hx0⟩ := Kd.at_string HK.out (i : Int) (by omega) (by omega)
      rw [Int.toNat_natCast] at hx0
      replace hx0 := fun (w' : World) (hb : Below w.heap.size w w') => (hb.cell (World.block_lt_of_cell? w _ hx0)).trans hx0
      have hx := hx0 _ HB.out
      have HX := Aside0.mk hx0
      have HSZ := Aside0.mk (show (l.length + 1) * 40 ≤ 140737488355328 by have := HLL.out; have := HNN.out; omega)
      have HWR := Aside0.mk (show wrap64 ((i : Int) + 1) = (i : Int) + 1 by have := HNN.out; unfold wrap64; omega)
      have HM := Aside0.mk (tableTexts.meas i keys.length hlt HWR.out)
      clear hx0
      go_wp2_with (first | ((with_reducible refine gate_dst (N := 33) rfl ?_); refine Kd.R_lit (Kd.int .i64) (w0 := w) w.heap.size 3 ?hg (N := 33) ?hd (xs := ([((i : Int) : Int)] : List Int)) (inner := [.int .i64 ((i : Int) : Int)]) (ok := fun _ => True) (okp := fun _ => True) ?hr ?hp (fun _ hk => hk) trivial HB.out HB.out.size (by simp) ?_; (case hd => rfl); (case hg => rfl); (case hr => first | (go_simp; done) | (go_simp; rfl)); (case hp => exact (Reps.one (show Kd.M (Kd.int .i64) _ _ _ ((i : Int) : Int) [.int .i64 ((i : Int) : Int)] from rfl) (Reps.none _ _))); intro v1 wl ho hb hg_ hnew; obtain ⟨Az, cz, rfl⟩ := Kd.R_slice ho; have HZ := Aside0.mk ho; have HTl := Aside0.mk (HT.out.grown0 hg_); have HUl := Aside0.mk (HU.out.grown0 hg_); have HBl := Aside0.mk hb; clear ho hb hg_ hnew HT HU HB) | (go_at_call 9; refine (tableTexts.putA HBl.out G1.out HTl.out HL.out.1 (rdOf ByteArray.empty keys (i : Int)) Az cz [(i : Int)] HZ.out HSZ.out).mono ?_; rintro e_ w3 ⟨b3, l3, A3, c3, rfl, hw, h1, h2, h3⟩; have HW := Aside0.mk hw; have HT := Aside0.mk h1; have HU := Aside0.mk (tableTexts.Fr.tab h2 HTl.out.cel HN.out HUl.out); have HB := Aside0.mk h3; clear hw h1 h2 h3))
      go_roundw
      case rel => exact ⟨i + 1, l3, A3, c3, by rw [HWR.out]; rfl, ⟨by omega⟩, HT, HU, ⟨tableTexts.last_up (Nat.zero_le _) HL.out HW.out⟩, ⟨by have := HW.out.2.2; have := HLL.out; omega⟩, HB⟩
      case measure => exact HM.out
    · obtain rfl : i = keys.length := by have := HI.out; omega
      have HWR := Aside0.mk (show wrap64 ((keys.length : Int) - 1) = (keys.length : Int) - 1 by have := HNN.out; unfold wrap64; omega)
      go_wp2
      go_loopw [6] (fun v6 wr => ∃ (m : Nat) (lu : List S68) (Au : Option Addr) (cu : Nat), v6 = .int .i64 ((m : Int) - 1) ∧ Aside0 (m ≤ keys.length) ∧ Aside0 (tableTexts.Tab wr w.heap.size g1 l A c) ∧ Aside0 (tableTexts.Tab wr w.heap.size g2 lu Au cu) ∧ Aside0 (tableTexts.Last (fun j => rdOf ByteArray.empty keys (j : Int)) m keys.length lu) ∧ Aside0 (lu.length + m ≤ keys.length) ∧ Aside0 (Below w.heap.size w wr)) (fun v6 _ => (intOf v6 + 1).toNat)
      case atStart => exact ⟨keys.length, [], none, 0, by rw [HWR.out], ⟨Nat.le_refl _⟩, HT, HU, ⟨tableTexts.last_nil _ _⟩, ⟨by simp⟩, HB⟩
      case round =>
        clear HT HU HB
        obtain ⟨m, lu, Au, cu, rfl, HI, HT, HU, HLU, HLL2, HB⟩ := hrel
        cases m with
        | succ i =>
          have e1 : (((i + 1 : Nat) : Int) - 1) = (i : Int) := by omega
          rw [e1]
          have hlt : i < keys.length := by have := HI.out; omega
          have i0 : decide (0 ≤ (i : Int)) = true := decide_eq_true (by omega)
          have i1 : decide ((i : Int) < (keys.length : Int)) = true := decide_eq_true (by omega)
          have i2 : decide (i < keys.length) = true := decide_eq_true hlt
          have i3 : (i < keys.length) = True := eq_true hlt
          have HWR := Aside0.mk (show wrap64 ((i : Int) - 1) = (i : Int) - 1 by have := HNN.out; unfold wrap64; omega)
          have HM := Aside0.mk (show (intOf (.int .i64 (wrap64 ((i : Int) - 1))) + 1).toNat < (intOf (.int .i64 (i : Int)) + 1).toNat by rw [HWR.out]; show ((i : Int) - 1 + 1).toNat < ((i : Int) + 1).toNat; omega)
          obtain ⟨ad, rfl, hx0⟩ := Kd.at_string HK.out (i : Int) (by omega) (by omega)
          rw [Int.toNat_natCast] at hx0
          replace hx0 := fun (w' : World) (hb : Below w.heap.size w w') => (hb.cell (World.block_lt_of_cell? w _ hx0)).trans hx0
          have hx := hx0 _ HB.out
          have HX := Aside0.mk hx0
          have HSZ := Aside0.mk (show (lu.length + 1) * 40 ≤ 140737488355328 by have := HLL2.out; have := HNN.out; omega)
          clear hx0
          by_cases hm : ∃ x ∈ lu, x.f0 = rdOf ByteArray.empty keys (i : Int)
          · go_wp2_with (first | (go_at_call 10; refine (tableTexts.getA HU.out HLU.out.1 (rdOf ByteArray.empty keys (i : Int))).mono ?_; rintro e_ wg ⟨vg, bg, rfl, hg1, hg2, hb⟩; have eb : bg = true := (by cases bg; exact absurd hm (fun ⟨x, hx, e⟩ => hg2 rfl x hx e); rfl); subst eb; clear hg1 hg2; have n1_ := Aside0.mk (HT.out.below hb); have n2_ := Aside0.mk (HU.out.below hb); have n3_ := Aside0.mk (below_step HB.out hb); clear HT HU HB hb hx; have HT := n1_; have HU := n2_; have HB := n3_; clear n1_ n2_ n3_; have hx := HX.out _ HB.out))
            go_roundw
            case rel =>
              obtain ⟨y, hy, e⟩ := hm
              exact ⟨i, lu, Au, cu, by rw [HWR.out], ⟨by omega⟩, HT, HU, ⟨tableTexts.last_skip HLU.out hy e⟩, ⟨by have := HLL2.out; omega⟩, HB⟩
            case measure => exact HM.out
          · go_wp2_with (first | (go_at_call 10; refine (tableTexts.getA HU.out HLU.out.1 (rdOf ByteArray.empty keys (i : Int))).mono ?_; rintro e_ wg ⟨vg, bg, rfl, hg1, hg2, hb⟩; have eb : bg = false := (by cases bg; rfl; exact absurd (hg1 rfl) hm); subst eb; clear hg1 hg2; have n1_ := Aside0.mk (HT.out.below hb); have n2_ := Aside0.mk (HU.out.below hb); have n3_ := Aside0.mk (below_step HB.out hb); clear HT HU HB hb hx; have HT := n1_; have HU := n2_; have HB := n3_; clear n1_ n2_ n3_; have hx := HX.out _ HB.out) | ((with_reducible refine gate_dst (N := 59) rfl ?_); refine Kd.R_lit (Kd.int .i64) (w0 := w) w.heap.size 3 ?hg (N := 59) ?hd (xs := ([((i : Int) : Int)] : List Int)) (inner := [.int .i64 ((i : Int) : Int)]) (ok := fun _ => True) (okp := fun _ => True) ?hr ?hp (fun _ hk => hk) trivial HB.out HB.out.size (by simp) ?_; (case hd => rfl); (case hg => rfl); (case hr => first | (go_simp; done) | (go_simp; rfl)); (case hp => exact (Reps.one (show Kd.M (Kd.int .i64) _ _ _ ((i : Int) : Int) [.int .i64 ((i : Int) : Int)] from rfl) (Reps.none _ _))); intro v1 wl ho hb hg_ hnew; obtain ⟨Az, cz, rfl⟩ := Kd.R_slice ho; have HZ := Aside0.mk ho; have HTl := Aside0.mk (HT.out.grown0 hg_); have HUl := Aside0.mk (HU.out.grown0 hg_); have HBl := Aside0.mk hb; clear ho hb hg_ hnew HT HU HB) | (go_at_call 9; refine (tableTexts.putA HBl.out G2.out HUl.out HLU.out.1 (rdOf ByteArray.empty keys (i : Int)) Az cz [(i : Int)] HZ.out HSZ.out).mono ?_; rintro e_ w3 ⟨b3, l3, A3, c3, rfl, hw, h1, h2, h3⟩; have HW := Aside0.mk hw; have HU := Aside0.mk h1; have HT := Aside0.mk (tableTexts.Fr.tab h2 HUl.out.cel (Ne.symm HN.out) HTl.out); have HB := Aside0.mk h3; clear hw h1 h2 h3))
            go_roundw
            case rel => exact ⟨i, l3, A3, c3, by rw [HWR.out], ⟨by omega⟩, HT, HU, ⟨tableTexts.last_down hlt HLU.out (fun x hx e => hm ⟨x, hx, e⟩) HW.out⟩, ⟨by have := HW.out.2.2; have := HLL2.out; omega⟩, HB⟩
            case measure => exact HM.out
        | zero =>
          obtain rfl := tableTexts.last_one HL.out HLU.out
          have hle : l.length ≤ keys.length := HLL.out
          have c1 : decide ((l.length : Int) > (keys.length : Int)) = false := decide_eq_false (by omega)
          have c2 : decide (keys.length < l.length) = false := decide_eq_false (by omega)
          have c3 : (keys.length < l.length) = False := eq_false (by omega)
          have hgo : keys.length = 0 ∨ (0 < keys.length ∧ 0 < l.length) := by
            by_cases h0 : keys.length = 0
            · exact .inl h0
            · refine .inr ⟨by omega, ?_⟩
              have hl2 := HL.out
              obtain ⟨n1, hn1⟩ : ∃ n1, keys.length = n1 + 1 := ⟨keys.length - 1, by omega⟩
              rw [hn1] at hl2
              exact tableTexts.last_some hl2
          clear hle
          rcases hgo with h0 | ⟨h0, h1⟩
          · have c4 : decide ((keys.length : Int) > 0) = false := decide_eq_false (by omega)
            have c5 : decide (0 < keys.length) = false := decide_eq_false (by omega)
            have c6 : (0 < keys.length) = False := eq_false (by omega)
            clear h0
            go_wp2_with (first | (go_at_call 11; (first | (with_reducible refine (tableTexts.len1 HT.out).mono ?_) | (with_reducible refine (tableTexts.len1 HU.out).mono ?_)); rintro e_ wg ⟨rfl, hb⟩; have n1_ := Aside0.mk (HT.out.below hb); have n2_ := Aside0.mk (HU.out.below hb); have n3_ := Aside0.mk (below_step HB.out hb); clear HT HU HB hb; have HT := n1_; have HU := n2_; have HB := n3_; clear n1_ n2_ n3_))
            clear c1 c2 c3 c4 c5 c6
            go_loopw [9, 10] (fun v9 v10 wr => ∃ (i : Nat) (last : ByteArray), v10 = .int .i64 (i : Int) ∧ v9 = .string last ∧ Aside0 (∀ i', i = i' + 1 → last = (rd_T68 l (i' : Int)).f0) ∧ Aside0 (i ≤ l.length) ∧ Aside0 (tableTexts.Tab wr w.heap.size g1 l A c) ∧ Aside0 (tableTexts.Tab wr w.heap.size g2 l Au cu) ∧ Aside0 (Below w.heap.size w wr)) (fun v9 v10 _ => l.length - (intOf v10).toNat)
            case atStart => exact ⟨0, ⟨#[]⟩, rfl, rfl, ⟨fun i' e => by omega⟩, ⟨Nat.zero_le _⟩, HT, HU, HB⟩
            case round =>
              clear HT HU HB
              obtain ⟨i, last, rfl, rfl, HLA, HI3, HT, HU, HB⟩ := hrel
              by_cases hlt : i < l.length
              · obtain ⟨j, hf1⟩ := tableTexts.last_val HL.out hlt
                have hfl : (rd_T68 l (i : Int)).f1.length = 1 := by rw [hf1]; rfl
                have hbl : i ≠ 0 → Op.bytesLess last.toList (rd_T68 l (i : Int)).f0.toList = true := fun hi => by
                  obtain ⟨i', rfl⟩ : ∃ i', i = i' + 1 := ⟨i - 1, by omega⟩
                  rw [HLA.out i' rfl, tableTexts.bl]
                  exact HL.out.1 i' (i' + 1) _ _ (tableTexts.rd_at (by omega)) (tableTexts.rd_at hlt) (by omega)
                have HWR := Aside0.mk (show wrap64 ((i : Int) + 1) = (i : Int) + 1 by have := HT.out.len; unfold wrap64; omega)
                have HM := Aside0.mk (tableTexts.meas i l.length hlt HWR.out)
                have HFI := Aside0.mk (show (0 : Int) ≤ (i : Int) ∧ (i : Int) < (l.length : Int) by omega)
                have HF1 := Aside0.mk hf1
                have HLT := Aside0.mk hlt
                have j1 : decide ((i : Int) < (l.length : Int)) = true := decide_eq_true (by omega)
                have j2 : decide (i < l.length) = true := decide_eq_true hlt
                have j3 : (i < l.length) = True := eq_true hlt
                clear hf1
                have hsplit : i = 0 ∨ i ≠ 0 := by omega
                rcases hsplit with hi | hi
                · have j4 : decide ((i : Int) > 0) = false := decide_eq_false (by omega)
                  have j5 : decide (0 < i) = false := decide_eq_false (by omega)
                  have j6 : (0 < i) = False := eq_false (by omega)
                  clear hbl hi hlt
                  go_wp2_with (first | (go_at_call 11; (first | (with_reducible refine (tableTexts.len1 HT.out).mono ?_) | (with_reducible refine (tableTexts.len1 HU.out).mono ?_)); rintro e_ wg ⟨rfl, hb⟩; have n1_ := Aside0.mk (HT.out.below hb); have n2_ := Aside0.mk (HU.out.below hb); have n3_ := Aside0.mk (below_step HB.out hb); clear HT HU HB hb; have HT := n1_; have HU := n2_; have HB := n3_; clear n1_ n2_ n3_) | (go_at_call 12; with_reducible refine (tableTexts.at1 HT.out (i : Int) HFI.out.1 HFI.out.2).mono ?_; rw [hfl, HF1.out]; rintro e_ wx ⟨Ax, cx, rfl, hcx, hlx, hb⟩; obtain ⟨adx, rfl, hxx⟩ := tableTexts.cell1 hcx; have HXX := Aside0.mk hxx; clear hcx hxx; have n1_ := Aside0.mk (HT.out.below hb); have n2_ := Aside0.mk (HU.out.below hb); have n3_ := Aside0.mk (below_step HB.out hb); clear HT HU HB hb; have HT := n1_; have HU := n2_; have HB := n3_; clear n1_ n2_ n3_) | (go_at_call 12; with_reducible refine (tableTexts.at1 HU.out (i : Int) HFI.out.1 HFI.out.2).mono ?_; rw [hfl, HF1.out]; rintro e_ wy ⟨Ay, cy, rfl, hcy, hly, hb⟩; obtain ⟨ady, rfl, hyy⟩ := tableTexts.cell1 hcy; have HYY := Aside0.mk hyy; have HBy := Aside0.mk hb; clear hcy hyy; have n1_ := Aside0.mk (HT.out.below hb); have n2_ := Aside0.mk (HU.out.below hb); have n3_ := Aside0.mk (below_step HB.out hb); clear HT HU HB hb; have HT := n1_; have HU := n2_; have HB := n3_; clear n1_ n2_ n3_) | (go_at_call 13; refine (tableTexts.findA HT.out HL.out.1 i HLT.out).mono ?_; rintro e_ wz ⟨rfl, hb⟩; have hx1 := HXX.out _ (below_step HBy.out hb); have hy1 := HYY.out _ hb; have n1_ := Aside0.mk (HT.out.below hb); have n2_ := Aside0.mk (HU.out.below hb); have n3_ := Aside0.mk (below_step HB.out hb); clear HT HU HB hb; have HT := n1_; have HU := n2_; have HB := n3_; clear n1_ n2_ n3_))
                  go_quiet (fail)
                  go_wp2
                  go_roundw
                  case rel => exact ⟨i + 1, _, by rw [HWR.out]; rfl, rfl, ⟨fun i' e => by obtain rfl : i = i' := by omega
                                                                                          rfl⟩, ⟨by have := HLT.out; omega⟩, ⟨HT.out.below (pw_below_drewN (Below.refl _ _) _)⟩, ⟨HU.out.below (pw_below_drewN (Below.refl _ _) _)⟩, ⟨pw_below_drewN HB.out _⟩⟩
                  case measure => exact HM.out
                · have j4 : decide ((i : Int) > 0) = true := decide_eq_true (by omega)
                  have j5 : decide (0 < i) = true := decide_eq_true (by omega)
                  have j6 : (0 < i) = True := eq_true (by omega)
                  have j7 := hbl hi
                  clear hbl hi hlt
                  go_wp2_with (first | (go_at_call 11; (first | (with_reducible refine (tableTexts.len1 HT.out).mono ?_) | (with_reducible refine (tableTexts.len1 HU.out).mono ?_)); rintro e_ wg ⟨rfl, hb⟩; have n1_ := Aside0.mk (HT.out.below hb); have n2_ := Aside0.mk (HU.out.below hb); have n3_ := Aside0.mk (below_step HB.out hb); clear HT HU HB hb; have HT := n1_; have HU := n2_; have HB := n3_; clear n1_ n2_ n3_) | (go_at_call 12; with_reducible refine (tableTexts.at1 HT.out (i : Int) HFI.out.1 HFI.out.2).mono ?_; rw [hfl, HF1.out]; rintro e_ wx ⟨Ax, cx, rfl, hcx, hlx, hb⟩; obtain ⟨adx, rfl, hxx⟩ := tableTexts.cell1 hcx; have HXX := Aside0.mk hxx; clear hcx hxx; have n1_ := Aside0.mk (HT.out.below hb); have n2_ := Aside0.mk (HU.out.below hb); have n3_ := Aside0.mk (below_step HB.out hb); clear HT HU HB hb; have HT := n1_; have HU := n2_; have HB := n3_; clear n1_ n2_ n3_) | (go_at_call 12; with_reducible refine (tableTexts.at1 HU.out (i : Int) HFI.out.1 HFI.out.2).mono ?_; rw [hfl, HF1.out]; rintro e_ wy ⟨Ay, cy, rfl, hcy, hly, hb⟩; obtain ⟨ady, rfl, hyy⟩ := tableTexts.cell1 hcy; have HYY := Aside0.mk hyy; have HBy := Aside0.mk hb; clear hcy hyy; have n1_ := Aside0.mk (HT.out.below hb); have n2_ := Aside0.mk (HU.out.below hb); have n3_ := Aside0.mk (below_step HB.out hb); clear HT HU HB hb; have HT := n1_; have HU := n2_; have HB := n3_; clear n1_ n2_ n3_) | (go_at_call 13; refine (tableTexts.findA HT.out HL.out.1 i HLT.out).mono ?_; rintro e_ wz ⟨rfl, hb⟩; have hx1 := HXX.out _ (below_step HBy.out hb); have hy1 := HYY.out _ hb; have n1_ := Aside0.mk (HT.out.below hb); have n2_ := Aside0.mk (HU.out.below hb); have n3_ := Aside0.mk (below_step HB.out hb); clear HT HU HB hb; have HT := n1_; have HU := n2_; have HB := n3_; clear n1_ n2_ n3_))
                  go_quiet (fail)
                  go_wp2
                  go_roundw
                  case rel => exact ⟨i + 1, _, by rw [HWR.out]; rfl, rfl, ⟨fun i' e => by obtain rfl : i = i' := by omega
                                                                                          rfl⟩, ⟨by have := HLT.out; omega⟩, ⟨HT.out.below (pw_below_drewN (Below.refl _ _) _)⟩, ⟨HU.out.below (pw_below_drewN (Below.refl _ _) _)⟩, ⟨pw_below_drewN HB.out _⟩⟩
                  case measure => exact HM.out
              · have j1 : decide ((i : Int) < (l.length : Int)) = false := decide_eq_false (by omega)
                have j2 : decide (i < l.length) = false := decide_eq_false hlt
                have j3 : (i < l.length) = False := eq_false hlt
                clear hlt
                go_wp2_with (first | (go_at_call 11; (first | (with_reducible refine (tableTexts.len1 HT.out).mono ?_) | (with_reducible refine (tableTexts.len1 HU.out).mono ?_)); rintro e_ wg ⟨rfl, hb⟩; have n1_ := Aside0.mk (HT.out.below hb); have n2_ := Aside0.mk (HU.out.below hb); have n3_ := Aside0.mk (below_step HB.out hb); clear HT HU HB hb; have HT := n1_; have HU := n2_; have HB := n3_; clear n1_ n2_ n3_))
                go_ret
                exact ⟨rfl, HB.out⟩
          · have c4 : decide ((keys.length : Int) > 0) = true := decide_eq_true (by omega)
            have c5 : decide (0 < keys.length) = true := decide_eq_true (by omega)
            have c6 : (0 < keys.length) = True := eq_true h0
            have c7 : ((l.length : Int) == 0) = false := beq_eq_false_iff_ne.2 (by omega)
            have c8 : (l.length = 0) = False := eq_false (by omega)
            have c9 : decide (l.length = 0) = false := decide_eq_false (by omega)
            clear h0 h1
            go_wp2_with (first | (go_at_call 11; (first | (with_reducible refine (tableTexts.len1 HT.out).mono ?_) | (with_reducible refine (tableTexts.len1 HU.out).mono ?_)); rintro e_ wg ⟨rfl, hb⟩; have n1_ := Aside0.mk (HT.out.below hb); have n2_ := Aside0.mk (HU.out.below hb); have n3_ := Aside0.mk (below_step HB.out hb); clear HT HU HB hb; have HT := n1_; have HU := n2_; have HB := n3_; clear n1_ n2_ n3_))
            clear c1 c2 c3 c4 c5 c6 c7 c8 c9
            go_loopw [9, 10] (fun v9 v10 wr => ∃ (i : Nat) (last : ByteArray), v10 = .int .i64 (i : Int) ∧ v9 = .string last ∧ Aside0 (∀ i', i = i' + 1 → last = (rd_T68 l (i' : Int)).f0) ∧ Aside0 (i ≤ l.length) ∧ Aside0 (tableTexts.Tab wr w.heap.size g1 l A c) ∧ Aside0 (tableTexts.Tab wr w.heap.size g2 l Au cu) ∧ Aside0 (Below w.heap.size w wr)) (fun v9 v10 _ => l.length - (intOf v10).toNat)
            case atStart => exact ⟨0, ⟨#[]⟩, rfl, rfl, ⟨fun i' e => by omega⟩, ⟨Nat.zero_le _⟩, HT, HU, HB⟩
            case round =>
              clear HT HU HB
              obtain ⟨i, last, rfl, rfl, HLA, HI3, HT, HU, HB⟩ := hrel
              by_cases hlt : i < l.length
              · obtain ⟨j, hf1⟩ := tableTexts.last_val HL.out hlt
                have hfl : (rd_T68 l (i : Int)).f1.length = 1 := by rw [hf1]; rfl
                have hbl : i ≠ 0 → Op.bytesLess last.toList (rd_T68 l (i : Int)).f0.toList = true := fun hi => by
                  obtain ⟨i', rfl⟩ : ∃ i', i = i' + 1 := ⟨i - 1, by omega⟩
                  rw [HLA.out i' rfl, tableTexts.bl]
                  exact HL.out.1 i' (i' + 1) _ _ (tableTexts.rd_at (by omega)) (tableTexts.rd_at hlt) (by omega)
                have HWR := Aside0.mk (show wrap64 ((i : Int) + 1) = (i : Int) + 1 by have := HT.out.len; unfold wrap64; omega)
                have HM := Aside0.mk (tableTexts.meas i l.length hlt HWR.out)
                have HFI := Aside0.mk (show (0 : Int) ≤ (i : Int) ∧ (i : Int) < (l.length : Int) by omega)
                have HF1 := Aside0.mk hf1
                have HLT := Aside0.mk hlt
                have j1 : decide ((i : Int) < (l.length : Int)) = true := decide_eq_true (by omega)
                have j2 : decide (i < l.length) = true := decide_eq_true hlt
                have j3 : (i < l.length) = True := eq_true hlt
                clear hf1
                have hsplit : i = 0 ∨ i ≠ 0 := by omega
                rcases hsplit with hi | hi
                · have j4 : decide ((i : Int) > 0) = false := decide_eq_false (by omega)
                  have j5 : decide (0 < i) = false := decide_eq_false (by omega)
                  have j6 : (0 < i) = False := eq_false (by omega)
                  clear hbl hi hlt
                  go_wp2_with (first | (go_at_call 11; (first | (with_reducible refine (tableTexts.len1 HT.out).mono ?_) | (with_reducible refine (tableTexts.len1 HU.out).mono ?_)); rintro e_ wg ⟨rfl, hb⟩; have n1_ := Aside0.mk (HT.out.below hb); have n2_ := Aside0.mk (HU.out.below hb); have n3_ := Aside0.mk (below_step HB.out hb); clear HT HU HB hb; have HT := n1_; have HU := n2_; have HB := n3_; clear n1_ n2_ n3_) | (go_at_call 12; with_reducible refine (tableTexts.at1 HT.out (i : Int) HFI.out.1 HFI.out.2).mono ?_; rw [hfl, HF1.out]; rintro e_ wx ⟨Ax, cx, rfl, hcx, hlx, hb⟩; obtain ⟨adx, rfl, hxx⟩ := tableTexts.cell1 hcx; have HXX := Aside0.mk hxx; clear hcx hxx; have n1_ := Aside0.mk (HT.out.below hb); have n2_ := Aside0.mk (HU.out.below hb); have n3_ := Aside0.mk (below_step HB.out hb); clear HT HU HB hb; have HT := n1_; have HU := n2_; have HB := n3_; clear n1_ n2_ n3_) | (go_at_call 12; with_reducible refine (tableTexts.at1 HU.out (i : Int) HFI.out.1 HFI.out.2).mono ?_; rw [hfl, HF1.out]; rintro e_ wy ⟨Ay, cy, rfl, hcy, hly, hb⟩; obtain ⟨ady, rfl, hyy⟩ := tableTexts.cell1 hcy; have HYY := Aside0.mk hyy; have HBy := Aside0.mk hb; clear hcy hyy; have n1_ := Aside0.mk (HT.out.below hb); have n2_ := Aside0.mk (HU.out.below hb); have n3_ := Aside0.mk (below_step HB.out hb); clear HT HU HB hb; have HT := n1_; have HU := n2_; have HB := n3_; clear n1_ n2_ n3_) | (go_at_call 13; refine (tableTexts.findA HT.out HL.out.1 i HLT.out).mono ?_; rintro e_ wz ⟨rfl, hb⟩; have hx1 := HXX.out _ (below_step HBy.out hb); have hy1 := HYY.out _ hb; have n1_ := Aside0.mk (HT.out.below hb); have n2_ := Aside0.mk (HU.out.below hb); have n3_ := Aside0.mk (below_step HB.out hb); clear HT HU HB hb; have HT := n1_; have HU := n2_; have HB := n3_; clear n1_ n2_ n3_))
                  go_quiet (fail)
                  go_wp2
                  go_roundw
                  case rel => exact ⟨i + 1, _, by rw [HWR.out]; rfl, rfl, ⟨fun i' e => by obtain rfl : i = i' := by omega
                                                                                          rfl⟩, ⟨by have := HLT.out; omega⟩, ⟨HT.out.below (pw_below_drewN (Below.refl _ _) _)⟩, ⟨HU.out.below (pw_below_drewN (Below.refl _ _) _)⟩, ⟨pw_below_drewN HB.out _⟩⟩
                  case measure => exact HM.out
                · have j4 : decide ((i : Int) > 0) = true := decide_eq_true (by omega)
                  have j5 : decide (0 < i) = true := decide_eq_true (by omega)
                  have j6 : (0 < i) = True := eq_true (by omega)
                  have j7 := hbl hi
                  clear hbl hi hlt
                  go_wp2_with (first | (go_at_call 11; (first | (with_reducible refine (tableTexts.len1 HT.out).mono ?_) | (with_reducible refine (tableTexts.len1 HU.out).mono ?_)); rintro e_ wg ⟨rfl, hb⟩; have n1_ := Aside0.mk (HT.out.below hb); have n2_ := Aside0.mk (HU.out.below hb); have n3_ := Aside0.mk (below_step HB.out hb); clear HT HU HB hb; have HT := n1_; have HU := n2_; have HB := n3_; clear n1_ n2_ n3_) | (go_at_call 12; with_reducible refine (tableTexts.at1 HT.out (i : Int) HFI.out.1 HFI.out.2).mono ?_; rw [hfl, HF1.out]; rintro e_ wx ⟨Ax, cx, rfl, hcx, hlx, hb⟩; obtain ⟨adx, rfl, hxx⟩ := tableTexts.cell1 hcx; have HXX := Aside0.mk hxx; clear hcx hxx; have n1_ := Aside0.mk (HT.out.below hb); have n2_ := Aside0.mk (HU.out.below hb); have n3_ := Aside0.mk (below_step HB.out hb); clear HT HU HB hb; have HT := n1_; have HU := n2_; have HB := n3_; clear n1_ n2_ n3_) | (go_at_call 12; with_reducible refine (tableTexts.at1 HU.out (i : Int) HFI.out.1 HFI.out.2).mono ?_; rw [hfl, HF1.out]; rintro e_ wy ⟨Ay, cy, rfl, hcy, hly, hb⟩; obtain ⟨ady, rfl, hyy⟩ := tableTexts.cell1 hcy; have HYY := Aside0.mk hyy; have HBy := Aside0.mk hb; clear hcy hyy; have n1_ := Aside0.mk (HT.out.below hb); have n2_ := Aside0.mk (HU.out.below hb); have n3_ := Aside0.mk (below_step HB.out hb); clear HT HU HB hb; have HT := n1_; have HU := n2_; have HB := n3_; clear n1_ n2_ n3_) | (go_at_call 13; refine (tableTexts.findA HT.out HL.out.1 i HLT.out).mono ?_; rintro e_ wz ⟨rfl, hb⟩; have hx1 := HXX.out _ (below_step HBy.out hb); have hy1 := HYY.out _ hb; have n1_ := Aside0.mk (HT.out.below hb); have n2_ := Aside0.mk (HU.out.below hb); have n3_ := Aside0.mk (below_step HB.out hb); clear HT HU HB hb; have HT := n1_; have HU := n2_; have HB := n3_; clear n1_ n2_ n3_))
                  go_quiet (fail)
                  go_wp2
                  go_roundw
                  case rel => exact ⟨i + 1, _, by rw [HWR.out]; rfl, rfl, ⟨fun i' e => by obtain rfl : i = i' := by omega
                                                                                          rfl⟩, ⟨by have := HLT.out; omega⟩, ⟨HT.out.below (pw_below_drewN (Below.refl _ _) _)⟩, ⟨HU.out.below (pw_below_drewN (Below.refl _ _) _)⟩, ⟨pw_below_drewN HB.out _⟩⟩
                  case measure => exact HM.out
              · have j1 : decide ((i : Int) < (l.length : Int)) = false := decide_eq_false (by omega)
                have j2 : decide (i < l.length) = false := decide_eq_false hlt
                have j3 : (i < l.length) = False := eq_false hlt
                clear hlt
                go_wp2_with (first | (go_at_call 11; (first | (with_reducible refine (tableTexts.len1 HT.out).mono ?_) | (with_reducible refine (tableTexts.len1 HU.out).mono ?_)); rintro e_ wg ⟨rfl, hb⟩; have n1_ := Aside0.mk (HT.out.below hb); have n2_ := Aside0.mk (HU.out.below hb); have n3_ := Aside0.mk (below_step HB.out hb); clear HT HU HB hb; have HT := n1_; have HU := n2_; have HB := n3_; clear n1_ n2_ n3_))
                go_ret
                exact ⟨rfl, HB.out⟩
end
end Go.Proofs.Ytgpmkljklkmipaa.X
