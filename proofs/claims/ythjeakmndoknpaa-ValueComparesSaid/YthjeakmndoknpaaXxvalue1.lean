-- Written by a program of this session (wip/xprint.py) out of the translation's print; Lean checks it.
import Derived.Test.YthjeakmndoknpaaXx0
import Derived.Test.YthjeakmndoknpaaXxcmp0
import Derived.Test.YthjeakmndoknpaaXxstrings0
namespace Go.Proofs.Ythjeakmndoknpaa.X
open Go.RowKit Go.Proofs.YthjeakmndoknpaaW.PrintWords Go.Proofs.YthjeakmndoknpaaW.PrintLast Go.Proofs.YthjeakmndoknpaaW.PrintMore Go.Proofs.YthjeakmndoknpaaW
attribute [local go_sem] max2_int min2_int max_two min_two max_three min_three max_four min_four   -- for this text's walks alone
set_option linter.unusedVariables false
set_option linter.unusedSimpArgs false

/-! ### value_order: function 32 -/
mutual
def value_order.l0 : Nat → Int → Int → Int → Int → ByteArray → List (S25) → List ByteArray → Int → Int → ByteArray → List (S25) → List ByteArray → Option (Int)
  | 0, _, _, _, _, _, _, _, _, _, _, _, _ => none
  | k + 1, x5, x6, x149000, x149001, x149002, x149003, x149004, x150000, x150001, x150002, x150003, x150004 => if x5 = 0 then (if x6 < (x149003.length : Int) then (value_order.j1 k x5 x6 (decide (x6 < (x150003.length : Int))) x149000 x149001 x149002 x149003 x149004 x150000 x150001 x150002 x150003 x150004) else (value_order.j1 k x5 x6 false x149000 x149001 x149002 x149003 x149004 x150000 x150001 x150002 x150003 x150004)) else (value_order.j1 k x5 x6 false x149000 x149001 x149002 x149003 x149004 x150000 x150001 x150002 x150003 x150004)
def value_order.j1 : Nat → Int → Int → Bool → Int → Int → ByteArray → List (S25) → List ByteArray → Int → Int → ByteArray → List (S25) → List ByteArray → Option (Int)
  | 0, _, _, _, _, _, _, _, _, _, _, _, _, _ => none
  | k + 1, x5, x6, x39, x149000, x149001, x149002, x149003, x149004, x150000, x150001, x150002, x150003, x150004 => if x39 = true then (if x149000 = 5 then (if 0 ≤ x6 then (if x6 < (x149004.length : Int) then (if x6 < (x150004.length : Int) then ((strings_Compare.f (rdOf ByteArray.empty x149004 x6) (rdOf ByteArray.empty x150004 x6)).bind fun t164 => (if t164 = 0 then (if x6 < (x149003.length : Int) then (if x6 < (x150003.length : Int) then ((value_order.f k ((rd_T25 x149003 x6).f0) ((rd_T25 x149003 x6).f1) ((rd_T25 x149003 x6).f2) ((rd_T25 x149003 x6).f3) ((rd_T25 x149003 x6).f4) ((rd_T25 x150003 x6).f0) ((rd_T25 x150003 x6).f1) ((rd_T25 x150003 x6).f2) ((rd_T25 x150003 x6).f3) ((rd_T25 x150003 x6).f4)).bind fun t167 => (value_order.l0 k t167 (wrap64 (x6 + 1)) x149000 x149001 x149002 x149003 x149004 x150000 x150001 x150002 x150003 x150004)) else (none)) else (none)) else (value_order.l0 k t164 (wrap64 (x6 + 1)) x149000 x149001 x149002 x149003 x149004 x150000 x150001 x150002 x150003 x150004))) else (none)) else (none)) else (none)) else (if x5 = 0 then (if 0 ≤ x6 then (if x6 < (x149003.length : Int) then (if x6 < (x150003.length : Int) then ((value_order.f k ((rd_T25 x149003 x6).f0) ((rd_T25 x149003 x6).f1) ((rd_T25 x149003 x6).f2) ((rd_T25 x149003 x6).f3) ((rd_T25 x149003 x6).f4) ((rd_T25 x150003 x6).f0) ((rd_T25 x150003 x6).f1) ((rd_T25 x150003 x6).f2) ((rd_T25 x150003 x6).f3) ((rd_T25 x150003 x6).f4)).bind fun t170 => (value_order.l0 k t170 (wrap64 (x6 + 1)) x149000 x149001 x149002 x149003 x149004 x150000 x150001 x150002 x150003 x150004)) else (none)) else (none)) else (none)) else (value_order.l0 k x5 (wrap64 (x6 + 1)) x149000 x149001 x149002 x149003 x149004 x150000 x150001 x150002 x150003 x150004))) else ((cmp_Compare_int.f (x149003.length : Int) (x150003.length : Int)).bind fun t157 => ((cmp_Or_int.f k (([x5, t157] : List Int))).bind fun t161 => (some t161)))
def value_order.f : Nat → Int → Int → ByteArray → List (S25) → List ByteArray → Int → Int → ByteArray → List (S25) → List ByteArray → Option (Int)
  | 0, _, _, _, _, _, _, _, _, _, _ => none
  | k + 1, a0_0, a0_1, a0_2, l0_3, l0_4, a1_0, a1_1, a1_2, l1_3, l1_4 => (cmp_Compare_int.f a0_0 a1_0).bind fun t150 => ((cmp_Compare_int64.f a0_1 a1_1).bind fun t151 => ((strings_Compare.f a0_2 a1_2).bind fun t152 => ((cmp_Or_int.f k (([t150, t151, t152] : List Int))).bind fun t156 => (value_order.l0 k t156 0 a0_0 a0_1 a0_2 l0_3 l0_4 a1_0 a1_1 a1_2 l1_3 l1_4))))
end
theorem value_order.mono_l : ∀ k, (∀ y0 y1 y2 y3 y4 y5 y6 y7 y8 y9, LeO (value_order.f k y0 y1 y2 y3 y4 y5 y6 y7 y8 y9) (value_order.f (k + 1) y0 y1 y2 y3 y4 y5 y6 y7 y8 y9)) ∧ (∀ y0 y1 y2 y3 y4 y5 y6 y7 y8 y9 y10 y11, LeO (value_order.l0 k y0 y1 y2 y3 y4 y5 y6 y7 y8 y9 y10 y11) (value_order.l0 (k + 1) y0 y1 y2 y3 y4 y5 y6 y7 y8 y9 y10 y11)) ∧ (∀ y0 y1 y2 y3 y4 y5 y6 y7 y8 y9 y10 y11 y12, LeO (value_order.j1 k y0 y1 y2 y3 y4 y5 y6 y7 y8 y9 y10 y11 y12) (value_order.j1 (k + 1) y0 y1 y2 y3 y4 y5 y6 y7 y8 y9 y10 y11 y12))
  | 0 => ⟨fun _ _ _ _ _ _ _ _ _ _ r h => by simp [value_order.f] at h, fun _ _ _ _ _ _ _ _ _ _ _ _ r h => by simp [value_order.l0] at h, fun _ _ _ _ _ _ _ _ _ _ _ _ _ r h => by simp [value_order.j1] at h⟩
  | k + 1 => by
    obtain ⟨ih0, ih1, ih2⟩ := value_order.mono_l k
    refine ⟨?_, ?_, ?_⟩
    · intro y0 y1 y2 y3 y4 y5 y6 y7 y8 y9
      unfold value_order.f
      repeat' first
      | (with_reducible exact ih0 _ _ _ _ _ _ _ _ _ _)
      | (with_reducible exact ih1 _ _ _ _ _ _ _ _ _ _ _ _)
      | (with_reducible exact ih2 _ _ _ _ _ _ _ _ _ _ _ _ _)
      | (with_reducible exact cmp_Or_int.mono _ _)
      | (with_reducible exact LeO.refl _)
      | (with_reducible exact LeO.none _)
      | (with_reducible refine LeO.ite ?_ ?_)
      | (with_reducible refine LeO.bind ?_ (fun _ => ?_))
      | exact ih0 _ _ _ _ _ _ _ _ _ _
      | exact ih1 _ _ _ _ _ _ _ _ _ _ _ _
      | exact ih2 _ _ _ _ _ _ _ _ _ _ _ _ _
      | exact cmp_Or_int.mono _ _
      | exact LeO.none _
      | refine LeO.ite ?_ ?_
      | refine LeO.bind ?_ (fun _ => ?_)
    · intro y0 y1 y2 y3 y4 y5 y6 y7 y8 y9 y10 y11
      unfold value_order.l0
      repeat' first
      | (with_reducible exact ih0 _ _ _ _ _ _ _ _ _ _)
      | (with_reducible exact ih1 _ _ _ _ _ _ _ _ _ _ _ _)
      | (with_reducible exact ih2 _ _ _ _ _ _ _ _ _ _ _ _ _)
      | (with_reducible exact cmp_Or_int.mono _ _)
      | (with_reducible exact LeO.refl _)
      | (with_reducible exact LeO.none _)
      | (with_reducible refine LeO.ite ?_ ?_)
      | (with_reducible refine LeO.bind ?_ (fun _ => ?_))
      | exact ih0 _ _ _ _ _ _ _ _ _ _
      | exact ih1 _ _ _ _ _ _ _ _ _ _ _ _
      | exact ih2 _ _ _ _ _ _ _ _ _ _ _ _ _
      | exact cmp_Or_int.mono _ _
      | exact LeO.none _
      | refine LeO.ite ?_ ?_
      | refine LeO.bind ?_ (fun _ => ?_)
    · intro y0 y1 y2 y3 y4 y5 y6 y7 y8 y9 y10 y11 y12
      unfold value_order.j1
      repeat' first
      | (with_reducible exact ih0 _ _ _ _ _ _ _ _ _ _)
      | (with_reducible exact ih1 _ _ _ _ _ _ _ _ _ _ _ _)
      | (with_reducible exact ih2 _ _ _ _ _ _ _ _ _ _ _ _ _)
      | (with_reducible exact cmp_Or_int.mono _ _)
      | (with_reducible exact LeO.refl _)
      | (with_reducible exact LeO.none _)
      | (with_reducible refine LeO.ite ?_ ?_)
      | (with_reducible refine LeO.bind ?_ (fun _ => ?_))
      | exact ih0 _ _ _ _ _ _ _ _ _ _
      | exact ih1 _ _ _ _ _ _ _ _ _ _ _ _
      | exact ih2 _ _ _ _ _ _ _ _ _ _ _ _ _
      | exact cmp_Or_int.mono _ _
      | exact LeO.none _
      | refine LeO.ite ?_ ?_
      | refine LeO.bind ?_ (fun _ => ?_)
theorem value_order.mono : ∀ a0 a1 a2 a3 a4 a5 a6 a7 a8 a9 k, LeO (value_order.f k a0 a1 a2 a3 a4 a5 a6 a7 a8 a9) (value_order.f (k + 1) a0 a1 a2 a3 a4 a5 a6 a7 a8 a9) := by
  intro a0 a1 a2 a3 a4 a5 a6 a7 a8 a9 k
  obtain ⟨ih0, ih1, ih2⟩ := value_order.mono_l k
  exact ih0 a0 a1 a2 a3 a4 a5 a6 a7 a8 a9
def value_order.T1 : Bool × List (List Nat × List Nat) := (true, [([], []), ([0], [0]), ([], []), ([2], [2]), ([1, 3], [1, 3]), ([], []), ([5], [5]), ([], []), ([7], [7]), ([6, 8, 4], [6, 8]), ([], []), ([10], [10]), ([], []), ([12], [12]), ([11, 13, 9], [11, 13]), ([4, 9, 14], [4, 9, 14]), ([15, 14], [15]), ([16, 16, 0, 1, 2, 3, 4, 5, 6, 7, 8, 9, 10, 11, 12, 13, 14, 15, 16], [16])])
def value_order.B1 : List Nat := [0, 1, 0, 4, 15, 0, 32, 0, 128, 511, 0, 1024, 0, 4096, 16383, 32767, 65535, 131071]
theorem value_order.tab1 : rtab .any (opsOf Try.f32 1) = value_order.T1 := by kernel_rfl
theorem value_order.bits1 : waitsOk value_order.T1.2 value_order.B1 = true := by kernel_rfl
def value_order.T6 : Bool × List (List Nat × List Nat) := (true, [([], []), ([0], [0]), ([], []), ([1, 2], [1, 2]), ([3], [3]), ([], []), ([5], [5]), ([], []), ([6, 7], [6, 7]), ([8], [8]), ([4, 9], [4, 9]), ([10, 10, 0, 1, 2, 3, 4, 5, 6, 7, 8, 9, 10], [10])])
def value_order.B6 : List Nat := [0, 1, 0, 7, 15, 0, 32, 0, 224, 480, 1023, 2047]
theorem value_order.tab6 : rtab .any (opsOf Try.f32 6) = value_order.T6 := by kernel_rfl
theorem value_order.bits6 : waitsOk value_order.T6.2 value_order.B6 = true := by kernel_rfl
def value_order.T8 : Bool × List (List Nat × List Nat) := (true, [([], []), ([0], [0]), ([], []), ([1, 2], [1, 2]), ([3], [3]), ([], []), ([5], [5]), ([], []), ([6, 7], [6, 7]), ([8], [8]), ([4, 9], [4, 9]), ([10, 10, 0, 1, 2, 3, 4, 5, 6, 7, 8, 9, 10], [10])])
def value_order.B8 : List Nat := [0, 1, 0, 7, 15, 0, 32, 0, 224, 480, 1023, 2047]
theorem value_order.tab8 : rtab .any (opsOf Try.f32 8) = value_order.T8 := by kernel_rfl
theorem value_order.bits8 : waitsOk value_order.T8.2 value_order.B8 = true := by kernel_rfl
set_option maxHeartbeats 8000000 in
set_option maxRecDepth 100000 in
theorem value_order.calls (k : Nat) : ∀ (a0_0 : Int) (a0_1 : Int) (a0_2 : ByteArray) (A0_3 : Option Addr) (c0_3 : Nat) (l0_3 : List (S25)) (A0_4 : Option Addr) (c0_4 : Nat) (l0_4 : List ByteArray) (a1_0 : Int) (a1_1 : Int) (a1_2 : ByteArray) (A1_3 : Option Addr) (c1_3 : Nat) (l1_3 : List (S25)) (A1_4 : Option Addr) (c1_4 : Nat) (l1_4 : List ByteArray) (r : Int) (w : World) (hr0_3 : Kd.C k25 w A0_3 l0_3.length l0_3) (hc0_3 : l0_3.length ≤ c0_3) (hr0_4 : Kd.C Kd.string w A0_4 l0_4.length l0_4) (hc0_4 : l0_4.length ≤ c0_4) (hr1_3 : Kd.C k25 w A1_3 l1_3.length l1_3) (hc1_3 : l1_3.length ≤ c1_3) (hr1_4 : Kd.C Kd.string w A1_4 l1_4.length l1_4) (hc1_4 : l1_4.length ≤ c1_4) (h : value_order.f k a0_0 a0_1 a0_2 l0_3 l0_4 a1_0 a1_1 a1_2 l1_3 l1_4 = some r),
    Calls Try.prog 32 #[.agg #[.int .i64 a0_0, .int .i64 a0_1, .string a0_2, .slice A0_3 l0_3.length c0_3, .slice A0_4 l0_4.length c0_4], .agg #[.int .i64 a1_0, .int .i64 a1_1, .string a1_2, .slice A1_3 l1_3.length c1_3, .slice A1_4 l1_4.length c1_4]] w fun e w' => e = .returned (.int .i64 r) ∧ Below w.heap.size w w' := by
  induction k using Nat.strongRecOn with
  | _ k ih =>
  intro a0_0 a0_1 a0_2 A0_3 c0_3 l0_3 A0_4 c0_4 l0_4 a1_0 a1_1 a1_2 A1_3 c1_3 l1_3 A1_4 c1_4 l1_4 r w hr0_3 hc0_3 hr0_4 hc0_4 hr1_3 hc1_3 hr1_4 hc1_4 h
  cases k with
  | zero => exact absurd h (by simp [value_order.f])
  | succ k =>
  simp only [value_order.f] at h
  have hu25 := Try.underlying25
  have HR0_3 := Aside0.mk hr0_3
  have HC0_3 := Aside0.mk hc0_3
  clear hr0_3 hc0_3
  have HR0_4 := Aside0.mk hr0_4
  have HC0_4 := Aside0.mk hc0_4
  clear hr0_4 hc0_4
  have HR1_3 := Aside0.mk hr1_3
  have HC1_3 := Aside0.mk hc1_3
  clear hr1_3 hc1_3
  have HR1_4 := Aside0.mk hr1_4
  have HC1_4 := Aside0.mk hc1_4
  clear hr1_4 hc1_4
  have HB := Aside0.mk (Below.refl w.heap.size w)
  have H : ((cmp_Compare_int.f a0_0 a1_0).bind fun t150 => ((cmp_Compare_int64.f a0_1 a1_1).bind fun t151 => ((strings_Compare.f a0_2 a1_2).bind fun t152 => ((cmp_Or_int.f k (([t150, t151, t152] : List Int))).bind fun t156 => (value_order.l0 k t156 0 a0_0 a0_1 a0_2 l0_3 l0_4 a1_0 a1_1 a1_2 l1_3 l1_4))))) = some r := h
  clear h
  replace H := Option.bind_eq_some_iff.mp H
  obtain ⟨t150, A30, H⟩ := H
  replace H : ((cmp_Compare_int64.f a0_1 a1_1).bind fun t151 => ((strings_Compare.f a0_2 a1_2).bind fun t152 => ((cmp_Or_int.f k (([t150, t151, t152] : List Int))).bind fun t156 => (value_order.l0 k t156 0 a0_0 a0_1 a0_2 l0_3 l0_4 a1_0 a1_1 a1_2 l1_3 l1_4)))) = some r := H
  have A3 := Aside0.mk A30
  clear A30
  replace H := Option.bind_eq_some_iff.mp H
  obtain ⟨t151, A40, H⟩ := H
  replace H : ((strings_Compare.f a0_2 a1_2).bind fun t152 => ((cmp_Or_int.f k (([t150, t151, t152] : List Int))).bind fun t156 => (value_order.l0 k t156 0 a0_0 a0_1 a0_2 l0_3 l0_4 a1_0 a1_1 a1_2 l1_3 l1_4))) = some r := H
  have A4 := Aside0.mk A40
  clear A40
  replace H := Option.bind_eq_some_iff.mp H
  obtain ⟨t152, A50, H⟩ := H
  replace H : ((cmp_Or_int.f k (([t150, t151, t152] : List Int))).bind fun t156 => (value_order.l0 k t156 0 a0_0 a0_1 a0_2 l0_3 l0_4 a1_0 a1_1 a1_2 l1_3 l1_4)) = some r := H
  have A5 := Aside0.mk A50
  clear A50
  obtain ⟨y153, hy153⟩ : ∃ y_ : List Int, y_ = (([t150, t151, t152] : List Int)) := ⟨_, rfl⟩
  replace H : ((cmp_Or_int.f k y153).bind fun t156 => (value_order.l0 k t156 0 a0_0 a0_1 a0_2 l0_3 l0_4 a1_0 a1_1 a1_2 l1_3 l1_4)) = some r := by first | (rw [hy153]; with_reducible exact H) | (have H2_ := (Option.bind_some _ _).symm.trans H; rw [hy153]; with_reducible exact H2_) | (have H2_ := (Option.bind_some _ _).symm.trans H; with_reducible exact H2_) | with_reducible exact H | (rw [hy153]; exact H) | exact H
  have Ny153 := Aside0.mk hy153
  clear hy153
  replace H := Option.bind_eq_some_iff.mp H
  obtain ⟨t156, A60, H⟩ := H
  replace H : (value_order.l0 k t156 0 a0_0 a0_1 a0_2 l0_3 l0_4 a1_0 a1_1 a1_2 l1_3 l1_4) = some r := H
  have A6 := Aside0.mk A60
  clear A60
  have H' := Aside0.mk H
  clear H
  go_enter Try.func32, Try.ntmps32
  try go_wp2_with (first | ((with_reducible refine gate_dst (N := 2) rfl ?_); (try (refine gate_guard (by rfl) ?_; dsimp only)); refine box_event ?hg (N := 2) ?hd (cs := #[.int .i64 a0_0, .int .i64 a0_1, .string a0_2, .slice A0_3 l0_3.length c0_3, .slice A0_4 l0_4.length c0_4]) (t := 25) ?hr ?_; (case hd => rfl); (case hg => rfl); (case hr => first | (go_simp; done) | (go_simp; rfl)); intro gb148 hg w7 hbox hb; have n0_ := Aside0.mk (below_step (by repeat (first | (with_reducible first | exact HB.out | apply below_alloc | apply pw_below_drewN | apply below_drew1) | exact HB.out)) hb); have n1_ := Aside0.mk (hbox); have n2_ := Aside0.mk ((by rw [hg]; exact (below_size (by repeat (first | (with_reducible first | exact HB.out | apply below_alloc | apply pw_below_drewN | apply below_drew1) | exact HB.out))) : w.heap.size ≤ gb148)); have n3_ := Aside0.mk ((by rw [hg]; exact (below_size (by repeat (first | (with_reducible first | exact HB.out | apply below_alloc | apply pw_below_drewN | apply below_drew1) | exact HB.out))) : w.heap.size ≤ gb148)); clear HB; have HB := n0_; have BK148 := n1_; have GW148 := n2_; have GE148 := n3_; clear n0_ n1_ n2_ n3_; clear hb hbox hg) | ((with_reducible refine gate_dst (N := 3) rfl ?_); (try (refine gate_guard (by rfl) ?_; dsimp only)); refine box_event ?hg (N := 3) ?hd (cs := #[.int .i64 a1_0, .int .i64 a1_1, .string a1_2, .slice A1_3 l1_3.length c1_3, .slice A1_4 l1_4.length c1_4]) (t := 25) ?hr ?_; (case hd => rfl); (case hg => rfl); (case hr => first | (go_simp; done) | (go_simp; rfl)); intro gb149 hg w8 hbox hb; have n0_ := Aside0.mk (blk_below (g := gb148) (o := .cells #[.int .i64 a0_0, .int .i64 a0_1, .string a0_2, .slice A0_3 l0_3.length c0_3, .slice A0_4 l0_4.length c0_4] 25 (0, 0)) (by (with_reducible repeat (first | refine blk_drewN ?_ _ | refine blk_drew ?_ | refine blk_alloc ?_ _)); exact BK148.out) hb); have n1_ := Aside0.mk (below_step (by repeat (first | (with_reducible first | exact HB.out | apply below_alloc | apply pw_below_drewN | apply below_drew1 | refine below_set ?_ GE148.out) | exact HB.out)) hb); have n2_ := Aside0.mk (hbox); have n3_ := Aside0.mk ((by rw [hg]; exact (below_size (by repeat (first | (with_reducible first | exact HB.out | apply below_alloc | apply pw_below_drewN | apply below_drew1 | refine below_set ?_ GE148.out) | exact HB.out))) : w.heap.size ≤ gb149)); have n4_ := Aside0.mk ((by rw [hg]; exact (below_size (by repeat (first | (with_reducible first | exact HB.out | apply below_alloc | apply pw_below_drewN | apply below_drew1 | refine below_set ?_ GE148.out) | exact HB.out))) : w.heap.size ≤ gb149)); have n5_ := Aside0.mk ((by rw [hg]; exact Nat.ne_of_lt (blk_lt (g := gb148) (o := .cells #[.int .i64 a0_0, .int .i64 a0_1, .string a0_2, .slice A0_3 l0_3.length c0_3, .slice A0_4 l0_4.length c0_4] 25 (0, 0)) (by (with_reducible repeat (first | refine blk_drewN ?_ _ | refine blk_drew ?_ | refine blk_alloc ?_ _)); exact BK148.out)) : gb148 ≠ gb149)); have n6_ := Aside0.mk ((by rw [hg]; exact Nat.ne_of_gt (blk_lt (g := gb148) (o := .cells #[.int .i64 a0_0, .int .i64 a0_1, .string a0_2, .slice A0_3 l0_3.length c0_3, .slice A0_4 l0_4.length c0_4] 25 (0, 0)) (by (with_reducible repeat (first | refine blk_drewN ?_ _ | refine blk_drew ?_ | refine blk_alloc ?_ _)); exact BK148.out)) : gb149 ≠ gb148)); clear BK148; clear HB; have BK148 := n0_; have HB := n1_; have BK149 := n2_; have GW149 := n3_; have GE149 := n4_; have NB148_149 := n5_; have NB149_148 := n6_; clear n0_ n1_ n2_ n3_ n4_ n5_ n6_; clear hb hbox hg))
  have n0_ := Aside0.mk (blk_drew BK148.out)
  have n1_ := Aside0.mk (blk_drew BK149.out)
  have n2_ := Aside0.mk (below_drew1 HB.out)
  clear BK148
  clear BK149
  clear HB
  have BK148 := n0_
  have BK149 := n1_
  have HB := n2_
  clear n0_ n1_ n2_
  refine start_ (n := 18) (S := fun w' => w'.cell? ⟨gb148, 0, none⟩ = some (.int .i64 a0_0) ∧ w'.cell? ⟨gb148, 1, none⟩ = some (.int .i64 a0_1) ∧ w'.cell? ⟨gb148, 2, none⟩ = some (.string a0_2) ∧ w'.cell? ⟨gb148, 3, none⟩ = some (.slice A0_3 l0_3.length c0_3) ∧ w'.cell? ⟨gb148, 4, none⟩ = some (.slice A0_4 l0_4.length c0_4) ∧ w'.cell? ⟨gb149, 0, none⟩ = some (.int .i64 a1_0) ∧ w'.cell? ⟨gb149, 1, none⟩ = some (.int .i64 a1_1) ∧ w'.cell? ⟨gb149, 2, none⟩ = some (.string a1_2) ∧ w'.cell? ⟨gb149, 3, none⟩ = some (.slice A1_3 l1_3.length c1_3) ∧ w'.cell? ⟨gb149, 4, none⟩ = some (.slice A1_4 l1_4.length c1_4)) (ds := []) #[false, false, false, false, false, false, false, false, false, false, false, false, false, false, false, false, false, false] (by kernel_rfl) rfl rfl ⟨(blk_cell BK148.out 0).trans rfl, (blk_cell BK148.out 1).trans rfl, (blk_cell BK148.out 2).trans rfl, (blk_cell BK148.out 3).trans rfl, (blk_cell BK148.out 4).trans rfl, (blk_cell BK149.out 0).trans rfl, (blk_cell BK149.out 1).trans rfl, (blk_cell BK149.out 2).trans rfl, (blk_cell BK149.out 3).trans rfl, (blk_cell BK149.out 4).trans rfl⟩ (fun hHeld => ?_); refine with_tabW value_order.tab1 value_order.bits1 (fun HT_ HW_ => ?_)
  generalize w8.drew = w9 at BK148 BK149 HB hHeld ⊢
  refine pure_ (i := 0) (N := some 7) (v := ?_) (a' := ?_) #[true, false, false, false, false, false, false, false, false, false, false, false, false, false, false, false, false, false] rfl rfl (any_of HT_.out (by kernel_rfl)) (fun _ _ _ h => h) (Or.inl ⟨by rfl, ?_⟩) ?_ ?_
  rotate_left
  · intro w'
    go_simp
    with_reducible rfl
  rotate_left
  · simp only [Act.put, List.setIfInBounds_toArray, List.set_cons_zero, List.set_cons_succ, i64_w, i32_w]
    rfl
  refine pure_ (i := 2) (N := some 9) (v := ?_) (a' := ?_) #[true, false, true, false, false, false, false, false, false, false, false, false, false, false, false, false, false, false] rfl rfl (any_of HT_.out (by kernel_rfl)) (fun _ _ _ h => h) (Or.inl ⟨by rfl, ?_⟩) ?_ ?_
  rotate_left
  · intro w'
    go_simp
    with_reducible rfl
  rotate_left
  · simp only [Act.put, List.setIfInBounds_toArray, List.set_cons_zero, List.set_cons_succ, i64_w, i32_w]
    rfl
  refine pure_ (i := 5) (N := some 12) (v := ?_) (a' := ?_) #[true, false, true, false, false, true, false, false, false, false, false, false, false, false, false, false, false, false] rfl rfl (any_of HT_.out (by kernel_rfl)) (fun _ _ _ h => h) (Or.inl ⟨by rfl, ?_⟩) ?_ ?_
  rotate_left
  · intro w'
    go_simp
    with_reducible rfl
  rotate_left
  · simp only [Act.put, List.setIfInBounds_toArray, List.set_cons_zero, List.set_cons_succ, i64_w, i32_w]
    rfl
  refine pure_ (i := 7) (N := some 14) (v := ?_) (a' := ?_) #[true, false, true, false, false, true, false, true, false, false, false, false, false, false, false, false, false, false] rfl rfl (any_of HT_.out (by kernel_rfl)) (fun _ _ _ h => h) (Or.inl ⟨by rfl, ?_⟩) ?_ ?_
  rotate_left
  · intro w'
    go_simp
    with_reducible rfl
  rotate_left
  · simp only [Act.put, List.setIfInBounds_toArray, List.set_cons_zero, List.set_cons_succ, i64_w, i32_w]
    rfl
  refine pure_ (i := 10) (N := some 17) (v := ?_) (a' := ?_) #[true, false, true, false, false, true, false, true, false, false, true, false, false, false, false, false, false, false] rfl rfl (any_of HT_.out (by kernel_rfl)) (fun _ _ _ h => h) (Or.inl ⟨by rfl, ?_⟩) ?_ ?_
  rotate_left
  · intro w'
    go_simp
    with_reducible rfl
  rotate_left
  · simp only [Act.put, List.setIfInBounds_toArray, List.set_cons_zero, List.set_cons_succ, i64_w, i32_w]
    rfl
  refine pure_ (i := 12) (N := some 19) (v := ?_) (a' := ?_) #[true, false, true, false, false, true, false, true, false, false, true, false, true, false, false, false, false, false] rfl rfl (any_of HT_.out (by kernel_rfl)) (fun _ _ _ h => h) (Or.inl ⟨by rfl, ?_⟩) ?_ ?_
  rotate_left
  · intro w'
    go_simp
    with_reducible rfl
  rotate_left
  · simp only [Act.put, List.setIfInBounds_toArray, List.set_cons_zero, List.set_cons_succ, i64_w, i32_w]
    rfl
  refine take_ (i := 1) (N := some 8) (v := ?_) (a' := ?_) #[true, true, true, false, false, true, false, true, false, false, true, false, true, false, false, false, false, false] rfl rfl (take_ofW HT_.out HW_.out (by kernel_rfl)) (fun _ _ _ h => h) (Or.inl ⟨by rfl, ?_⟩) hHeld ?_ ?_
  rotate_left
  · rintro w' ⟨s0, s1, s2, s3, s4, s5, s6, s7, s8, s9⟩
    go_simp
    with_reducible rfl
  rotate_left
  · simp only [Act.put, List.setIfInBounds_toArray, List.set_cons_zero, List.set_cons_succ, i64_w, i32_w]
    rfl
  refine take_ (i := 3) (N := some 10) (v := ?_) (a' := ?_) #[true, true, true, true, false, true, false, true, false, false, true, false, true, false, false, false, false, false] rfl rfl (take_ofW HT_.out HW_.out (by kernel_rfl)) (fun _ _ _ h => h) (Or.inl ⟨by rfl, ?_⟩) hHeld ?_ ?_
  rotate_left
  · rintro w' ⟨s0, s1, s2, s3, s4, s5, s6, s7, s8, s9⟩
    go_simp
    with_reducible rfl
  rotate_left
  · simp only [Act.put, List.setIfInBounds_toArray, List.set_cons_zero, List.set_cons_succ, i64_w, i32_w]
    rfl
  refine take_ (i := 6) (N := some 13) (v := ?_) (a' := ?_) #[true, true, true, true, false, true, true, true, false, false, true, false, true, false, false, false, false, false] rfl rfl (take_ofW HT_.out HW_.out (by kernel_rfl)) (fun _ _ _ h => h) (Or.inl ⟨by rfl, ?_⟩) hHeld ?_ ?_
  rotate_left
  · rintro w' ⟨s0, s1, s2, s3, s4, s5, s6, s7, s8, s9⟩
    go_simp
    with_reducible rfl
  rotate_left
  · simp only [Act.put, List.setIfInBounds_toArray, List.set_cons_zero, List.set_cons_succ, i64_w, i32_w]
    rfl
  refine take_ (i := 8) (N := some 15) (v := ?_) (a' := ?_) #[true, true, true, true, false, true, true, true, true, false, true, false, true, false, false, false, false, false] rfl rfl (take_ofW HT_.out HW_.out (by kernel_rfl)) (fun _ _ _ h => h) (Or.inl ⟨by rfl, ?_⟩) hHeld ?_ ?_
  rotate_left
  · rintro w' ⟨s0, s1, s2, s3, s4, s5, s6, s7, s8, s9⟩
    go_simp
    with_reducible rfl
  rotate_left
  · simp only [Act.put, List.setIfInBounds_toArray, List.set_cons_zero, List.set_cons_succ, i64_w, i32_w]
    rfl
  refine take_ (i := 11) (N := some 18) (v := ?_) (a' := ?_) #[true, true, true, true, false, true, true, true, true, false, true, true, true, false, false, false, false, false] rfl rfl (take_ofW HT_.out HW_.out (by kernel_rfl)) (fun _ _ _ h => h) (Or.inl ⟨by rfl, ?_⟩) hHeld ?_ ?_
  rotate_left
  · rintro w' ⟨s0, s1, s2, s3, s4, s5, s6, s7, s8, s9⟩
    go_simp
    with_reducible rfl
  rotate_left
  · simp only [Act.put, List.setIfInBounds_toArray, List.set_cons_zero, List.set_cons_succ, i64_w, i32_w]
    rfl
  refine take_ (i := 13) (N := some 20) (v := ?_) (a' := ?_) #[true, true, true, true, false, true, true, true, true, false, true, true, true, true, false, false, false, false] rfl rfl (take_ofW HT_.out HW_.out (by kernel_rfl)) (fun _ _ _ h => h) (Or.inl ⟨by rfl, ?_⟩) hHeld ?_ ?_
  rotate_left
  · rintro w' ⟨s0, s1, s2, s3, s4, s5, s6, s7, s8, s9⟩
    go_simp
    with_reducible rfl
  rotate_left
  · simp only [Act.put, List.setIfInBounds_toArray, List.set_cons_zero, List.set_cons_succ, i64_w, i32_w]
    rfl
  refine one_ (i := 4) (N := some 11) #[true, true, true, true, true, true, true, true, true, false, true, true, true, true, false, false, false, false] rfl rfl (one_of HT_.out (by kernel_rfl)) (by decide) (fun K hK => ?_)
  refine goes_ Try.func56 (by kernel_rfl) rfl #[.int .i64 a0_0, .int .i64 a1_0] (by rfl) rfl rfl (by (try simp only [List.map_toArray, List.map_cons, List.map_nil]); first | done | rfl | (simp only [List.length_drop, List.length_take]; rfl)) ?_
  with_reducible refine (cmp_Compare_int.calls a0_0 a1_0 t150 _ A3.out).mono ?_
  rintro e w' ⟨rfl, ⟨nd, rfl⟩⟩
  refine ⟨_, rfl, ?_⟩
  refine hK.out _ _ ⟨(blk_cell BK148.out 0).trans rfl, (blk_cell BK148.out 1).trans rfl, (blk_cell BK148.out 2).trans rfl, (blk_cell BK148.out 3).trans rfl, (blk_cell BK148.out 4).trans rfl, (blk_cell BK149.out 0).trans rfl, (blk_cell BK149.out 1).trans rfl, (blk_cell BK149.out 2).trans rfl, (blk_cell BK149.out 3).trans rfl, (blk_cell BK149.out 4).trans rfl⟩ (fun hHeld => ?_)
  clear hK K
  refine norm_ (a' := ?_) ?_ ?_
  rotate_left
  · show Act.put _ (some 11) _ = _
    simp only [Act.put, List.setIfInBounds_toArray, List.set_cons_zero, List.set_cons_succ, i64_w, i32_w]
    rfl
  refine one_ (i := 9) (N := some 16) #[true, true, true, true, true, true, true, true, true, true, true, true, true, true, false, false, false, false] rfl rfl (one_of HT_.out (by kernel_rfl)) (by decide) (fun K hK => ?_)
  refine goes_ Try.func57 (by kernel_rfl) rfl #[.int .i64 a0_1, .int .i64 a1_1] (by rfl) rfl rfl (by (try simp only [List.map_toArray, List.map_cons, List.map_nil]); first | done | rfl | (simp only [List.length_drop, List.length_take]; rfl)) ?_
  with_reducible refine (cmp_Compare_int64.calls a0_1 a1_1 t151 _ A4.out).mono ?_
  rintro e w' ⟨rfl, ⟨nd, rfl⟩⟩
  refine ⟨_, rfl, ?_⟩
  refine hK.out _ _ ⟨(blk_cell BK148.out 0).trans rfl, (blk_cell BK148.out 1).trans rfl, (blk_cell BK148.out 2).trans rfl, (blk_cell BK148.out 3).trans rfl, (blk_cell BK148.out 4).trans rfl, (blk_cell BK149.out 0).trans rfl, (blk_cell BK149.out 1).trans rfl, (blk_cell BK149.out 2).trans rfl, (blk_cell BK149.out 3).trans rfl, (blk_cell BK149.out 4).trans rfl⟩ (fun hHeld => ?_)
  clear hK K
  refine norm_ (a' := ?_) ?_ ?_
  rotate_left
  · show Act.put _ (some 16) _ = _
    simp only [Act.put, List.setIfInBounds_toArray, List.set_cons_zero, List.set_cons_succ, i64_w, i32_w]
    rfl
  refine one_ (i := 14) (N := some 21) #[true, true, true, true, true, true, true, true, true, true, true, true, true, true, true, false, false, false] rfl rfl (one_of HT_.out (by kernel_rfl)) (by decide) (fun K hK => ?_)
  refine goes_ Try.func49 (by kernel_rfl) rfl #[.string a0_2, .string a1_2] (by rfl) rfl rfl (by (try simp only [List.map_toArray, List.map_cons, List.map_nil]); first | done | rfl | (simp only [List.length_drop, List.length_take]; rfl)) ?_
  with_reducible refine (strings_Compare.calls a0_2 a1_2 t152 _ A5.out).mono ?_
  rintro e w' ⟨rfl, ⟨nd, rfl⟩⟩
  refine ⟨_, rfl, ?_⟩
  refine hK.out _ _ ⟨(blk_cell BK148.out 0).trans rfl, (blk_cell BK148.out 1).trans rfl, (blk_cell BK148.out 2).trans rfl, (blk_cell BK148.out 3).trans rfl, (blk_cell BK148.out 4).trans rfl, (blk_cell BK149.out 0).trans rfl, (blk_cell BK149.out 1).trans rfl, (blk_cell BK149.out 2).trans rfl, (blk_cell BK149.out 3).trans rfl, (blk_cell BK149.out 4).trans rfl⟩ (fun hHeld => ?_)
  clear hK K
  refine norm_ (a' := ?_) ?_ ?_
  rotate_left
  · show Act.put _ (some 21) _ = _
    simp only [Act.put, List.setIfInBounds_toArray, List.set_cons_zero, List.set_cons_succ, i64_w, i32_w]
    rfl
  refine one_ (i := 15) (N := some 22) #[true, true, true, true, true, true, true, true, true, true, true, true, true, true, true, true, false, false] rfl rfl (one_of HT_.out (by kernel_rfl)) (by decide) (fun K hK => ?_)
  refine Kd.R_lit_step (Kd.int .i64) _ 3 ?hg (N := 22) ?hd (xs := ([t150, t151, t152] : List Int)) (inner := [.int .i64 t150, .int .i64 t151, .int .i64 t152]) (ok := fun _ => True) (okp := fun _ => True) ?hr ?hp (fun _ hk => hk) trivial (Below.refl _ _) (Nat.le_refl _) (by simp) ?_; (case hd => rfl); (case hg => rfl); (case hr => first | (go_simp; done) | (go_simp; rfl)); (case hp => exact (Reps.one (show Kd.M (Kd.int .i64) _ _ _ t150 [.int .i64 t150] from rfl) (Reps.one (show Kd.M (Kd.int .i64) _ _ _ t151 [.int .i64 t151] from rfl) (Reps.one (show Kd.M (Kd.int .i64) _ _ _ t152 [.int .i64 t152] from rfl) (Reps.none _ _)))))
  intro v154 w10 ho11 hb hg_ hnew_
  clear hg_ hnew_
  (first | rw [← Ny153.out] at ho11 | (simp only [Int.reduceToNat] at ho11; rw [← Ny153.out] at ho11))
  have n0_ := Aside0.mk (Kd.R_lower ho11 (below_size (by repeat (first | (with_reducible first | exact HB.out | apply below_alloc | apply pw_below_drewN | apply below_drew1 | refine below_set ?_ GE148.out | refine below_set ?_ GE149.out) | exact HB.out))))
  have n1_ := Aside0.mk (blk_below (g := gb148) (o := .cells #[.int .i64 a0_0, .int .i64 a0_1, .string a0_2, .slice A0_3 l0_3.length c0_3, .slice A0_4 l0_4.length c0_4] 25 (0, 0)) (by (with_reducible repeat (first | refine blk_drewN ?_ _ | refine blk_drew ?_ | refine blk_alloc ?_ _)); exact BK148.out) hb)
  have n2_ := Aside0.mk (blk_below (g := gb149) (o := .cells #[.int .i64 a1_0, .int .i64 a1_1, .string a1_2, .slice A1_3 l1_3.length c1_3, .slice A1_4 l1_4.length c1_4] 25 (0, 0)) (by (with_reducible repeat (first | refine blk_drewN ?_ _ | refine blk_drew ?_ | refine blk_alloc ?_ _)); exact BK149.out) hb)
  have n3_ := Aside0.mk (below_step (by repeat (first | (with_reducible first | exact HB.out | apply below_alloc | apply pw_below_drewN | apply below_drew1 | refine below_set ?_ GE148.out | refine below_set ?_ GE149.out) | exact HB.out)) hb)
  clear BK148
  clear BK149
  clear HB
  have HO155 := n0_
  have BK148 := n1_
  have BK149 := n2_
  have HB := n3_
  clear n0_ n1_ n2_ n3_
  clear hb ho11
  obtain ⟨Ao12, co12, eo12⟩ := Kd.R_slice HO155.out
  (first | subst eo12 | (injection eo12 with f1_ f2_ f3_; have f4_ := f1_.symm; have f5_ := f3_.symm; clear f1_ f2_ f3_; subst f4_; subst f5_))
  refine hK.out _ _ ⟨(blk_cell BK148.out 0).trans rfl, (blk_cell BK148.out 1).trans rfl, (blk_cell BK148.out 2).trans rfl, (blk_cell BK148.out 3).trans rfl, (blk_cell BK148.out 4).trans rfl, (blk_cell BK149.out 0).trans rfl, (blk_cell BK149.out 1).trans rfl, (blk_cell BK149.out 2).trans rfl, (blk_cell BK149.out 3).trans rfl, (blk_cell BK149.out 4).trans rfl⟩ (fun hHeld => ?_)
  clear hK K
  refine norm_ (a' := ?_) ?_ ?_
  rotate_left
  · show Act.put _ (some 22) _ = _
    simp only [Act.put, List.setIfInBounds_toArray, List.set_cons_zero, List.set_cons_succ, i64_w, i32_w]
    rfl
  refine one_ (i := 16) (N := some 23) #[true, true, true, true, true, true, true, true, true, true, true, true, true, true, true, true, true, false] rfl rfl (one_of HT_.out (by kernel_rfl)) (by decide) (fun K hK => ?_)
  refine goes_ Try.func55 (by kernel_rfl) rfl #[.slice Ao12 y153.length co12] (by rfl) rfl rfl (by (try simp only [List.map_toArray, List.map_cons, List.map_nil]); first | done | rfl | (simp only [List.length_drop, List.length_take]; rfl)) ?_
  with_reducible refine (cmp_Or_int.calls k _ _ y153 t156 _ ?side1 ?side2 A6.out).mono ?_
  (case side1 => repeat (first | exact (Kd.R_reads' HO155.out).2.2 | (with_reducible refine Kd.C_alloc ?_ _) | (with_reducible refine Kd.C_drewN ?_ _) | (with_reducible refine Kd.C_drew ?_)))
  (case side2 => exact (Kd.R_reads' HO155.out).2.1)
  rintro e w' ⟨rfl, ⟨nd, rfl⟩⟩
  refine ⟨_, rfl, ?_⟩
  refine hK.out _ _ ⟨(blk_cell BK148.out 0).trans rfl, (blk_cell BK148.out 1).trans rfl, (blk_cell BK148.out 2).trans rfl, (blk_cell BK148.out 3).trans rfl, (blk_cell BK148.out 4).trans rfl, (blk_cell BK149.out 0).trans rfl, (blk_cell BK149.out 1).trans rfl, (blk_cell BK149.out 2).trans rfl, (blk_cell BK149.out 3).trans rfl, (blk_cell BK149.out 4).trans rfl⟩ (fun hHeld => ?_)
  clear hK K
  refine norm_ (a' := ?_) ?_ ?_
  rotate_left
  · show Act.put _ (some 23) _ = _
    simp only [Act.put, List.setIfInBounds_toArray, List.set_cons_zero, List.set_cons_succ, i64_w, i32_w]
    rfl
  refine pure_ (i := 17) (N := some 5) (v := ?_) (a' := ?_) #[true, true, true, true, true, true, true, true, true, true, true, true, true, true, true, true, true, true] rfl rfl (any_of HT_.out (by kernel_rfl)) (fun _ _ _ h => h) (Or.inl ⟨by rfl, ?_⟩) ?_ ?_
  rotate_left
  · intro w'
    go_simp
    with_reducible rfl
  rotate_left
  · simp only [Act.put, List.setIfInBounds_toArray, List.set_cons_zero, List.set_cons_succ, i64_w, i32_w]
    rfl
  refine done_ (done_of HT_.out (by kernel_rfl)) ?_
  try go_wp2
  go_loopg [5, 6] k (fun kq v5 v6 w' => ∃ (x5_1 : Int) (x6_1 : Int), v5 = .int .i64 x5_1 ∧ v6 = .int .i64 x6_1 ∧ Aside0 (value_order.l0 kq x5_1 x6_1 a0_0 a0_1 a0_2 l0_3 l0_4 a1_0 a1_1 a1_2 l1_3 l1_4 = some r) ∧ Aside0 (kq ≤ k) ∧ Aside0 (w'.heap[gb148]? = some (.cells #[.int .i64 a0_0, .int .i64 a0_1, .string a0_2, (.slice A0_3 l0_3.length c0_3), (.slice A0_4 l0_4.length c0_4)] 25 (0, 0))) ∧ Aside0 (w'.heap[gb149]? = some (.cells #[.int .i64 a1_0, .int .i64 a1_1, .string a1_2, (.slice A1_3 l1_3.length c1_3), (.slice A1_4 l1_4.length c1_4)] 25 (0, 0))) ∧ Aside0 (Below w.heap.size w w'))
  case atStart => exact ⟨(t156), (0), (by first | rfl | (simp; done) | (simp [*]; done)), (by first | rfl | (simp; done) | (simp [*]; done)), H', ⟨Nat.le_refl _⟩, ⟨by (with_reducible repeat (first | refine blk_drewN ?_ _ | refine blk_drew ?_ | refine blk_alloc ?_ _)); exact BK148.out⟩, ⟨by (with_reducible repeat (first | refine blk_drewN ?_ _ | refine blk_drew ?_ | refine blk_alloc ?_ _)); exact BK149.out⟩, ⟨by repeat (first | (with_reducible first | exact HB.out | apply below_alloc | apply pw_below_drewN | apply below_drew1 | refine below_set ?_ GE148.out | refine below_set ?_ GE149.out) | exact HB.out)⟩⟩
  case round =>
    clear H'
    try clear c1
    try clear p2
    try clear c3
    try clear c4
    try clear c5
    obtain ⟨x5_1, x6_1, rfl, rfl, HA, HK1, BK148, BK149, HB⟩ := hrel
    cases gk with
    | zero => exact absurd HA.out (by simp [value_order.l0])
    | succ k1 =>
      have H := HA.out
      clear HA
      simp only [value_order.l0] at H
      have HC13 := Aside0.mk H
      clear H
      go_upto_region 3 with (fail)
      go_cut [39] (fun v39 wc => ∃ (kq : Nat) (x39_12 : Bool), v39 = .bool x39_12 ∧ Aside0 (value_order.j1 kq x5_1 x6_1 x39_12 a0_0 a0_1 a0_2 l0_3 l0_4 a1_0 a1_1 a1_2 l1_3 l1_4 = some r) ∧ Aside0 (kq ≤ k1) ∧ Aside0 (wc.heap[gb148]? = some (.cells #[.int .i64 a0_0, .int .i64 a0_1, .string a0_2, (.slice A0_3 l0_3.length c0_3), (.slice A0_4 l0_4.length c0_4)] 25 (0, 0))) ∧ Aside0 (wc.heap[gb149]? = some (.cells #[.int .i64 a1_0, .int .i64 a1_1, .string a1_2, (.slice A1_3 l1_3.length c1_3), (.slice A1_4 l1_4.length c1_4)] 25 (0, 0))) ∧ Aside0 (Below w.heap.size w wc))
      case first =>
        have H := HC13.out
        clear HC13
        by_cases c14 : x5_1 = 0
        · rw [if_pos c14] at H
          have c14b0 : (x5_1 == 0) = true := beq_iff_eq.mpr c14
          have c14b1 : (x5_1 != 0) = false := bne_eq_false_iff_eq.mpr c14
          clear c14
          (first | rw [c14b0] | (simp only [i64_w, i32_w]; rw [c14b0]) | skip)
          by_cases c15 : x6_1 < (l0_3.length : Int)
          · rw [if_pos c15] at H
            have c15b0 : decide (x6_1 < (l0_3.length : Int)) = true := decide_eq_true c15
            clear c15
            have H' := Aside0.mk H
            clear H
            have hnb16 := NB148_149.out
            have hnc16 := NB149_148.out
            have hcz17_0 : wr.cell? ⟨gb148, 0, none⟩ = some (.int .i64 a0_0) := (blk_cell BK148.out 0).trans rfl
            have hcz17_1 : wr.cell? ⟨gb148, 1, none⟩ = some (.int .i64 a0_1) := (blk_cell BK148.out 1).trans rfl
            have hcz17_2 : wr.cell? ⟨gb148, 2, none⟩ = some (.string a0_2) := (blk_cell BK148.out 2).trans rfl
            have hcz17_3 : wr.cell? ⟨gb148, 3, none⟩ = some (.slice A0_3 l0_3.length c0_3) := (blk_cell BK148.out 3).trans rfl
            have hcz17_4 : wr.cell? ⟨gb148, 4, none⟩ = some (.slice A0_4 l0_4.length c0_4) := (blk_cell BK148.out 4).trans rfl
            have hfz17_0 := blk_frozen BK148.out 0
            have hfz17_1 := blk_frozen BK148.out 1
            have hfz17_2 := blk_frozen BK148.out 2
            have hfz17_3 := blk_frozen BK148.out 3
            have hfz17_4 := blk_frozen BK148.out 4
            have hcz18_0 : wr.cell? ⟨gb149, 0, none⟩ = some (.int .i64 a1_0) := (blk_cell BK149.out 0).trans rfl
            have hcz18_1 : wr.cell? ⟨gb149, 1, none⟩ = some (.int .i64 a1_1) := (blk_cell BK149.out 1).trans rfl
            have hcz18_2 : wr.cell? ⟨gb149, 2, none⟩ = some (.string a1_2) := (blk_cell BK149.out 2).trans rfl
            have hcz18_3 : wr.cell? ⟨gb149, 3, none⟩ = some (.slice A1_3 l1_3.length c1_3) := (blk_cell BK149.out 3).trans rfl
            have hcz18_4 : wr.cell? ⟨gb149, 4, none⟩ = some (.slice A1_4 l1_4.length c1_4) := (blk_cell BK149.out 4).trans rfl
            have hfz18_0 := blk_frozen BK149.out 0
            have hfz18_1 := blk_frozen BK149.out 1
            have hfz18_2 := blk_frozen BK149.out 2
            have hfz18_3 := blk_frozen BK149.out 3
            have hfz18_4 := blk_frozen BK149.out 4
            go_wp2
            go_meet
            case rel => exact ⟨_, (decide (x6_1 < (l1_3.length : Int))), (by first | rfl | (simp; done) | (simp [*]; done)), H', ⟨by have := HK1.out; first | omega | exact Nat.le_refl _⟩, ⟨by (with_reducible repeat (first | refine blk_drewN ?_ _ | refine blk_drew ?_ | refine blk_alloc ?_ _)); exact BK148.out⟩, ⟨by (with_reducible repeat (first | refine blk_drewN ?_ _ | refine blk_drew ?_ | refine blk_alloc ?_ _)); exact BK149.out⟩, ⟨by repeat (first | (with_reducible first | exact HB.out | apply below_alloc | apply pw_below_drewN | apply below_drew1 | refine below_set ?_ GE148.out | refine below_set ?_ GE149.out) | exact HB.out)⟩⟩
          · rw [if_neg c15] at H
            have c15b0 : decide (x6_1 < (l0_3.length : Int)) = false := decide_eq_false c15
            clear c15
            have H' := Aside0.mk H
            clear H
            have hnb19 := NB148_149.out
            have hnc19 := NB149_148.out
            have hcz20_0 : wr.cell? ⟨gb148, 0, none⟩ = some (.int .i64 a0_0) := (blk_cell BK148.out 0).trans rfl
            have hcz20_1 : wr.cell? ⟨gb148, 1, none⟩ = some (.int .i64 a0_1) := (blk_cell BK148.out 1).trans rfl
            have hcz20_2 : wr.cell? ⟨gb148, 2, none⟩ = some (.string a0_2) := (blk_cell BK148.out 2).trans rfl
            have hcz20_3 : wr.cell? ⟨gb148, 3, none⟩ = some (.slice A0_3 l0_3.length c0_3) := (blk_cell BK148.out 3).trans rfl
            have hcz20_4 : wr.cell? ⟨gb148, 4, none⟩ = some (.slice A0_4 l0_4.length c0_4) := (blk_cell BK148.out 4).trans rfl
            have hfz20_0 := blk_frozen BK148.out 0
            have hfz20_1 := blk_frozen BK148.out 1
            have hfz20_2 := blk_frozen BK148.out 2
            have hfz20_3 := blk_frozen BK148.out 3
            have hfz20_4 := blk_frozen BK148.out 4
            go_wp2
            go_meet
            case rel => exact ⟨_, (false), (by first | rfl | (simp; done) | (simp [*]; done)), H', ⟨by have := HK1.out; first | omega | exact Nat.le_refl _⟩, ⟨by (with_reducible repeat (first | refine blk_drewN ?_ _ | refine blk_drew ?_ | refine blk_alloc ?_ _)); exact BK148.out⟩, ⟨by (with_reducible repeat (first | refine blk_drewN ?_ _ | refine blk_drew ?_ | refine blk_alloc ?_ _)); exact BK149.out⟩, ⟨by repeat (first | (with_reducible first | exact HB.out | apply below_alloc | apply pw_below_drewN | apply below_drew1 | refine below_set ?_ GE148.out | refine below_set ?_ GE149.out) | exact HB.out)⟩⟩
        · rw [if_neg c14] at H
          have c14b0 : (x5_1 == 0) = false := beq_eq_false_iff_ne.mpr c14
          have c14b1 : (x5_1 != 0) = true := bne_iff_ne.mpr c14
          (first | rw [c14b0] | (simp only [i64_w, i32_w]; rw [c14b0]) | skip)
          have H' := Aside0.mk H
          clear H
          go_wp2
          go_meet
          case rel => exact ⟨_, (false), (by first | rfl | (simp; done) | (simp [*]; done)), H', ⟨by have := HK1.out; first | omega | exact Nat.le_refl _⟩, ⟨by (with_reducible repeat (first | refine blk_drewN ?_ _ | refine blk_drew ?_ | refine blk_alloc ?_ _)); exact BK148.out⟩, ⟨by (with_reducible repeat (first | refine blk_drewN ?_ _ | refine blk_drew ?_ | refine blk_alloc ?_ _)); exact BK149.out⟩, ⟨by repeat (first | (with_reducible first | exact HB.out | apply below_alloc | apply pw_below_drewN | apply below_drew1 | refine below_set ?_ GE148.out | refine below_set ?_ GE149.out) | exact HB.out)⟩⟩
      case rest =>
        clear HC13
        try clear c1
        try clear p2
        try clear c3
        try clear c4
        try clear c5
        try clear c14
        try clear c14b0
        try clear c14b1
        try clear c15
        try clear c15b0
        try clear c16
        try clear c19
        try clear hcz17_0
        try clear hcz17_1
        try clear hcz17_2
        try clear hcz17_3
        try clear hcz17_4
        try clear hcz18_0
        try clear hcz18_1
        try clear hcz18_2
        try clear hcz18_3
        try clear hcz18_4
        try clear hcz20_0
        try clear hcz20_1
        try clear hcz20_2
        try clear hcz20_3
        try clear hcz20_4
        try clear hfz17_0
        try clear hfz17_1
        try clear hfz17_2
        try clear hfz17_3
        try clear hfz17_4
        try clear hfz18_0
        try clear hfz18_1
        try clear hfz18_2
        try clear hfz18_3
        try clear hfz18_4
        try clear hfz20_0
        try clear hfz20_1
        try clear hfz20_2
        try clear hfz20_3
        try clear hfz20_4
        try clear p2
        obtain ⟨kq, x39_12, rfl, HA, HJ12, BK148, BK149, HB⟩ := hcut
        cases kq with
        | zero => exact absurd HA.out (by simp [value_order.j1])
        | succ kj12 =>
          have H := HA.out
          clear HA
          simp only [value_order.j1] at H
          by_cases c21 : x39_12 = true
          · subst c21
            have H1 : (if a0_0 = 5 then (if 0 ≤ x6_1 then (if x6_1 < (l0_4.length : Int) then (if x6_1 < (l1_4.length : Int) then ((strings_Compare.f (rdOf ByteArray.empty l0_4 x6_1) (rdOf ByteArray.empty l1_4 x6_1)).bind fun t164 => (if t164 = 0 then (if x6_1 < (l0_3.length : Int) then (if x6_1 < (l1_3.length : Int) then ((value_order.f kj12 ((rd_T25 l0_3 x6_1).f0) ((rd_T25 l0_3 x6_1).f1) ((rd_T25 l0_3 x6_1).f2) ((rd_T25 l0_3 x6_1).f3) ((rd_T25 l0_3 x6_1).f4) ((rd_T25 l1_3 x6_1).f0) ((rd_T25 l1_3 x6_1).f1) ((rd_T25 l1_3 x6_1).f2) ((rd_T25 l1_3 x6_1).f3) ((rd_T25 l1_3 x6_1).f4)).bind fun t167 => (value_order.l0 kj12 t167 (wrap64 (x6_1 + 1)) a0_0 a0_1 a0_2 l0_3 l0_4 a1_0 a1_1 a1_2 l1_3 l1_4)) else (none)) else (none)) else (value_order.l0 kj12 t164 (wrap64 (x6_1 + 1)) a0_0 a0_1 a0_2 l0_3 l0_4 a1_0 a1_1 a1_2 l1_3 l1_4))) else (none)) else (none)) else (none)) else (if x5_1 = 0 then (if 0 ≤ x6_1 then (if x6_1 < (l0_3.length : Int) then (if x6_1 < (l1_3.length : Int) then ((value_order.f kj12 ((rd_T25 l0_3 x6_1).f0) ((rd_T25 l0_3 x6_1).f1) ((rd_T25 l0_3 x6_1).f2) ((rd_T25 l0_3 x6_1).f3) ((rd_T25 l0_3 x6_1).f4) ((rd_T25 l1_3 x6_1).f0) ((rd_T25 l1_3 x6_1).f1) ((rd_T25 l1_3 x6_1).f2) ((rd_T25 l1_3 x6_1).f3) ((rd_T25 l1_3 x6_1).f4)).bind fun t170 => (value_order.l0 kj12 t170 (wrap64 (x6_1 + 1)) a0_0 a0_1 a0_2 l0_3 l0_4 a1_0 a1_1 a1_2 l1_3 l1_4)) else (none)) else (none)) else (none)) else (value_order.l0 kj12 x5_1 (wrap64 (x6_1 + 1)) a0_0 a0_1 a0_2 l0_3 l0_4 a1_0 a1_1 a1_2 l1_3 l1_4))) = some r := by rw [if_pos rfl] at H; exact H
            clear H
            have H := H1
            clear H1
            by_cases c22 : a0_0 = 5
            · rw [if_pos c22] at H
              have c22b0 : (a0_0 == 5) = true := beq_iff_eq.mpr c22
              have c22b1 : (a0_0 != 5) = false := bne_eq_false_iff_eq.mpr c22
              clear c22
              by_cases c23 : 0 ≤ x6_1
              · rw [if_pos c23] at H
                have c23b0 : decide (0 ≤ x6_1) = true := decide_eq_true c23
                clear c23
                by_cases c24 : x6_1 < (l0_4.length : Int)
                · rw [if_pos c24] at H
                  have c24b0 : decide (x6_1 < (l0_4.length : Int)) = true := decide_eq_true c24
                  clear c24
                  by_cases c25 : x6_1 < (l1_4.length : Int)
                  · rw [if_pos c25] at H
                    have c25b0 : decide (x6_1 < (l1_4.length : Int)) = true := decide_eq_true c25
                    clear c25
                    replace H := Option.bind_eq_some_iff.mp H
                    obtain ⟨t164, A260, H⟩ := H
                    replace H : (if t164 = 0 then (if x6_1 < (l0_3.length : Int) then (if x6_1 < (l1_3.length : Int) then ((value_order.f kj12 ((rd_T25 l0_3 x6_1).f0) ((rd_T25 l0_3 x6_1).f1) ((rd_T25 l0_3 x6_1).f2) ((rd_T25 l0_3 x6_1).f3) ((rd_T25 l0_3 x6_1).f4) ((rd_T25 l1_3 x6_1).f0) ((rd_T25 l1_3 x6_1).f1) ((rd_T25 l1_3 x6_1).f2) ((rd_T25 l1_3 x6_1).f3) ((rd_T25 l1_3 x6_1).f4)).bind fun t167 => (value_order.l0 kj12 t167 (wrap64 (x6_1 + 1)) a0_0 a0_1 a0_2 l0_3 l0_4 a1_0 a1_1 a1_2 l1_3 l1_4)) else (none)) else (none)) else (value_order.l0 kj12 t164 (wrap64 (x6_1 + 1)) a0_0 a0_1 a0_2 l0_3 l0_4 a1_0 a1_1 a1_2 l1_3 l1_4)) = some r := H
                    have A26 := Aside0.mk A260
                    clear A260
                    by_cases c27 : t164 = 0
                    · rw [if_pos c27] at H
                      have c27b0 : (t164 == 0) = true := beq_iff_eq.mpr c27
                      have c27b1 : (t164 != 0) = false := bne_eq_false_iff_eq.mpr c27
                      clear c27
                      by_cases c28 : x6_1 < (l0_3.length : Int)
                      · rw [if_pos c28] at H
                        have c28b0 : decide (x6_1 < (l0_3.length : Int)) = true := decide_eq_true c28
                        clear c28
                        by_cases c29 : x6_1 < (l1_3.length : Int)
                        · rw [if_pos c29] at H
                          have c29b0 : decide (x6_1 < (l1_3.length : Int)) = true := decide_eq_true c29
                          clear c29
                          replace H := Option.bind_eq_some_iff.mp H
                          obtain ⟨t167, A300, H⟩ := H
                          replace H : (value_order.l0 kj12 t167 (wrap64 (x6_1 + 1)) a0_0 a0_1 a0_2 l0_3 l0_4 a1_0 a1_1 a1_2 l1_3 l1_4) = some r := H
                          have A30 := Aside0.mk A300
                          clear A300
                          have H' := Aside0.mk H
                          clear H
                          have hnb31 := NB148_149.out
                          have hnc31 := NB149_148.out
                          have hcz32_0 : wc.cell? ⟨gb148, 0, none⟩ = some (.int .i64 a0_0) := (blk_cell BK148.out 0).trans rfl
                          have hcz32_1 : wc.cell? ⟨gb148, 1, none⟩ = some (.int .i64 a0_1) := (blk_cell BK148.out 1).trans rfl
                          have hcz32_2 : wc.cell? ⟨gb148, 2, none⟩ = some (.string a0_2) := (blk_cell BK148.out 2).trans rfl
                          have hcz32_3 : wc.cell? ⟨gb148, 3, none⟩ = some (.slice A0_3 l0_3.length c0_3) := (blk_cell BK148.out 3).trans rfl
                          have hcz32_4 : wc.cell? ⟨gb148, 4, none⟩ = some (.slice A0_4 l0_4.length c0_4) := (blk_cell BK148.out 4).trans rfl
                          have hfz32_0 := blk_frozen BK148.out 0
                          have hfz32_1 := blk_frozen BK148.out 1
                          have hfz32_2 := blk_frozen BK148.out 2
                          have hfz32_3 := blk_frozen BK148.out 3
                          have hfz32_4 := blk_frozen BK148.out 4
                          try go_wp2
                          have n0_ := Aside0.mk (blk_drew BK148.out)
                          have n1_ := Aside0.mk (blk_drew BK149.out)
                          have n2_ := Aside0.mk (below_drew1 HB.out)
                          clear BK148
                          clear BK149
                          clear HB
                          have BK148 := n0_
                          have BK149 := n1_
                          have HB := n2_
                          clear n0_ n1_ n2_
                          have p162 : 0 ≤ (x6_1 : Int) := of_decide_eq_true (by first | (with_reducible assumption) | assumption)
                          have q162 : x6_1 < (l0_4.length : Int) := of_decide_eq_true (by first | (with_reducible assumption) | assumption)
                          obtain ⟨ad162, e162, hx162_0⟩ := Kd.at_string HR0_4.out x6_1 p162 q162
                          have hw162_0 := hx162_0
                          cases e162
                          replace hx162_0 := (HB.out.cell (World.block_lt_of_cell? w _ hx162_0)).trans hx162_0
                          replace p162 := eq_true p162
                          replace q162 := eq_true q162
                          have p163 : 0 ≤ (x6_1 : Int) := of_decide_eq_true (by first | (with_reducible assumption) | assumption)
                          have q163 : x6_1 < (l1_4.length : Int) := of_decide_eq_true (by first | (with_reducible assumption) | assumption)
                          obtain ⟨ad163, e163, hx163_0⟩ := Kd.at_string HR1_4.out x6_1 p163 q163
                          have hw163_0 := hx163_0
                          cases e163
                          replace hx163_0 := (HB.out.cell (World.block_lt_of_cell? w _ hx163_0)).trans hx163_0
                          replace p163 := eq_true p163
                          replace q163 := eq_true q163
                          refine start_ (n := 12) (S := fun w' => w'.cell? ⟨gb148, 0, none⟩ = some (.int .i64 a0_0) ∧ w'.cell? ⟨gb148, 1, none⟩ = some (.int .i64 a0_1) ∧ w'.cell? ⟨gb148, 2, none⟩ = some (.string a0_2) ∧ w'.cell? ⟨gb148, 3, none⟩ = some (.slice A0_3 l0_3.length c0_3) ∧ w'.cell? ⟨gb148, 4, none⟩ = some (.slice (some ad162) l0_4.length c0_4) ∧ w'.cell? ⟨gb149, 0, none⟩ = some (.int .i64 a1_0) ∧ w'.cell? ⟨gb149, 1, none⟩ = some (.int .i64 a1_1) ∧ w'.cell? ⟨gb149, 2, none⟩ = some (.string a1_2) ∧ w'.cell? ⟨gb149, 3, none⟩ = some (.slice A1_3 l1_3.length c1_3) ∧ w'.cell? ⟨gb149, 4, none⟩ = some (.slice (some ad163) l1_4.length c1_4) ∧ w'.cell? (ad162.add (x6_1).toNat) = some (.string (rdOf ByteArray.empty l0_4 x6_1)) ∧ w'.cell? (ad163.add (x6_1).toNat) = some (.string (rdOf ByteArray.empty l1_4 x6_1))) (ds := []) #[false, false, false, false, false, false, false, false, false, false, false, false] (by kernel_rfl) rfl rfl ⟨(blk_cell BK148.out 0).trans rfl, (blk_cell BK148.out 1).trans rfl, (blk_cell BK148.out 2).trans rfl, (blk_cell BK148.out 3).trans rfl, (blk_cell BK148.out 4).trans rfl, (blk_cell BK149.out 0).trans rfl, (blk_cell BK149.out 1).trans rfl, (blk_cell BK149.out 2).trans rfl, (blk_cell BK149.out 3).trans rfl, (blk_cell BK149.out 4).trans rfl, ((HB.out.cell (World.block_lt_of_cell? w _ hw162_0)).trans hw162_0), ((HB.out.cell (World.block_lt_of_cell? w _ hw163_0)).trans hw163_0)⟩ (fun hHeld => ?_); refine with_tabW value_order.tab6 value_order.bits6 (fun HT_ HW_ => ?_)
                          generalize wc.drew = w33 at BK148 BK149 HB hx162_0 hx163_0 hHeld ⊢
                          refine pure_ (i := 0) (N := some 45) (v := ?_) (a' := ?_) #[true, false, false, false, false, false, false, false, false, false, false, false] rfl rfl (any_of HT_.out (by kernel_rfl)) (fun _ _ _ h => h) (Or.inl ⟨by rfl, ?_⟩) ?_ ?_
                          rotate_left
                          · intro w'
                            go_simp
                            with_reducible rfl
                          rotate_left
                          · simp only [Act.put, List.setIfInBounds_toArray, List.set_cons_zero, List.set_cons_succ, i64_w, i32_w]
                            rfl
                          refine pure_ (i := 2) (N := some 47) (v := ?_) (a' := ?_) #[true, false, true, false, false, false, false, false, false, false, false, false] rfl rfl (any_of HT_.out (by kernel_rfl)) (fun _ _ _ h => h) (Or.inl ⟨by rfl, ?_⟩) ?_ ?_
                          rotate_left
                          · intro w'
                            go_simp
                            with_reducible rfl
                          rotate_left
                          · simp only [Act.put, List.setIfInBounds_toArray, List.set_cons_zero, List.set_cons_succ, i64_w, i32_w]
                            rfl
                          refine pure_ (i := 5) (N := some 50) (v := ?_) (a' := ?_) #[true, false, true, false, false, true, false, false, false, false, false, false] rfl rfl (any_of HT_.out (by kernel_rfl)) (fun _ _ _ h => h) (Or.inl ⟨by rfl, ?_⟩) ?_ ?_
                          rotate_left
                          · intro w'
                            go_simp
                            with_reducible rfl
                          rotate_left
                          · simp only [Act.put, List.setIfInBounds_toArray, List.set_cons_zero, List.set_cons_succ, i64_w, i32_w]
                            rfl
                          refine pure_ (i := 7) (N := some 52) (v := ?_) (a' := ?_) #[true, false, true, false, false, true, false, true, false, false, false, false] rfl rfl (any_of HT_.out (by kernel_rfl)) (fun _ _ _ h => h) (Or.inl ⟨by rfl, ?_⟩) ?_ ?_
                          rotate_left
                          · intro w'
                            go_simp
                            with_reducible rfl
                          rotate_left
                          · simp only [Act.put, List.setIfInBounds_toArray, List.set_cons_zero, List.set_cons_succ, i64_w, i32_w]
                            rfl
                          refine take_ (i := 1) (N := some 46) (v := ?_) (a' := ?_) #[true, true, true, false, false, true, false, true, false, false, false, false] rfl rfl (take_ofW HT_.out HW_.out (by kernel_rfl)) (fun _ _ _ h => h) (Or.inl ⟨by rfl, ?_⟩) hHeld ?_ ?_
                          rotate_left
                          · rintro w' ⟨s0, s1, s2, s3, s4, s5, s6, s7, s8, s9, s10, s11⟩
                            go_simp
                            with_reducible rfl
                          rotate_left
                          · simp only [Act.put, List.setIfInBounds_toArray, List.set_cons_zero, List.set_cons_succ, i64_w, i32_w]
                            rfl
                          refine pure_ (i := 3) (N := some 48) (v := ?_) (a' := ?_) #[true, true, true, true, false, true, false, true, false, false, false, false] rfl rfl (any_of HT_.out (by kernel_rfl)) (fun _ _ _ h => h) (Or.inl ⟨by rfl, ?_⟩) ?_ ?_
                          rotate_left
                          · intro w'
                            go_simp
                            with_reducible rfl
                          rotate_left
                          · simp only [Act.put, List.setIfInBounds_toArray, List.set_cons_zero, List.set_cons_succ, i64_w, i32_w]
                            rfl
                          refine take_ (i := 4) (N := some 49) (v := ?_) (a' := ?_) #[true, true, true, true, true, true, false, true, false, false, false, false] rfl rfl (take_ofW HT_.out HW_.out (by kernel_rfl)) (fun _ _ _ h => h) (Or.inl ⟨by rfl, ?_⟩) hHeld ?_ ?_
                          rotate_left
                          · rintro w' ⟨s0, s1, s2, s3, s4, s5, s6, s7, s8, s9, s10, s11⟩
                            go_simp
                            with_reducible rfl
                          rotate_left
                          · simp only [Act.put, List.setIfInBounds_toArray, List.set_cons_zero, List.set_cons_succ, i64_w, i32_w]
                            rfl
                          refine take_ (i := 6) (N := some 51) (v := ?_) (a' := ?_) #[true, true, true, true, true, true, true, true, false, false, false, false] rfl rfl (take_ofW HT_.out HW_.out (by kernel_rfl)) (fun _ _ _ h => h) (Or.inl ⟨by rfl, ?_⟩) hHeld ?_ ?_
                          rotate_left
                          · rintro w' ⟨s0, s1, s2, s3, s4, s5, s6, s7, s8, s9, s10, s11⟩
                            go_simp
                            with_reducible rfl
                          rotate_left
                          · simp only [Act.put, List.setIfInBounds_toArray, List.set_cons_zero, List.set_cons_succ, i64_w, i32_w]
                            rfl
                          refine pure_ (i := 8) (N := some 53) (v := ?_) (a' := ?_) #[true, true, true, true, true, true, true, true, true, false, false, false] rfl rfl (any_of HT_.out (by kernel_rfl)) (fun _ _ _ h => h) (Or.inl ⟨by rfl, ?_⟩) ?_ ?_
                          rotate_left
                          · intro w'
                            go_simp
                            with_reducible rfl
                          rotate_left
                          · simp only [Act.put, List.setIfInBounds_toArray, List.set_cons_zero, List.set_cons_succ, i64_w, i32_w]
                            rfl
                          refine take_ (i := 9) (N := some 54) (v := ?_) (a' := ?_) #[true, true, true, true, true, true, true, true, true, true, false, false] rfl rfl (take_ofW HT_.out HW_.out (by kernel_rfl)) (fun _ _ _ h => h) (Or.inl ⟨by rfl, ?_⟩) hHeld ?_ ?_
                          rotate_left
                          · rintro w' ⟨s0, s1, s2, s3, s4, s5, s6, s7, s8, s9, s10, s11⟩
                            go_simp
                            with_reducible rfl
                          rotate_left
                          · simp only [Act.put, List.setIfInBounds_toArray, List.set_cons_zero, List.set_cons_succ, i64_w, i32_w]
                            rfl
                          refine one_ (i := 10) (N := some 55) #[true, true, true, true, true, true, true, true, true, true, true, false] rfl rfl (one_of HT_.out (by kernel_rfl)) (by decide) (fun K hK => ?_)
                          refine goes_ Try.func49 (by kernel_rfl) rfl #[.string (rdOf ByteArray.empty l0_4 x6_1), .string (rdOf ByteArray.empty l1_4 x6_1)] (by rfl) rfl rfl (by (try simp only [List.map_toArray, List.map_cons, List.map_nil]); first | done | rfl | (simp only [List.length_drop, List.length_take]; rfl)) ?_
                          with_reducible refine (strings_Compare.calls (rdOf ByteArray.empty l0_4 x6_1) (rdOf ByteArray.empty l1_4 x6_1) t164 _ A26.out).mono ?_
                          rintro e w' ⟨rfl, ⟨nd, rfl⟩⟩
                          refine ⟨_, rfl, ?_⟩
                          refine hK.out _ _ ⟨(blk_cell BK148.out 0).trans rfl, (blk_cell BK148.out 1).trans rfl, (blk_cell BK148.out 2).trans rfl, (blk_cell BK148.out 3).trans rfl, (blk_cell BK148.out 4).trans rfl, (blk_cell BK149.out 0).trans rfl, (blk_cell BK149.out 1).trans rfl, (blk_cell BK149.out 2).trans rfl, (blk_cell BK149.out 3).trans rfl, (blk_cell BK149.out 4).trans rfl, ((HB.out.cell (World.block_lt_of_cell? w _ hw162_0)).trans hw162_0), ((HB.out.cell (World.block_lt_of_cell? w _ hw163_0)).trans hw163_0)⟩ (fun hHeld => ?_)
                          clear hK K
                          refine norm_ (a' := ?_) ?_ ?_
                          rotate_left
                          · show Act.put _ (some 55) _ = _
                            simp only [Act.put, List.setIfInBounds_toArray, List.set_cons_zero, List.set_cons_succ, i64_w, i32_w]
                            rfl
                          refine pure_ (i := 11) (N := some 5) (v := ?_) (a' := ?_) #[true, true, true, true, true, true, true, true, true, true, true, true] rfl rfl (any_of HT_.out (by kernel_rfl)) (fun _ _ _ h => h) (Or.inl ⟨by rfl, ?_⟩) ?_ ?_
                          rotate_left
                          · intro w'
                            go_simp
                            with_reducible rfl
                          rotate_left
                          · simp only [Act.put, List.setIfInBounds_toArray, List.set_cons_zero, List.set_cons_succ, i64_w, i32_w]
                            rfl
                          refine done_ (done_of HT_.out (by kernel_rfl)) ?_
                          try go_wp2
                          (try (rw [drewN_self w33]; generalize hq_ : World.drewN w33 _ = w33; have n0_ : Aside0 (w33.heap[gb148]? = some (.cells #[.int .i64 a0_0, .int .i64 a0_1, .string a0_2, .slice A0_3 l0_3.length c0_3, .slice (some ad162) l0_4.length c0_4] 25 (0, 0))) := ⟨by rw [← hq_]; exact (by (with_reducible repeat (first | refine blk_drewN ?_ _ | refine blk_drew ?_ | refine blk_alloc ?_ _)); exact BK148.out)⟩; have n1_ : Aside0 (w33.heap[gb149]? = some (.cells #[.int .i64 a1_0, .int .i64 a1_1, .string a1_2, .slice A1_3 l1_3.length c1_3, .slice (some ad163) l1_4.length c1_4] 25 (0, 0))) := ⟨by rw [← hq_]; exact (by (with_reducible repeat (first | refine blk_drewN ?_ _ | refine blk_drew ?_ | refine blk_alloc ?_ _)); exact BK149.out)⟩; have n2_ : Aside0 (Below w.heap.size w w33) := ⟨by rw [← hq_]; exact (by repeat (first | (with_reducible first | exact HB.out | apply below_alloc | apply pw_below_drewN | apply below_drew1 | refine below_set ?_ GE148.out | refine below_set ?_ GE149.out) | exact HB.out))⟩; clear BK148 BK149 HB hq_; have BK148 := n0_; have BK149 := n1_; have HB := n2_; clear n0_ n1_ n2_))
                          have n0_ := Aside0.mk (blk_drew BK148.out)
                          have n1_ := Aside0.mk (blk_drew BK149.out)
                          have n2_ := Aside0.mk (below_drew1 HB.out)
                          clear BK148
                          clear BK149
                          clear HB
                          have BK148 := n0_
                          have BK149 := n1_
                          have HB := n2_
                          clear n0_ n1_ n2_
                          have p165 : 0 ≤ (x6_1 : Int) := of_decide_eq_true (by first | (with_reducible assumption) | assumption)
                          have q165 : x6_1 < (l0_3.length : Int) := of_decide_eq_true (by first | (with_reducible assumption) | assumption)
                          obtain ⟨ad165, A165_3, c165_3, A165_4, c165_4, e165, hx165_0, hx165_1, hx165_2, hx165_3, hx165_4, hl165_3, hi165_3, hl165_4, hi165_4⟩ := at_T25 HR0_3.out x6_1 p165 q165
                          have hw165_4 := hx165_4
                          have hw165_3 := hx165_3
                          have hw165_2 := hx165_2
                          have hw165_1 := hx165_1
                          have hw165_0 := hx165_0
                          cases e165
                          replace hx165_0 := (HB.out.cell (World.block_lt_of_cell? w _ hx165_0)).trans hx165_0
                          replace hx165_1 := (HB.out.cell (World.block_lt_of_cell? w _ hx165_1)).trans hx165_1
                          replace hx165_2 := (HB.out.cell (World.block_lt_of_cell? w _ hx165_2)).trans hx165_2
                          replace hx165_3 := (HB.out.cell (World.block_lt_of_cell? w _ hx165_3)).trans hx165_3
                          replace hx165_4 := (HB.out.cell (World.block_lt_of_cell? w _ hx165_4)).trans hx165_4
                          have HR165_3 := Aside0.mk hi165_3
                          have HC165_3 := Aside0.mk hl165_3
                          clear hi165_3 hl165_3
                          have HR165_4 := Aside0.mk hi165_4
                          have HC165_4 := Aside0.mk hl165_4
                          clear hi165_4 hl165_4
                          replace p165 := eq_true p165
                          replace q165 := eq_true q165
                          have p166 : 0 ≤ (x6_1 : Int) := of_decide_eq_true (by first | (with_reducible assumption) | assumption)
                          have q166 : x6_1 < (l1_3.length : Int) := of_decide_eq_true (by first | (with_reducible assumption) | assumption)
                          obtain ⟨ad166, A166_3, c166_3, A166_4, c166_4, e166, hx166_0, hx166_1, hx166_2, hx166_3, hx166_4, hl166_3, hi166_3, hl166_4, hi166_4⟩ := at_T25 HR1_3.out x6_1 p166 q166
                          have hw166_4 := hx166_4
                          have hw166_3 := hx166_3
                          have hw166_2 := hx166_2
                          have hw166_1 := hx166_1
                          have hw166_0 := hx166_0
                          cases e166
                          replace hx166_0 := (HB.out.cell (World.block_lt_of_cell? w _ hx166_0)).trans hx166_0
                          replace hx166_1 := (HB.out.cell (World.block_lt_of_cell? w _ hx166_1)).trans hx166_1
                          replace hx166_2 := (HB.out.cell (World.block_lt_of_cell? w _ hx166_2)).trans hx166_2
                          replace hx166_3 := (HB.out.cell (World.block_lt_of_cell? w _ hx166_3)).trans hx166_3
                          replace hx166_4 := (HB.out.cell (World.block_lt_of_cell? w _ hx166_4)).trans hx166_4
                          have HR166_3 := Aside0.mk hi166_3
                          have HC166_3 := Aside0.mk hl166_3
                          clear hi166_3 hl166_3
                          have HR166_4 := Aside0.mk hi166_4
                          have HC166_4 := Aside0.mk hl166_4
                          clear hi166_4 hl166_4
                          replace p166 := eq_true p166
                          replace q166 := eq_true q166
                          refine start_ (n := 12) (S := fun w' => w'.cell? ⟨gb148, 0, none⟩ = some (.int .i64 a0_0) ∧ w'.cell? ⟨gb148, 1, none⟩ = some (.int .i64 a0_1) ∧ w'.cell? ⟨gb148, 2, none⟩ = some (.string a0_2) ∧ w'.cell? ⟨gb148, 3, none⟩ = some (.slice (some ad165) l0_3.length c0_3) ∧ w'.cell? ⟨gb148, 4, none⟩ = some (.slice (some ad162) l0_4.length c0_4) ∧ w'.cell? ⟨gb149, 0, none⟩ = some (.int .i64 a1_0) ∧ w'.cell? ⟨gb149, 1, none⟩ = some (.int .i64 a1_1) ∧ w'.cell? ⟨gb149, 2, none⟩ = some (.string a1_2) ∧ w'.cell? ⟨gb149, 3, none⟩ = some (.slice (some ad166) l1_3.length c1_3) ∧ w'.cell? ⟨gb149, 4, none⟩ = some (.slice (some ad163) l1_4.length c1_4) ∧ w'.cell? (ad165.add ((x6_1).toNat * 5)) = some (.int .i64 ((rd_T25 l0_3 x6_1).f0)) ∧ w'.cell? ⟨(ad165.add ((x6_1).toNat * 5)).block, (ad165.add ((x6_1).toNat * 5)).off + 1, none⟩ = some (.int .i64 ((rd_T25 l0_3 x6_1).f1)) ∧ w'.cell? ⟨(ad165.add ((x6_1).toNat * 5)).block, (ad165.add ((x6_1).toNat * 5)).off + 2, none⟩ = some (.string ((rd_T25 l0_3 x6_1).f2)) ∧ w'.cell? ⟨(ad165.add ((x6_1).toNat * 5)).block, (ad165.add ((x6_1).toNat * 5)).off + 3, none⟩ = some (.slice A165_3 ((rd_T25 l0_3 x6_1).f3).length c165_3) ∧ w'.cell? ⟨(ad165.add ((x6_1).toNat * 5)).block, (ad165.add ((x6_1).toNat * 5)).off + 4, none⟩ = some (.slice A165_4 ((rd_T25 l0_3 x6_1).f4).length c165_4) ∧ w'.cell? (ad166.add ((x6_1).toNat * 5)) = some (.int .i64 ((rd_T25 l1_3 x6_1).f0)) ∧ w'.cell? ⟨(ad166.add ((x6_1).toNat * 5)).block, (ad166.add ((x6_1).toNat * 5)).off + 1, none⟩ = some (.int .i64 ((rd_T25 l1_3 x6_1).f1)) ∧ w'.cell? ⟨(ad166.add ((x6_1).toNat * 5)).block, (ad166.add ((x6_1).toNat * 5)).off + 2, none⟩ = some (.string ((rd_T25 l1_3 x6_1).f2)) ∧ w'.cell? ⟨(ad166.add ((x6_1).toNat * 5)).block, (ad166.add ((x6_1).toNat * 5)).off + 3, none⟩ = some (.slice A166_3 ((rd_T25 l1_3 x6_1).f3).length c166_3) ∧ w'.cell? ⟨(ad166.add ((x6_1).toNat * 5)).block, (ad166.add ((x6_1).toNat * 5)).off + 4, none⟩ = some (.slice A166_4 ((rd_T25 l1_3 x6_1).f4).length c166_4)) (ds := []) #[false, false, false, false, false, false, false, false, false, false, false, false] (by kernel_rfl) rfl rfl ⟨(blk_cell BK148.out 0).trans rfl, (blk_cell BK148.out 1).trans rfl, (blk_cell BK148.out 2).trans rfl, (blk_cell BK148.out 3).trans rfl, (blk_cell BK148.out 4).trans rfl, (blk_cell BK149.out 0).trans rfl, (blk_cell BK149.out 1).trans rfl, (blk_cell BK149.out 2).trans rfl, (blk_cell BK149.out 3).trans rfl, (blk_cell BK149.out 4).trans rfl, ((HB.out.cell (World.block_lt_of_cell? w _ hw165_0)).trans hw165_0), ((HB.out.cell (World.block_lt_of_cell? w _ hw165_1)).trans hw165_1), ((HB.out.cell (World.block_lt_of_cell? w _ hw165_2)).trans hw165_2), ((HB.out.cell (World.block_lt_of_cell? w _ hw165_3)).trans hw165_3), ((HB.out.cell (World.block_lt_of_cell? w _ hw165_4)).trans hw165_4), ((HB.out.cell (World.block_lt_of_cell? w _ hw166_0)).trans hw166_0), ((HB.out.cell (World.block_lt_of_cell? w _ hw166_1)).trans hw166_1), ((HB.out.cell (World.block_lt_of_cell? w _ hw166_2)).trans hw166_2), ((HB.out.cell (World.block_lt_of_cell? w _ hw166_3)).trans hw166_3), ((HB.out.cell (World.block_lt_of_cell? w _ hw166_4)).trans hw166_4)⟩ (fun hHeld => ?_); refine with_tabW value_order.tab8 value_order.bits8 (fun HT_ HW_ => ?_)
                          generalize w33.drew = w34 at BK148 BK149 HB HR165_3 HR165_4 HR166_3 HR166_4 hx165_0 hx165_1 hx165_2 hx165_3 hx165_4 hx166_0 hx166_1 hx166_2 hx166_3 hx166_4 hHeld ⊢
                          refine pure_ (i := 0) (N := some 58) (v := ?_) (a' := ?_) #[true, false, false, false, false, false, false, false, false, false, false, false] rfl rfl (any_of HT_.out (by kernel_rfl)) (fun _ _ _ h => h) (Or.inl ⟨by rfl, ?_⟩) ?_ ?_
                          rotate_left
                          · intro w'
                            go_simp
                            with_reducible rfl
                          rotate_left
                          · simp only [Act.put, List.setIfInBounds_toArray, List.set_cons_zero, List.set_cons_succ, i64_w, i32_w]
                            rfl
                          refine pure_ (i := 2) (N := some 60) (v := ?_) (a' := ?_) #[true, false, true, false, false, false, false, false, false, false, false, false] rfl rfl (any_of HT_.out (by kernel_rfl)) (fun _ _ _ h => h) (Or.inl ⟨by rfl, ?_⟩) ?_ ?_
                          rotate_left
                          · intro w'
                            go_simp
                            with_reducible rfl
                          rotate_left
                          · simp only [Act.put, List.setIfInBounds_toArray, List.set_cons_zero, List.set_cons_succ, i64_w, i32_w]
                            rfl
                          refine pure_ (i := 5) (N := some 63) (v := ?_) (a' := ?_) #[true, false, true, false, false, true, false, false, false, false, false, false] rfl rfl (any_of HT_.out (by kernel_rfl)) (fun _ _ _ h => h) (Or.inl ⟨by rfl, ?_⟩) ?_ ?_
                          rotate_left
                          · intro w'
                            go_simp
                            with_reducible rfl
                          rotate_left
                          · simp only [Act.put, List.setIfInBounds_toArray, List.set_cons_zero, List.set_cons_succ, i64_w, i32_w]
                            rfl
                          refine pure_ (i := 7) (N := some 65) (v := ?_) (a' := ?_) #[true, false, true, false, false, true, false, true, false, false, false, false] rfl rfl (any_of HT_.out (by kernel_rfl)) (fun _ _ _ h => h) (Or.inl ⟨by rfl, ?_⟩) ?_ ?_
                          rotate_left
                          · intro w'
                            go_simp
                            with_reducible rfl
                          rotate_left
                          · simp only [Act.put, List.setIfInBounds_toArray, List.set_cons_zero, List.set_cons_succ, i64_w, i32_w]
                            rfl
                          refine take_ (i := 1) (N := some 59) (v := ?_) (a' := ?_) #[true, true, true, false, false, true, false, true, false, false, false, false] rfl rfl (take_ofW HT_.out HW_.out (by kernel_rfl)) (fun _ _ _ h => h) (Or.inl ⟨by rfl, ?_⟩) hHeld ?_ ?_
                          rotate_left
                          · rintro w' ⟨s0, s1, s2, s3, s4, s5, s6, s7, s8, s9, s10, s11, s12, s13, s14, s15, s16, s17, s18, s19⟩
                            go_simp
                            with_reducible rfl
                          rotate_left
                          · simp only [Act.put, List.setIfInBounds_toArray, List.set_cons_zero, List.set_cons_succ, i64_w, i32_w]
                            rfl
                          refine pure_ (i := 3) (N := some 61) (v := ?_) (a' := ?_) #[true, true, true, true, false, true, false, true, false, false, false, false] rfl rfl (any_of HT_.out (by kernel_rfl)) (fun _ _ _ h => h) (Or.inl ⟨by rfl, ?_⟩) ?_ ?_
                          rotate_left
                          · intro w'
                            go_simp
                            with_reducible rfl
                          rotate_left
                          · simp only [Act.put, List.setIfInBounds_toArray, List.set_cons_zero, List.set_cons_succ, i64_w, i32_w]
                            rfl
                          refine take_ (i := 4) (N := some 62) (v := ?_) (a' := ?_) #[true, true, true, true, true, true, false, true, false, false, false, false] rfl rfl (take_ofW HT_.out HW_.out (by kernel_rfl)) (fun _ _ _ h => h) (Or.inl ⟨by rfl, ?_⟩) hHeld ?_ ?_
                          rotate_left
                          · rintro w' ⟨s0, s1, s2, s3, s4, s5, s6, s7, s8, s9, s10, s11, s12, s13, s14, s15, s16, s17, s18, s19⟩
                            go_simp
                            with_reducible rfl
                          rotate_left
                          · simp only [Act.put, List.setIfInBounds_toArray, List.set_cons_zero, List.set_cons_succ, i64_w, i32_w]
                            rfl
                          refine take_ (i := 6) (N := some 64) (v := ?_) (a' := ?_) #[true, true, true, true, true, true, true, true, false, false, false, false] rfl rfl (take_ofW HT_.out HW_.out (by kernel_rfl)) (fun _ _ _ h => h) (Or.inl ⟨by rfl, ?_⟩) hHeld ?_ ?_
                          rotate_left
                          · rintro w' ⟨s0, s1, s2, s3, s4, s5, s6, s7, s8, s9, s10, s11, s12, s13, s14, s15, s16, s17, s18, s19⟩
                            go_simp
                            with_reducible rfl
                          rotate_left
                          · simp only [Act.put, List.setIfInBounds_toArray, List.set_cons_zero, List.set_cons_succ, i64_w, i32_w]
                            rfl
                          refine pure_ (i := 8) (N := some 66) (v := ?_) (a' := ?_) #[true, true, true, true, true, true, true, true, true, false, false, false] rfl rfl (any_of HT_.out (by kernel_rfl)) (fun _ _ _ h => h) (Or.inl ⟨by rfl, ?_⟩) ?_ ?_
                          rotate_left
                          · intro w'
                            go_simp
                            with_reducible rfl
                          rotate_left
                          · simp only [Act.put, List.setIfInBounds_toArray, List.set_cons_zero, List.set_cons_succ, i64_w, i32_w]
                            rfl
                          refine take_ (i := 9) (N := some 67) (v := ?_) (a' := ?_) #[true, true, true, true, true, true, true, true, true, true, false, false] rfl rfl (take_ofW HT_.out HW_.out (by kernel_rfl)) (fun _ _ _ h => h) (Or.inl ⟨by rfl, ?_⟩) hHeld ?_ ?_
                          rotate_left
                          · rintro w' ⟨s0, s1, s2, s3, s4, s5, s6, s7, s8, s9, s10, s11, s12, s13, s14, s15, s16, s17, s18, s19⟩
                            go_simp
                            with_reducible rfl
                          rotate_left
                          · simp only [Act.put, List.setIfInBounds_toArray, List.set_cons_zero, List.set_cons_succ, i64_w, i32_w]
                            rfl
                          refine one_ (i := 10) (N := some 68) #[true, true, true, true, true, true, true, true, true, true, true, false] rfl rfl (one_of HT_.out (by kernel_rfl)) (by decide) (fun K hK => ?_)
                          refine goes_ Try.func32 (by kernel_rfl) rfl #[.agg #[.int .i64 ((rd_T25 l0_3 x6_1).f0), .int .i64 ((rd_T25 l0_3 x6_1).f1), .string ((rd_T25 l0_3 x6_1).f2), .slice A165_3 ((rd_T25 l0_3 x6_1).f3).length c165_3, .slice A165_4 ((rd_T25 l0_3 x6_1).f4).length c165_4], .agg #[.int .i64 ((rd_T25 l1_3 x6_1).f0), .int .i64 ((rd_T25 l1_3 x6_1).f1), .string ((rd_T25 l1_3 x6_1).f2), .slice A166_3 ((rd_T25 l1_3 x6_1).f3).length c166_3, .slice A166_4 ((rd_T25 l1_3 x6_1).f4).length c166_4]] (by rfl) rfl rfl (by (try simp only [List.map_toArray, List.map_cons, List.map_nil]); first | done | rfl | (simp only [List.length_drop, List.length_take]; rfl)) ?_
                          with_reducible refine (ih kj12 (by have := HK1.out; have := HJ12.out; omega) ((rd_T25 l0_3 x6_1).f0) ((rd_T25 l0_3 x6_1).f1) ((rd_T25 l0_3 x6_1).f2) _ _ ((rd_T25 l0_3 x6_1).f3) _ _ ((rd_T25 l0_3 x6_1).f4) ((rd_T25 l1_3 x6_1).f0) ((rd_T25 l1_3 x6_1).f1) ((rd_T25 l1_3 x6_1).f2) _ _ ((rd_T25 l1_3 x6_1).f3) _ _ ((rd_T25 l1_3 x6_1).f4) t167 _ ?side1 ?side2 ?side3 ?side4 ?side5 ?side6 ?side7 ?side8 A30.out).mono ?_
                          (case side1 => repeat (first | exact (Kd.C_below HR165_3.out HB.out) | (with_reducible refine Kd.C_alloc ?_ _) | (with_reducible refine Kd.C_drewN ?_ _) | (with_reducible refine Kd.C_drew ?_)))
                          (case side2 => exact HC165_3.out)
                          (case side3 => repeat (first | exact (Kd.C_below HR165_4.out HB.out) | (with_reducible refine Kd.C_alloc ?_ _) | (with_reducible refine Kd.C_drewN ?_ _) | (with_reducible refine Kd.C_drew ?_)))
                          (case side4 => exact HC165_4.out)
                          (case side5 => repeat (first | exact (Kd.C_below HR166_3.out HB.out) | (with_reducible refine Kd.C_alloc ?_ _) | (with_reducible refine Kd.C_drewN ?_ _) | (with_reducible refine Kd.C_drew ?_)))
                          (case side6 => exact HC166_3.out)
                          (case side7 => repeat (first | exact (Kd.C_below HR166_4.out HB.out) | (with_reducible refine Kd.C_alloc ?_ _) | (with_reducible refine Kd.C_drewN ?_ _) | (with_reducible refine Kd.C_drew ?_)))
                          (case side8 => exact HC166_4.out)
                          rintro e w35 ⟨rfl, hb⟩
                          refine ⟨_, rfl, ?_⟩
                          have n0_ := Aside0.mk (blk_below (g := gb148) (o := .cells #[.int .i64 a0_0, .int .i64 a0_1, .string a0_2, .slice (some ad165) l0_3.length c0_3, .slice (some ad162) l0_4.length c0_4] 25 (0, 0)) (by (with_reducible repeat (first | refine blk_drewN ?_ _ | refine blk_drew ?_ | refine blk_alloc ?_ _)); exact BK148.out) hb)
                          have n1_ := Aside0.mk (blk_below (g := gb149) (o := .cells #[.int .i64 a1_0, .int .i64 a1_1, .string a1_2, .slice (some ad166) l1_3.length c1_3, .slice (some ad163) l1_4.length c1_4] 25 (0, 0)) (by (with_reducible repeat (first | refine blk_drewN ?_ _ | refine blk_drew ?_ | refine blk_alloc ?_ _)); exact BK149.out) hb)
                          have n2_ := Aside0.mk (below_step (by repeat (first | (with_reducible first | exact HB.out | apply below_alloc | apply pw_below_drewN | apply below_drew1 | refine below_set ?_ GE148.out | refine below_set ?_ GE149.out) | exact HB.out)) hb)
                          clear BK148
                          clear BK149
                          clear HB
                          have BK148 := n0_
                          have BK149 := n1_
                          have HB := n2_
                          clear n0_ n1_ n2_
                          (try clear hb)
                          (try clear hb2)
                          (try clear hk)
                          (try clear hi)
                          refine hK.out _ _ ⟨(blk_cell BK148.out 0).trans rfl, (blk_cell BK148.out 1).trans rfl, (blk_cell BK148.out 2).trans rfl, (blk_cell BK148.out 3).trans rfl, (blk_cell BK148.out 4).trans rfl, (blk_cell BK149.out 0).trans rfl, (blk_cell BK149.out 1).trans rfl, (blk_cell BK149.out 2).trans rfl, (blk_cell BK149.out 3).trans rfl, (blk_cell BK149.out 4).trans rfl, ((HB.out.cell (World.block_lt_of_cell? w _ hw165_0)).trans hw165_0), ((HB.out.cell (World.block_lt_of_cell? w _ hw165_1)).trans hw165_1), ((HB.out.cell (World.block_lt_of_cell? w _ hw165_2)).trans hw165_2), ((HB.out.cell (World.block_lt_of_cell? w _ hw165_3)).trans hw165_3), ((HB.out.cell (World.block_lt_of_cell? w _ hw165_4)).trans hw165_4), ((HB.out.cell (World.block_lt_of_cell? w _ hw166_0)).trans hw166_0), ((HB.out.cell (World.block_lt_of_cell? w _ hw166_1)).trans hw166_1), ((HB.out.cell (World.block_lt_of_cell? w _ hw166_2)).trans hw166_2), ((HB.out.cell (World.block_lt_of_cell? w _ hw166_3)).trans hw166_3), ((HB.out.cell (World.block_lt_of_cell? w _ hw166_4)).trans hw166_4)⟩ (fun hHeld => ?_)
                          clear hK K
                          refine norm_ (a' := ?_) ?_ ?_
                          rotate_left
                          · show Act.put _ (some 68) _ = _
                            simp only [Act.put, List.setIfInBounds_toArray, List.set_cons_zero, List.set_cons_succ, i64_w, i32_w]
                            rfl
                          refine pure_ (i := 11) (N := some 5) (v := ?_) (a' := ?_) #[true, true, true, true, true, true, true, true, true, true, true, true] rfl rfl (any_of HT_.out (by kernel_rfl)) (fun _ _ _ h => h) (Or.inl ⟨by rfl, ?_⟩) ?_ ?_
                          rotate_left
                          · intro w'
                            go_simp
                            with_reducible rfl
                          rotate_left
                          · simp only [Act.put, List.setIfInBounds_toArray, List.set_cons_zero, List.set_cons_succ, i64_w, i32_w]
                            rfl
                          refine done_ (done_of HT_.out (by kernel_rfl)) ?_
                          try go_wp2
                          go_roundg kj12
                          case measure => have := HK1.out; have := HJ12.out; omega
                          case rel => exact ⟨(t167), (wrap64 (x6_1 + 1)), (by first | rfl | (simp; done) | (simp [*]; done)), (by first | rfl | (simp; done) | (simp [*]; done)), H', ⟨by have := HK1.out; have := HJ12.out; omega⟩, ⟨by (with_reducible repeat (first | refine blk_drewN ?_ _ | refine blk_drew ?_ | refine blk_alloc ?_ _)); exact BK148.out⟩, ⟨by (with_reducible repeat (first | refine blk_drewN ?_ _ | refine blk_drew ?_ | refine blk_alloc ?_ _)); exact BK149.out⟩, ⟨by repeat (first | (with_reducible first | exact HB.out | apply below_alloc | apply pw_below_drewN | apply below_drew1 | refine below_set ?_ GE148.out | refine below_set ?_ GE149.out) | exact HB.out)⟩⟩
                        · rw [if_neg c29] at H
                          exact absurd H (by simp)
                      · rw [if_neg c28] at H
                        exact absurd H (by simp)
                    · rw [if_neg c27] at H
                      have c27b0 : (t164 == 0) = false := beq_eq_false_iff_ne.mpr c27
                      have c27b1 : (t164 != 0) = true := bne_iff_ne.mpr c27
                      have H' := Aside0.mk H
                      clear H
                      have hnb36 := NB148_149.out
                      have hnc36 := NB149_148.out
                      have hcz37_0 : wc.cell? ⟨gb148, 0, none⟩ = some (.int .i64 a0_0) := (blk_cell BK148.out 0).trans rfl
                      have hcz37_1 : wc.cell? ⟨gb148, 1, none⟩ = some (.int .i64 a0_1) := (blk_cell BK148.out 1).trans rfl
                      have hcz37_2 : wc.cell? ⟨gb148, 2, none⟩ = some (.string a0_2) := (blk_cell BK148.out 2).trans rfl
                      have hcz37_3 : wc.cell? ⟨gb148, 3, none⟩ = some (.slice A0_3 l0_3.length c0_3) := (blk_cell BK148.out 3).trans rfl
                      have hcz37_4 : wc.cell? ⟨gb148, 4, none⟩ = some (.slice A0_4 l0_4.length c0_4) := (blk_cell BK148.out 4).trans rfl
                      have hfz37_0 := blk_frozen BK148.out 0
                      have hfz37_1 := blk_frozen BK148.out 1
                      have hfz37_2 := blk_frozen BK148.out 2
                      have hfz37_3 := blk_frozen BK148.out 3
                      have hfz37_4 := blk_frozen BK148.out 4
                      try go_wp2
                      have n0_ := Aside0.mk (blk_drew BK148.out)
                      have n1_ := Aside0.mk (blk_drew BK149.out)
                      have n2_ := Aside0.mk (below_drew1 HB.out)
                      clear BK148
                      clear BK149
                      clear HB
                      have BK148 := n0_
                      have BK149 := n1_
                      have HB := n2_
                      clear n0_ n1_ n2_
                      have p162 : 0 ≤ (x6_1 : Int) := of_decide_eq_true (by first | (with_reducible assumption) | assumption)
                      have q162 : x6_1 < (l0_4.length : Int) := of_decide_eq_true (by first | (with_reducible assumption) | assumption)
                      obtain ⟨ad162, e162, hx162_0⟩ := Kd.at_string HR0_4.out x6_1 p162 q162
                      have hw162_0 := hx162_0
                      cases e162
                      replace hx162_0 := (HB.out.cell (World.block_lt_of_cell? w _ hx162_0)).trans hx162_0
                      replace p162 := eq_true p162
                      replace q162 := eq_true q162
                      have p163 : 0 ≤ (x6_1 : Int) := of_decide_eq_true (by first | (with_reducible assumption) | assumption)
                      have q163 : x6_1 < (l1_4.length : Int) := of_decide_eq_true (by first | (with_reducible assumption) | assumption)
                      obtain ⟨ad163, e163, hx163_0⟩ := Kd.at_string HR1_4.out x6_1 p163 q163
                      have hw163_0 := hx163_0
                      cases e163
                      replace hx163_0 := (HB.out.cell (World.block_lt_of_cell? w _ hx163_0)).trans hx163_0
                      replace p163 := eq_true p163
                      replace q163 := eq_true q163
                      refine start_ (n := 12) (S := fun w' => w'.cell? ⟨gb148, 0, none⟩ = some (.int .i64 a0_0) ∧ w'.cell? ⟨gb148, 1, none⟩ = some (.int .i64 a0_1) ∧ w'.cell? ⟨gb148, 2, none⟩ = some (.string a0_2) ∧ w'.cell? ⟨gb148, 3, none⟩ = some (.slice A0_3 l0_3.length c0_3) ∧ w'.cell? ⟨gb148, 4, none⟩ = some (.slice (some ad162) l0_4.length c0_4) ∧ w'.cell? ⟨gb149, 0, none⟩ = some (.int .i64 a1_0) ∧ w'.cell? ⟨gb149, 1, none⟩ = some (.int .i64 a1_1) ∧ w'.cell? ⟨gb149, 2, none⟩ = some (.string a1_2) ∧ w'.cell? ⟨gb149, 3, none⟩ = some (.slice A1_3 l1_3.length c1_3) ∧ w'.cell? ⟨gb149, 4, none⟩ = some (.slice (some ad163) l1_4.length c1_4) ∧ w'.cell? (ad162.add (x6_1).toNat) = some (.string (rdOf ByteArray.empty l0_4 x6_1)) ∧ w'.cell? (ad163.add (x6_1).toNat) = some (.string (rdOf ByteArray.empty l1_4 x6_1))) (ds := []) #[false, false, false, false, false, false, false, false, false, false, false, false] (by kernel_rfl) rfl rfl ⟨(blk_cell BK148.out 0).trans rfl, (blk_cell BK148.out 1).trans rfl, (blk_cell BK148.out 2).trans rfl, (blk_cell BK148.out 3).trans rfl, (blk_cell BK148.out 4).trans rfl, (blk_cell BK149.out 0).trans rfl, (blk_cell BK149.out 1).trans rfl, (blk_cell BK149.out 2).trans rfl, (blk_cell BK149.out 3).trans rfl, (blk_cell BK149.out 4).trans rfl, ((HB.out.cell (World.block_lt_of_cell? w _ hw162_0)).trans hw162_0), ((HB.out.cell (World.block_lt_of_cell? w _ hw163_0)).trans hw163_0)⟩ (fun hHeld => ?_); refine with_tabW value_order.tab6 value_order.bits6 (fun HT_ HW_ => ?_)
                      generalize wc.drew = w38 at BK148 BK149 HB hx162_0 hx163_0 hHeld ⊢
                      refine pure_ (i := 0) (N := some 45) (v := ?_) (a' := ?_) #[true, false, false, false, false, false, false, false, false, false, false, false] rfl rfl (any_of HT_.out (by kernel_rfl)) (fun _ _ _ h => h) (Or.inl ⟨by rfl, ?_⟩) ?_ ?_
                      rotate_left
                      · intro w'
                        go_simp
                        with_reducible rfl
                      rotate_left
                      · simp only [Act.put, List.setIfInBounds_toArray, List.set_cons_zero, List.set_cons_succ, i64_w, i32_w]
                        rfl
                      refine pure_ (i := 2) (N := some 47) (v := ?_) (a' := ?_) #[true, false, true, false, false, false, false, false, false, false, false, false] rfl rfl (any_of HT_.out (by kernel_rfl)) (fun _ _ _ h => h) (Or.inl ⟨by rfl, ?_⟩) ?_ ?_
                      rotate_left
                      · intro w'
                        go_simp
                        with_reducible rfl
                      rotate_left
                      · simp only [Act.put, List.setIfInBounds_toArray, List.set_cons_zero, List.set_cons_succ, i64_w, i32_w]
                        rfl
                      refine pure_ (i := 5) (N := some 50) (v := ?_) (a' := ?_) #[true, false, true, false, false, true, false, false, false, false, false, false] rfl rfl (any_of HT_.out (by kernel_rfl)) (fun _ _ _ h => h) (Or.inl ⟨by rfl, ?_⟩) ?_ ?_
                      rotate_left
                      · intro w'
                        go_simp
                        with_reducible rfl
                      rotate_left
                      · simp only [Act.put, List.setIfInBounds_toArray, List.set_cons_zero, List.set_cons_succ, i64_w, i32_w]
                        rfl
                      refine pure_ (i := 7) (N := some 52) (v := ?_) (a' := ?_) #[true, false, true, false, false, true, false, true, false, false, false, false] rfl rfl (any_of HT_.out (by kernel_rfl)) (fun _ _ _ h => h) (Or.inl ⟨by rfl, ?_⟩) ?_ ?_
                      rotate_left
                      · intro w'
                        go_simp
                        with_reducible rfl
                      rotate_left
                      · simp only [Act.put, List.setIfInBounds_toArray, List.set_cons_zero, List.set_cons_succ, i64_w, i32_w]
                        rfl
                      refine take_ (i := 1) (N := some 46) (v := ?_) (a' := ?_) #[true, true, true, false, false, true, false, true, false, false, false, false] rfl rfl (take_ofW HT_.out HW_.out (by kernel_rfl)) (fun _ _ _ h => h) (Or.inl ⟨by rfl, ?_⟩) hHeld ?_ ?_
                      rotate_left
                      · rintro w' ⟨s0, s1, s2, s3, s4, s5, s6, s7, s8, s9, s10, s11⟩
                        go_simp
                        with_reducible rfl
                      rotate_left
                      · simp only [Act.put, List.setIfInBounds_toArray, List.set_cons_zero, List.set_cons_succ, i64_w, i32_w]
                        rfl
                      refine pure_ (i := 3) (N := some 48) (v := ?_) (a' := ?_) #[true, true, true, true, false, true, false, true, false, false, false, false] rfl rfl (any_of HT_.out (by kernel_rfl)) (fun _ _ _ h => h) (Or.inl ⟨by rfl, ?_⟩) ?_ ?_
                      rotate_left
                      · intro w'
                        go_simp
                        with_reducible rfl
                      rotate_left
                      · simp only [Act.put, List.setIfInBounds_toArray, List.set_cons_zero, List.set_cons_succ, i64_w, i32_w]
                        rfl
                      refine take_ (i := 4) (N := some 49) (v := ?_) (a' := ?_) #[true, true, true, true, true, true, false, true, false, false, false, false] rfl rfl (take_ofW HT_.out HW_.out (by kernel_rfl)) (fun _ _ _ h => h) (Or.inl ⟨by rfl, ?_⟩) hHeld ?_ ?_
                      rotate_left
                      · rintro w' ⟨s0, s1, s2, s3, s4, s5, s6, s7, s8, s9, s10, s11⟩
                        go_simp
                        with_reducible rfl
                      rotate_left
                      · simp only [Act.put, List.setIfInBounds_toArray, List.set_cons_zero, List.set_cons_succ, i64_w, i32_w]
                        rfl
                      refine take_ (i := 6) (N := some 51) (v := ?_) (a' := ?_) #[true, true, true, true, true, true, true, true, false, false, false, false] rfl rfl (take_ofW HT_.out HW_.out (by kernel_rfl)) (fun _ _ _ h => h) (Or.inl ⟨by rfl, ?_⟩) hHeld ?_ ?_
                      rotate_left
                      · rintro w' ⟨s0, s1, s2, s3, s4, s5, s6, s7, s8, s9, s10, s11⟩
                        go_simp
                        with_reducible rfl
                      rotate_left
                      · simp only [Act.put, List.setIfInBounds_toArray, List.set_cons_zero, List.set_cons_succ, i64_w, i32_w]
                        rfl
                      refine pure_ (i := 8) (N := some 53) (v := ?_) (a' := ?_) #[true, true, true, true, true, true, true, true, true, false, false, false] rfl rfl (any_of HT_.out (by kernel_rfl)) (fun _ _ _ h => h) (Or.inl ⟨by rfl, ?_⟩) ?_ ?_
                      rotate_left
                      · intro w'
                        go_simp
                        with_reducible rfl
                      rotate_left
                      · simp only [Act.put, List.setIfInBounds_toArray, List.set_cons_zero, List.set_cons_succ, i64_w, i32_w]
                        rfl
                      refine take_ (i := 9) (N := some 54) (v := ?_) (a' := ?_) #[true, true, true, true, true, true, true, true, true, true, false, false] rfl rfl (take_ofW HT_.out HW_.out (by kernel_rfl)) (fun _ _ _ h => h) (Or.inl ⟨by rfl, ?_⟩) hHeld ?_ ?_
                      rotate_left
                      · rintro w' ⟨s0, s1, s2, s3, s4, s5, s6, s7, s8, s9, s10, s11⟩
                        go_simp
                        with_reducible rfl
                      rotate_left
                      · simp only [Act.put, List.setIfInBounds_toArray, List.set_cons_zero, List.set_cons_succ, i64_w, i32_w]
                        rfl
                      refine one_ (i := 10) (N := some 55) #[true, true, true, true, true, true, true, true, true, true, true, false] rfl rfl (one_of HT_.out (by kernel_rfl)) (by decide) (fun K hK => ?_)
                      refine goes_ Try.func49 (by kernel_rfl) rfl #[.string (rdOf ByteArray.empty l0_4 x6_1), .string (rdOf ByteArray.empty l1_4 x6_1)] (by rfl) rfl rfl (by (try simp only [List.map_toArray, List.map_cons, List.map_nil]); first | done | rfl | (simp only [List.length_drop, List.length_take]; rfl)) ?_
                      with_reducible refine (strings_Compare.calls (rdOf ByteArray.empty l0_4 x6_1) (rdOf ByteArray.empty l1_4 x6_1) t164 _ A26.out).mono ?_
                      rintro e w' ⟨rfl, ⟨nd, rfl⟩⟩
                      refine ⟨_, rfl, ?_⟩
                      refine hK.out _ _ ⟨(blk_cell BK148.out 0).trans rfl, (blk_cell BK148.out 1).trans rfl, (blk_cell BK148.out 2).trans rfl, (blk_cell BK148.out 3).trans rfl, (blk_cell BK148.out 4).trans rfl, (blk_cell BK149.out 0).trans rfl, (blk_cell BK149.out 1).trans rfl, (blk_cell BK149.out 2).trans rfl, (blk_cell BK149.out 3).trans rfl, (blk_cell BK149.out 4).trans rfl, ((HB.out.cell (World.block_lt_of_cell? w _ hw162_0)).trans hw162_0), ((HB.out.cell (World.block_lt_of_cell? w _ hw163_0)).trans hw163_0)⟩ (fun hHeld => ?_)
                      clear hK K
                      refine norm_ (a' := ?_) ?_ ?_
                      rotate_left
                      · show Act.put _ (some 55) _ = _
                        simp only [Act.put, List.setIfInBounds_toArray, List.set_cons_zero, List.set_cons_succ, i64_w, i32_w]
                        rfl
                      refine pure_ (i := 11) (N := some 5) (v := ?_) (a' := ?_) #[true, true, true, true, true, true, true, true, true, true, true, true] rfl rfl (any_of HT_.out (by kernel_rfl)) (fun _ _ _ h => h) (Or.inl ⟨by rfl, ?_⟩) ?_ ?_
                      rotate_left
                      · intro w'
                        go_simp
                        with_reducible rfl
                      rotate_left
                      · simp only [Act.put, List.setIfInBounds_toArray, List.set_cons_zero, List.set_cons_succ, i64_w, i32_w]
                        rfl
                      refine done_ (done_of HT_.out (by kernel_rfl)) ?_
                      try go_wp2
                      go_roundg kj12
                      case measure => have := HK1.out; have := HJ12.out; omega
                      case rel => exact ⟨(t164), (wrap64 (x6_1 + 1)), (by first | rfl | (simp; done) | (simp [*]; done)), (by first | rfl | (simp; done) | (simp [*]; done)), H', ⟨by have := HK1.out; have := HJ12.out; omega⟩, ⟨by (with_reducible repeat (first | refine blk_drewN ?_ _ | refine blk_drew ?_ | refine blk_alloc ?_ _)); exact BK148.out⟩, ⟨by (with_reducible repeat (first | refine blk_drewN ?_ _ | refine blk_drew ?_ | refine blk_alloc ?_ _)); exact BK149.out⟩, ⟨by repeat (first | (with_reducible first | exact HB.out | apply below_alloc | apply pw_below_drewN | apply below_drew1 | refine below_set ?_ GE148.out | refine below_set ?_ GE149.out) | exact HB.out)⟩⟩
                  · rw [if_neg c25] at H
                    exact absurd H (by simp)
                · rw [if_neg c24] at H
                  exact absurd H (by simp)
              · rw [if_neg c23] at H
                exact absurd H (by simp)
            · rw [if_neg c22] at H
              have c22b0 : (a0_0 == 5) = false := beq_eq_false_iff_ne.mpr c22
              have c22b1 : (a0_0 != 5) = true := bne_iff_ne.mpr c22
              by_cases c39 : x5_1 = 0
              · rw [if_pos c39] at H
                have c39b0 : (x5_1 == 0) = true := beq_iff_eq.mpr c39
                have c39b1 : (x5_1 != 0) = false := bne_eq_false_iff_eq.mpr c39
                clear c39
                by_cases c40 : 0 ≤ x6_1
                · rw [if_pos c40] at H
                  have c40b0 : decide (0 ≤ x6_1) = true := decide_eq_true c40
                  clear c40
                  by_cases c41 : x6_1 < (l0_3.length : Int)
                  · rw [if_pos c41] at H
                    have c41b0 : decide (x6_1 < (l0_3.length : Int)) = true := decide_eq_true c41
                    clear c41
                    by_cases c42 : x6_1 < (l1_3.length : Int)
                    · rw [if_pos c42] at H
                      have c42b0 : decide (x6_1 < (l1_3.length : Int)) = true := decide_eq_true c42
                      clear c42
                      replace H := Option.bind_eq_some_iff.mp H
                      obtain ⟨t170, A430, H⟩ := H
                      replace H : (value_order.l0 kj12 t170 (wrap64 (x6_1 + 1)) a0_0 a0_1 a0_2 l0_3 l0_4 a1_0 a1_1 a1_2 l1_3 l1_4) = some r := H
                      have A43 := Aside0.mk A430
                      clear A430
                      have H' := Aside0.mk H
                      clear H
                      have hnb44 := NB148_149.out
                      have hnc44 := NB149_148.out
                      have hcz45_0 : wc.cell? ⟨gb148, 0, none⟩ = some (.int .i64 a0_0) := (blk_cell BK148.out 0).trans rfl
                      have hcz45_1 : wc.cell? ⟨gb148, 1, none⟩ = some (.int .i64 a0_1) := (blk_cell BK148.out 1).trans rfl
                      have hcz45_2 : wc.cell? ⟨gb148, 2, none⟩ = some (.string a0_2) := (blk_cell BK148.out 2).trans rfl
                      have hcz45_3 : wc.cell? ⟨gb148, 3, none⟩ = some (.slice A0_3 l0_3.length c0_3) := (blk_cell BK148.out 3).trans rfl
                      have hcz45_4 : wc.cell? ⟨gb148, 4, none⟩ = some (.slice A0_4 l0_4.length c0_4) := (blk_cell BK148.out 4).trans rfl
                      have hfz45_0 := blk_frozen BK148.out 0
                      have hfz45_1 := blk_frozen BK148.out 1
                      have hfz45_2 := blk_frozen BK148.out 2
                      have hfz45_3 := blk_frozen BK148.out 3
                      have hfz45_4 := blk_frozen BK148.out 4
                      try go_wp2
                      have n0_ := Aside0.mk (blk_drew BK148.out)
                      have n1_ := Aside0.mk (blk_drew BK149.out)
                      have n2_ := Aside0.mk (below_drew1 HB.out)
                      clear BK148
                      clear BK149
                      clear HB
                      have BK148 := n0_
                      have BK149 := n1_
                      have HB := n2_
                      clear n0_ n1_ n2_
                      have p168 : 0 ≤ (x6_1 : Int) := of_decide_eq_true (by first | (with_reducible assumption) | assumption)
                      have q168 : x6_1 < (l0_3.length : Int) := of_decide_eq_true (by first | (with_reducible assumption) | assumption)
                      obtain ⟨ad168, A168_3, c168_3, A168_4, c168_4, e168, hx168_0, hx168_1, hx168_2, hx168_3, hx168_4, hl168_3, hi168_3, hl168_4, hi168_4⟩ := at_T25 HR0_3.out x6_1 p168 q168
                      have hw168_4 := hx168_4
                      have hw168_3 := hx168_3
                      have hw168_2 := hx168_2
                      have hw168_1 := hx168_1
                      have hw168_0 := hx168_0
                      cases e168
                      replace hx168_0 := (HB.out.cell (World.block_lt_of_cell? w _ hx168_0)).trans hx168_0
                      replace hx168_1 := (HB.out.cell (World.block_lt_of_cell? w _ hx168_1)).trans hx168_1
                      replace hx168_2 := (HB.out.cell (World.block_lt_of_cell? w _ hx168_2)).trans hx168_2
                      replace hx168_3 := (HB.out.cell (World.block_lt_of_cell? w _ hx168_3)).trans hx168_3
                      replace hx168_4 := (HB.out.cell (World.block_lt_of_cell? w _ hx168_4)).trans hx168_4
                      have HR168_3 := Aside0.mk hi168_3
                      have HC168_3 := Aside0.mk hl168_3
                      clear hi168_3 hl168_3
                      have HR168_4 := Aside0.mk hi168_4
                      have HC168_4 := Aside0.mk hl168_4
                      clear hi168_4 hl168_4
                      replace p168 := eq_true p168
                      replace q168 := eq_true q168
                      have p169 : 0 ≤ (x6_1 : Int) := of_decide_eq_true (by first | (with_reducible assumption) | assumption)
                      have q169 : x6_1 < (l1_3.length : Int) := of_decide_eq_true (by first | (with_reducible assumption) | assumption)
                      obtain ⟨ad169, A169_3, c169_3, A169_4, c169_4, e169, hx169_0, hx169_1, hx169_2, hx169_3, hx169_4, hl169_3, hi169_3, hl169_4, hi169_4⟩ := at_T25 HR1_3.out x6_1 p169 q169
                      have hw169_4 := hx169_4
                      have hw169_3 := hx169_3
                      have hw169_2 := hx169_2
                      have hw169_1 := hx169_1
                      have hw169_0 := hx169_0
                      cases e169
                      replace hx169_0 := (HB.out.cell (World.block_lt_of_cell? w _ hx169_0)).trans hx169_0
                      replace hx169_1 := (HB.out.cell (World.block_lt_of_cell? w _ hx169_1)).trans hx169_1
                      replace hx169_2 := (HB.out.cell (World.block_lt_of_cell? w _ hx169_2)).trans hx169_2
                      replace hx169_3 := (HB.out.cell (World.block_lt_of_cell? w _ hx169_3)).trans hx169_3
                      replace hx169_4 := (HB.out.cell (World.block_lt_of_cell? w _ hx169_4)).trans hx169_4
                      have HR169_3 := Aside0.mk hi169_3
                      have HC169_3 := Aside0.mk hl169_3
                      clear hi169_3 hl169_3
                      have HR169_4 := Aside0.mk hi169_4
                      have HC169_4 := Aside0.mk hl169_4
                      clear hi169_4 hl169_4
                      replace p169 := eq_true p169
                      replace q169 := eq_true q169
                      refine start_ (n := 12) (S := fun w' => w'.cell? ⟨gb148, 0, none⟩ = some (.int .i64 a0_0) ∧ w'.cell? ⟨gb148, 1, none⟩ = some (.int .i64 a0_1) ∧ w'.cell? ⟨gb148, 2, none⟩ = some (.string a0_2) ∧ w'.cell? ⟨gb148, 3, none⟩ = some (.slice (some ad168) l0_3.length c0_3) ∧ w'.cell? ⟨gb148, 4, none⟩ = some (.slice A0_4 l0_4.length c0_4) ∧ w'.cell? ⟨gb149, 0, none⟩ = some (.int .i64 a1_0) ∧ w'.cell? ⟨gb149, 1, none⟩ = some (.int .i64 a1_1) ∧ w'.cell? ⟨gb149, 2, none⟩ = some (.string a1_2) ∧ w'.cell? ⟨gb149, 3, none⟩ = some (.slice (some ad169) l1_3.length c1_3) ∧ w'.cell? ⟨gb149, 4, none⟩ = some (.slice A1_4 l1_4.length c1_4) ∧ w'.cell? (ad168.add ((x6_1).toNat * 5)) = some (.int .i64 ((rd_T25 l0_3 x6_1).f0)) ∧ w'.cell? ⟨(ad168.add ((x6_1).toNat * 5)).block, (ad168.add ((x6_1).toNat * 5)).off + 1, none⟩ = some (.int .i64 ((rd_T25 l0_3 x6_1).f1)) ∧ w'.cell? ⟨(ad168.add ((x6_1).toNat * 5)).block, (ad168.add ((x6_1).toNat * 5)).off + 2, none⟩ = some (.string ((rd_T25 l0_3 x6_1).f2)) ∧ w'.cell? ⟨(ad168.add ((x6_1).toNat * 5)).block, (ad168.add ((x6_1).toNat * 5)).off + 3, none⟩ = some (.slice A168_3 ((rd_T25 l0_3 x6_1).f3).length c168_3) ∧ w'.cell? ⟨(ad168.add ((x6_1).toNat * 5)).block, (ad168.add ((x6_1).toNat * 5)).off + 4, none⟩ = some (.slice A168_4 ((rd_T25 l0_3 x6_1).f4).length c168_4) ∧ w'.cell? (ad169.add ((x6_1).toNat * 5)) = some (.int .i64 ((rd_T25 l1_3 x6_1).f0)) ∧ w'.cell? ⟨(ad169.add ((x6_1).toNat * 5)).block, (ad169.add ((x6_1).toNat * 5)).off + 1, none⟩ = some (.int .i64 ((rd_T25 l1_3 x6_1).f1)) ∧ w'.cell? ⟨(ad169.add ((x6_1).toNat * 5)).block, (ad169.add ((x6_1).toNat * 5)).off + 2, none⟩ = some (.string ((rd_T25 l1_3 x6_1).f2)) ∧ w'.cell? ⟨(ad169.add ((x6_1).toNat * 5)).block, (ad169.add ((x6_1).toNat * 5)).off + 3, none⟩ = some (.slice A169_3 ((rd_T25 l1_3 x6_1).f3).length c169_3) ∧ w'.cell? ⟨(ad169.add ((x6_1).toNat * 5)).block, (ad169.add ((x6_1).toNat * 5)).off + 4, none⟩ = some (.slice A169_4 ((rd_T25 l1_3 x6_1).f4).length c169_4)) (ds := []) #[false, false, false, false, false, false, false, false, false, false, false, false] (by kernel_rfl) rfl rfl ⟨(blk_cell BK148.out 0).trans rfl, (blk_cell BK148.out 1).trans rfl, (blk_cell BK148.out 2).trans rfl, (blk_cell BK148.out 3).trans rfl, (blk_cell BK148.out 4).trans rfl, (blk_cell BK149.out 0).trans rfl, (blk_cell BK149.out 1).trans rfl, (blk_cell BK149.out 2).trans rfl, (blk_cell BK149.out 3).trans rfl, (blk_cell BK149.out 4).trans rfl, ((HB.out.cell (World.block_lt_of_cell? w _ hw168_0)).trans hw168_0), ((HB.out.cell (World.block_lt_of_cell? w _ hw168_1)).trans hw168_1), ((HB.out.cell (World.block_lt_of_cell? w _ hw168_2)).trans hw168_2), ((HB.out.cell (World.block_lt_of_cell? w _ hw168_3)).trans hw168_3), ((HB.out.cell (World.block_lt_of_cell? w _ hw168_4)).trans hw168_4), ((HB.out.cell (World.block_lt_of_cell? w _ hw169_0)).trans hw169_0), ((HB.out.cell (World.block_lt_of_cell? w _ hw169_1)).trans hw169_1), ((HB.out.cell (World.block_lt_of_cell? w _ hw169_2)).trans hw169_2), ((HB.out.cell (World.block_lt_of_cell? w _ hw169_3)).trans hw169_3), ((HB.out.cell (World.block_lt_of_cell? w _ hw169_4)).trans hw169_4)⟩ (fun hHeld => ?_); refine with_tabW value_order.tab8 value_order.bits8 (fun HT_ HW_ => ?_)
                      generalize wc.drew = w46 at BK148 BK149 HB HR168_3 HR168_4 HR169_3 HR169_4 hx168_0 hx168_1 hx168_2 hx168_3 hx168_4 hx169_0 hx169_1 hx169_2 hx169_3 hx169_4 hHeld ⊢
                      refine pure_ (i := 0) (N := some 58) (v := ?_) (a' := ?_) #[true, false, false, false, false, false, false, false, false, false, false, false] rfl rfl (any_of HT_.out (by kernel_rfl)) (fun _ _ _ h => h) (Or.inl ⟨by rfl, ?_⟩) ?_ ?_
                      rotate_left
                      · intro w'
                        go_simp
                        with_reducible rfl
                      rotate_left
                      · simp only [Act.put, List.setIfInBounds_toArray, List.set_cons_zero, List.set_cons_succ, i64_w, i32_w]
                        rfl
                      refine pure_ (i := 2) (N := some 60) (v := ?_) (a' := ?_) #[true, false, true, false, false, false, false, false, false, false, false, false] rfl rfl (any_of HT_.out (by kernel_rfl)) (fun _ _ _ h => h) (Or.inl ⟨by rfl, ?_⟩) ?_ ?_
                      rotate_left
                      · intro w'
                        go_simp
                        with_reducible rfl
                      rotate_left
                      · simp only [Act.put, List.setIfInBounds_toArray, List.set_cons_zero, List.set_cons_succ, i64_w, i32_w]
                        rfl
                      refine pure_ (i := 5) (N := some 63) (v := ?_) (a' := ?_) #[true, false, true, false, false, true, false, false, false, false, false, false] rfl rfl (any_of HT_.out (by kernel_rfl)) (fun _ _ _ h => h) (Or.inl ⟨by rfl, ?_⟩) ?_ ?_
                      rotate_left
                      · intro w'
                        go_simp
                        with_reducible rfl
                      rotate_left
                      · simp only [Act.put, List.setIfInBounds_toArray, List.set_cons_zero, List.set_cons_succ, i64_w, i32_w]
                        rfl
                      refine pure_ (i := 7) (N := some 65) (v := ?_) (a' := ?_) #[true, false, true, false, false, true, false, true, false, false, false, false] rfl rfl (any_of HT_.out (by kernel_rfl)) (fun _ _ _ h => h) (Or.inl ⟨by rfl, ?_⟩) ?_ ?_
                      rotate_left
                      · intro w'
                        go_simp
                        with_reducible rfl
                      rotate_left
                      · simp only [Act.put, List.setIfInBounds_toArray, List.set_cons_zero, List.set_cons_succ, i64_w, i32_w]
                        rfl
                      refine take_ (i := 1) (N := some 59) (v := ?_) (a' := ?_) #[true, true, true, false, false, true, false, true, false, false, false, false] rfl rfl (take_ofW HT_.out HW_.out (by kernel_rfl)) (fun _ _ _ h => h) (Or.inl ⟨by rfl, ?_⟩) hHeld ?_ ?_
                      rotate_left
                      · rintro w' ⟨s0, s1, s2, s3, s4, s5, s6, s7, s8, s9, s10, s11, s12, s13, s14, s15, s16, s17, s18, s19⟩
                        go_simp
                        with_reducible rfl
                      rotate_left
                      · simp only [Act.put, List.setIfInBounds_toArray, List.set_cons_zero, List.set_cons_succ, i64_w, i32_w]
                        rfl
                      refine pure_ (i := 3) (N := some 61) (v := ?_) (a' := ?_) #[true, true, true, true, false, true, false, true, false, false, false, false] rfl rfl (any_of HT_.out (by kernel_rfl)) (fun _ _ _ h => h) (Or.inl ⟨by rfl, ?_⟩) ?_ ?_
                      rotate_left
                      · intro w'
                        go_simp
                        with_reducible rfl
                      rotate_left
                      · simp only [Act.put, List.setIfInBounds_toArray, List.set_cons_zero, List.set_cons_succ, i64_w, i32_w]
                        rfl
                      refine take_ (i := 4) (N := some 62) (v := ?_) (a' := ?_) #[true, true, true, true, true, true, false, true, false, false, false, false] rfl rfl (take_ofW HT_.out HW_.out (by kernel_rfl)) (fun _ _ _ h => h) (Or.inl ⟨by rfl, ?_⟩) hHeld ?_ ?_
                      rotate_left
                      · rintro w' ⟨s0, s1, s2, s3, s4, s5, s6, s7, s8, s9, s10, s11, s12, s13, s14, s15, s16, s17, s18, s19⟩
                        go_simp
                        with_reducible rfl
                      rotate_left
                      · simp only [Act.put, List.setIfInBounds_toArray, List.set_cons_zero, List.set_cons_succ, i64_w, i32_w]
                        rfl
                      refine take_ (i := 6) (N := some 64) (v := ?_) (a' := ?_) #[true, true, true, true, true, true, true, true, false, false, false, false] rfl rfl (take_ofW HT_.out HW_.out (by kernel_rfl)) (fun _ _ _ h => h) (Or.inl ⟨by rfl, ?_⟩) hHeld ?_ ?_
                      rotate_left
                      · rintro w' ⟨s0, s1, s2, s3, s4, s5, s6, s7, s8, s9, s10, s11, s12, s13, s14, s15, s16, s17, s18, s19⟩
                        go_simp
                        with_reducible rfl
                      rotate_left
                      · simp only [Act.put, List.setIfInBounds_toArray, List.set_cons_zero, List.set_cons_succ, i64_w, i32_w]
                        rfl
                      refine pure_ (i := 8) (N := some 66) (v := ?_) (a' := ?_) #[true, true, true, true, true, true, true, true, true, false, false, false] rfl rfl (any_of HT_.out (by kernel_rfl)) (fun _ _ _ h => h) (Or.inl ⟨by rfl, ?_⟩) ?_ ?_
                      rotate_left
                      · intro w'
                        go_simp
                        with_reducible rfl
                      rotate_left
                      · simp only [Act.put, List.setIfInBounds_toArray, List.set_cons_zero, List.set_cons_succ, i64_w, i32_w]
                        rfl
                      refine take_ (i := 9) (N := some 67) (v := ?_) (a' := ?_) #[true, true, true, true, true, true, true, true, true, true, false, false] rfl rfl (take_ofW HT_.out HW_.out (by kernel_rfl)) (fun _ _ _ h => h) (Or.inl ⟨by rfl, ?_⟩) hHeld ?_ ?_
                      rotate_left
                      · rintro w' ⟨s0, s1, s2, s3, s4, s5, s6, s7, s8, s9, s10, s11, s12, s13, s14, s15, s16, s17, s18, s19⟩
                        go_simp
                        with_reducible rfl
                      rotate_left
                      · simp only [Act.put, List.setIfInBounds_toArray, List.set_cons_zero, List.set_cons_succ, i64_w, i32_w]
                        rfl
                      refine one_ (i := 10) (N := some 68) #[true, true, true, true, true, true, true, true, true, true, true, false] rfl rfl (one_of HT_.out (by kernel_rfl)) (by decide) (fun K hK => ?_)
                      refine goes_ Try.func32 (by kernel_rfl) rfl #[.agg #[.int .i64 ((rd_T25 l0_3 x6_1).f0), .int .i64 ((rd_T25 l0_3 x6_1).f1), .string ((rd_T25 l0_3 x6_1).f2), .slice A168_3 ((rd_T25 l0_3 x6_1).f3).length c168_3, .slice A168_4 ((rd_T25 l0_3 x6_1).f4).length c168_4], .agg #[.int .i64 ((rd_T25 l1_3 x6_1).f0), .int .i64 ((rd_T25 l1_3 x6_1).f1), .string ((rd_T25 l1_3 x6_1).f2), .slice A169_3 ((rd_T25 l1_3 x6_1).f3).length c169_3, .slice A169_4 ((rd_T25 l1_3 x6_1).f4).length c169_4]] (by rfl) rfl rfl (by (try simp only [List.map_toArray, List.map_cons, List.map_nil]); first | done | rfl | (simp only [List.length_drop, List.length_take]; rfl)) ?_
                      with_reducible refine (ih kj12 (by have := HK1.out; have := HJ12.out; omega) ((rd_T25 l0_3 x6_1).f0) ((rd_T25 l0_3 x6_1).f1) ((rd_T25 l0_3 x6_1).f2) _ _ ((rd_T25 l0_3 x6_1).f3) _ _ ((rd_T25 l0_3 x6_1).f4) ((rd_T25 l1_3 x6_1).f0) ((rd_T25 l1_3 x6_1).f1) ((rd_T25 l1_3 x6_1).f2) _ _ ((rd_T25 l1_3 x6_1).f3) _ _ ((rd_T25 l1_3 x6_1).f4) t170 _ ?side1 ?side2 ?side3 ?side4 ?side5 ?side6 ?side7 ?side8 A43.out).mono ?_
                      (case side1 => repeat (first | exact (Kd.C_below HR168_3.out HB.out) | (with_reducible refine Kd.C_alloc ?_ _) | (with_reducible refine Kd.C_drewN ?_ _) | (with_reducible refine Kd.C_drew ?_)))
                      (case side2 => exact HC168_3.out)
                      (case side3 => repeat (first | exact (Kd.C_below HR168_4.out HB.out) | (with_reducible refine Kd.C_alloc ?_ _) | (with_reducible refine Kd.C_drewN ?_ _) | (with_reducible refine Kd.C_drew ?_)))
                      (case side4 => exact HC168_4.out)
                      (case side5 => repeat (first | exact (Kd.C_below HR169_3.out HB.out) | (with_reducible refine Kd.C_alloc ?_ _) | (with_reducible refine Kd.C_drewN ?_ _) | (with_reducible refine Kd.C_drew ?_)))
                      (case side6 => exact HC169_3.out)
                      (case side7 => repeat (first | exact (Kd.C_below HR169_4.out HB.out) | (with_reducible refine Kd.C_alloc ?_ _) | (with_reducible refine Kd.C_drewN ?_ _) | (with_reducible refine Kd.C_drew ?_)))
                      (case side8 => exact HC169_4.out)
                      rintro e w47 ⟨rfl, hb⟩
                      refine ⟨_, rfl, ?_⟩
                      have n0_ := Aside0.mk (blk_below (g := gb148) (o := .cells #[.int .i64 a0_0, .int .i64 a0_1, .string a0_2, .slice (some ad168) l0_3.length c0_3, .slice A0_4 l0_4.length c0_4] 25 (0, 0)) (by (with_reducible repeat (first | refine blk_drewN ?_ _ | refine blk_drew ?_ | refine blk_alloc ?_ _)); exact BK148.out) hb)
                      have n1_ := Aside0.mk (blk_below (g := gb149) (o := .cells #[.int .i64 a1_0, .int .i64 a1_1, .string a1_2, .slice (some ad169) l1_3.length c1_3, .slice A1_4 l1_4.length c1_4] 25 (0, 0)) (by (with_reducible repeat (first | refine blk_drewN ?_ _ | refine blk_drew ?_ | refine blk_alloc ?_ _)); exact BK149.out) hb)
                      have n2_ := Aside0.mk (below_step (by repeat (first | (with_reducible first | exact HB.out | apply below_alloc | apply pw_below_drewN | apply below_drew1 | refine below_set ?_ GE148.out | refine below_set ?_ GE149.out) | exact HB.out)) hb)
                      clear BK148
                      clear BK149
                      clear HB
                      have BK148 := n0_
                      have BK149 := n1_
                      have HB := n2_
                      clear n0_ n1_ n2_
                      (try clear hb)
                      (try clear hb2)
                      (try clear hk)
                      (try clear hi)
                      refine hK.out _ _ ⟨(blk_cell BK148.out 0).trans rfl, (blk_cell BK148.out 1).trans rfl, (blk_cell BK148.out 2).trans rfl, (blk_cell BK148.out 3).trans rfl, (blk_cell BK148.out 4).trans rfl, (blk_cell BK149.out 0).trans rfl, (blk_cell BK149.out 1).trans rfl, (blk_cell BK149.out 2).trans rfl, (blk_cell BK149.out 3).trans rfl, (blk_cell BK149.out 4).trans rfl, ((HB.out.cell (World.block_lt_of_cell? w _ hw168_0)).trans hw168_0), ((HB.out.cell (World.block_lt_of_cell? w _ hw168_1)).trans hw168_1), ((HB.out.cell (World.block_lt_of_cell? w _ hw168_2)).trans hw168_2), ((HB.out.cell (World.block_lt_of_cell? w _ hw168_3)).trans hw168_3), ((HB.out.cell (World.block_lt_of_cell? w _ hw168_4)).trans hw168_4), ((HB.out.cell (World.block_lt_of_cell? w _ hw169_0)).trans hw169_0), ((HB.out.cell (World.block_lt_of_cell? w _ hw169_1)).trans hw169_1), ((HB.out.cell (World.block_lt_of_cell? w _ hw169_2)).trans hw169_2), ((HB.out.cell (World.block_lt_of_cell? w _ hw169_3)).trans hw169_3), ((HB.out.cell (World.block_lt_of_cell? w _ hw169_4)).trans hw169_4)⟩ (fun hHeld => ?_)
                      clear hK K
                      refine norm_ (a' := ?_) ?_ ?_
                      rotate_left
                      · show Act.put _ (some 68) _ = _
                        simp only [Act.put, List.setIfInBounds_toArray, List.set_cons_zero, List.set_cons_succ, i64_w, i32_w]
                        rfl
                      refine pure_ (i := 11) (N := some 5) (v := ?_) (a' := ?_) #[true, true, true, true, true, true, true, true, true, true, true, true] rfl rfl (any_of HT_.out (by kernel_rfl)) (fun _ _ _ h => h) (Or.inl ⟨by rfl, ?_⟩) ?_ ?_
                      rotate_left
                      · intro w'
                        go_simp
                        with_reducible rfl
                      rotate_left
                      · simp only [Act.put, List.setIfInBounds_toArray, List.set_cons_zero, List.set_cons_succ, i64_w, i32_w]
                        rfl
                      refine done_ (done_of HT_.out (by kernel_rfl)) ?_
                      try go_wp2
                      go_roundg kj12
                      case measure => have := HK1.out; have := HJ12.out; omega
                      case rel => exact ⟨(t170), (wrap64 (x6_1 + 1)), (by first | rfl | (simp; done) | (simp [*]; done)), (by first | rfl | (simp; done) | (simp [*]; done)), H', ⟨by have := HK1.out; have := HJ12.out; omega⟩, ⟨by (with_reducible repeat (first | refine blk_drewN ?_ _ | refine blk_drew ?_ | refine blk_alloc ?_ _)); exact BK148.out⟩, ⟨by (with_reducible repeat (first | refine blk_drewN ?_ _ | refine blk_drew ?_ | refine blk_alloc ?_ _)); exact BK149.out⟩, ⟨by repeat (first | (with_reducible first | exact HB.out | apply below_alloc | apply pw_below_drewN | apply below_drew1 | refine below_set ?_ GE148.out | refine below_set ?_ GE149.out) | exact HB.out)⟩⟩
                    · rw [if_neg c42] at H
                      exact absurd H (by simp)
                  · rw [if_neg c41] at H
                    exact absurd H (by simp)
                · rw [if_neg c40] at H
                  exact absurd H (by simp)
              · rw [if_neg c39] at H
                have c39b0 : (x5_1 == 0) = false := beq_eq_false_iff_ne.mpr c39
                have c39b1 : (x5_1 != 0) = true := bne_iff_ne.mpr c39
                have H' := Aside0.mk H
                clear H
                have hnb48 := NB148_149.out
                have hnc48 := NB149_148.out
                have hcz49_0 : wc.cell? ⟨gb148, 0, none⟩ = some (.int .i64 a0_0) := (blk_cell BK148.out 0).trans rfl
                have hcz49_1 : wc.cell? ⟨gb148, 1, none⟩ = some (.int .i64 a0_1) := (blk_cell BK148.out 1).trans rfl
                have hcz49_2 : wc.cell? ⟨gb148, 2, none⟩ = some (.string a0_2) := (blk_cell BK148.out 2).trans rfl
                have hcz49_3 : wc.cell? ⟨gb148, 3, none⟩ = some (.slice A0_3 l0_3.length c0_3) := (blk_cell BK148.out 3).trans rfl
                have hcz49_4 : wc.cell? ⟨gb148, 4, none⟩ = some (.slice A0_4 l0_4.length c0_4) := (blk_cell BK148.out 4).trans rfl
                have hfz49_0 := blk_frozen BK148.out 0
                have hfz49_1 := blk_frozen BK148.out 1
                have hfz49_2 := blk_frozen BK148.out 2
                have hfz49_3 := blk_frozen BK148.out 3
                have hfz49_4 := blk_frozen BK148.out 4
                go_wp2
                go_roundg kj12
                case measure => have := HK1.out; have := HJ12.out; omega
                case rel => exact ⟨(x5_1), (wrap64 (x6_1 + 1)), (by first | rfl | (simp; done) | (simp [*]; done)), (by first | rfl | (simp; done) | (simp [*]; done)), H', ⟨by have := HK1.out; have := HJ12.out; omega⟩, ⟨by (with_reducible repeat (first | refine blk_drewN ?_ _ | refine blk_drew ?_ | refine blk_alloc ?_ _)); exact BK148.out⟩, ⟨by (with_reducible repeat (first | refine blk_drewN ?_ _ | refine blk_drew ?_ | refine blk_alloc ?_ _)); exact BK149.out⟩, ⟨by repeat (first | (with_reducible first | exact HB.out | apply below_alloc | apply pw_below_drewN | apply below_drew1 | refine below_set ?_ GE148.out | refine below_set ?_ GE149.out) | exact HB.out)⟩⟩
          · replace c21 := Bool.eq_false_iff.mpr c21
            subst c21
            have H1 : ((cmp_Compare_int.f (l0_3.length : Int) (l1_3.length : Int)).bind fun t157 => ((cmp_Or_int.f kj12 (([x5_1, t157] : List Int))).bind fun t161 => (some t161))) = some r := by rw [if_neg (show ¬ (false = true) by decide)] at H; exact H
            clear H
            have H := H1
            clear H1
            replace H := Option.bind_eq_some_iff.mp H
            obtain ⟨t157, A500, H⟩ := H
            replace H : ((cmp_Or_int.f kj12 (([x5_1, t157] : List Int))).bind fun t161 => (some t161)) = some r := H
            have A50 := Aside0.mk A500
            clear A500
            obtain ⟨y158, hy158⟩ : ∃ y_ : List Int, y_ = (([x5_1, t157] : List Int)) := ⟨_, rfl⟩
            replace H : ((cmp_Or_int.f kj12 y158).bind fun t161 => (some t161)) = some r := by first | (rw [hy158]; with_reducible exact H) | (have H2_ := (Option.bind_some _ _).symm.trans H; rw [hy158]; with_reducible exact H2_) | (have H2_ := (Option.bind_some _ _).symm.trans H; with_reducible exact H2_) | with_reducible exact H | (rw [hy158]; exact H) | exact H
            have Ny158 := Aside0.mk hy158
            clear hy158
            replace H := Option.bind_eq_some_iff.mp H
            obtain ⟨t161, A510, H⟩ := H
            replace H : (some t161) = some r := H
            have A51 := Aside0.mk A510
            clear A510
            obtain rfl := Option.some.inj H
            simp only [Option.some.injEq, Prod.mk.injEq] at H
            obtain ⟨rfl⟩ := H
            have hnb52 := NB148_149.out
            have hnc52 := NB149_148.out
            have hcz53_0 : wc.cell? ⟨gb148, 0, none⟩ = some (.int .i64 a0_0) := (blk_cell BK148.out 0).trans rfl
            have hcz53_1 : wc.cell? ⟨gb148, 1, none⟩ = some (.int .i64 a0_1) := (blk_cell BK148.out 1).trans rfl
            have hcz53_2 : wc.cell? ⟨gb148, 2, none⟩ = some (.string a0_2) := (blk_cell BK148.out 2).trans rfl
            have hcz53_3 : wc.cell? ⟨gb148, 3, none⟩ = some (.slice A0_3 l0_3.length c0_3) := (blk_cell BK148.out 3).trans rfl
            have hcz53_4 : wc.cell? ⟨gb148, 4, none⟩ = some (.slice A0_4 l0_4.length c0_4) := (blk_cell BK148.out 4).trans rfl
            have hfz53_0 := blk_frozen BK148.out 0
            have hfz53_1 := blk_frozen BK148.out 1
            have hfz53_2 := blk_frozen BK148.out 2
            have hfz53_3 := blk_frozen BK148.out 3
            have hfz53_4 := blk_frozen BK148.out 4
            have hcz54_0 : wc.cell? ⟨gb149, 0, none⟩ = some (.int .i64 a1_0) := (blk_cell BK149.out 0).trans rfl
            have hcz54_1 : wc.cell? ⟨gb149, 1, none⟩ = some (.int .i64 a1_1) := (blk_cell BK149.out 1).trans rfl
            have hcz54_2 : wc.cell? ⟨gb149, 2, none⟩ = some (.string a1_2) := (blk_cell BK149.out 2).trans rfl
            have hcz54_3 : wc.cell? ⟨gb149, 3, none⟩ = some (.slice A1_3 l1_3.length c1_3) := (blk_cell BK149.out 3).trans rfl
            have hcz54_4 : wc.cell? ⟨gb149, 4, none⟩ = some (.slice A1_4 l1_4.length c1_4) := (blk_cell BK149.out 4).trans rfl
            have hfz54_0 := blk_frozen BK149.out 0
            have hfz54_1 := blk_frozen BK149.out 1
            have hfz54_2 := blk_frozen BK149.out 2
            have hfz54_3 := blk_frozen BK149.out 3
            have hfz54_4 := blk_frozen BK149.out 4
            go_wp2_with (first | ((with_reducible refine gate_callee (f := 56) rfl ?_); refine goesL_ (some 76) rfl rfl Try.func56 (by kernel_rfl) rfl #[.int .i64 (l0_3.length : Int), .int .i64 (l1_3.length : Int)] rfl (by (try simp only [List.map_toArray, List.map_cons, List.map_nil]); first | done | rfl | (simp only [List.length_drop, List.length_take]; rfl)) ?_; (with_reducible refine (cmp_Compare_int.calls (l0_3.length : Int) (l1_3.length : Int) t157 _ A50.out).mono ?_); rintro e w' ⟨rfl, ⟨nd, rfl⟩⟩; refine ⟨_, rfl, ?_⟩) | ((with_reducible refine gate_dst (N := 77) rfl ?_); (try (refine gate_guard (by rfl) ?_; dsimp only)); refine Kd.R_lit (Kd.int .i64) _ 3 ?hg (N := 77) ?hd (xs := ([x5_1, t157] : List Int)) (inner := [.int .i64 x5_1, .int .i64 t157]) (ok := fun _ => True) (okp := fun _ => True) ?hr ?hp (fun _ hk => hk) trivial (Below.refl _ _) (Nat.le_refl _) (by simp) ?_; (case hd => rfl); (case hg => rfl); (case hr => first | (go_simp; done) | (go_simp; rfl)); (case hp => exact (Reps.one (show Kd.M (Kd.int .i64) _ _ _ x5_1 [.int .i64 x5_1] from rfl) (Reps.one (show Kd.M (Kd.int .i64) _ _ _ t157 [.int .i64 t157] from rfl) (Reps.none _ _)))); intro v159 w55 ho56 hb hg_ hnew_; clear hg_ hnew_; (first | rw [← Ny158.out] at ho56 | (simp only [Int.reduceToNat] at ho56; rw [← Ny158.out] at ho56)); have n0_ := Aside0.mk (Kd.R_lower ho56 (below_size (by repeat (first | (with_reducible first | exact HB.out | apply below_alloc | apply pw_below_drewN | apply below_drew1 | refine below_set ?_ GE148.out | refine below_set ?_ GE149.out) | exact HB.out)))); have n1_ := Aside0.mk (blk_below (g := gb148) (o := .cells #[.int .i64 a0_0, .int .i64 a0_1, .string a0_2, .slice A0_3 l0_3.length c0_3, .slice A0_4 l0_4.length c0_4] 25 (0, 0)) (by (with_reducible repeat (first | refine blk_drewN ?_ _ | refine blk_drew ?_ | refine blk_alloc ?_ _)); exact BK148.out) hb); have n2_ := Aside0.mk (blk_below (g := gb149) (o := .cells #[.int .i64 a1_0, .int .i64 a1_1, .string a1_2, .slice A1_3 l1_3.length c1_3, .slice A1_4 l1_4.length c1_4] 25 (0, 0)) (by (with_reducible repeat (first | refine blk_drewN ?_ _ | refine blk_drew ?_ | refine blk_alloc ?_ _)); exact BK149.out) hb); have n3_ := Aside0.mk (below_step (by repeat (first | (with_reducible first | exact HB.out | apply below_alloc | apply pw_below_drewN | apply below_drew1 | refine below_set ?_ GE148.out | refine below_set ?_ GE149.out) | exact HB.out)) hb); clear BK148; clear BK149; clear HB; have HO160 := n0_; have BK148 := n1_; have BK149 := n2_; have HB := n3_; clear n0_ n1_ n2_ n3_; clear hb ho56; obtain ⟨Ao57, co57, eo57⟩ := Kd.R_slice HO160.out; subst eo57) | ((with_reducible refine gate_callee (f := 55) rfl ?_); refine goesL_ (some 78) rfl rfl Try.func55 (by kernel_rfl) rfl #[.slice Ao57 y158.length co57] rfl (by (try simp only [List.map_toArray, List.map_cons, List.map_nil]); first | done | rfl | (simp only [List.length_drop, List.length_take]; rfl)) ?_; (with_reducible refine (cmp_Or_int.calls kj12 _ _ y158 t161 _ ?side1 ?side2 A51.out).mono ?_); (case side1 => repeat (first | exact (Kd.R_reads' HO160.out).2.2 | (with_reducible refine Kd.C_alloc ?_ _) | (with_reducible refine Kd.C_drewN ?_ _) | (with_reducible refine Kd.C_drew ?_))); (case side2 => exact (Kd.R_reads' HO160.out).2.1); rintro e w' ⟨rfl, ⟨nd, rfl⟩⟩; refine ⟨_, rfl, ?_⟩))
            go_ret
            exact ⟨by first | rfl | (simp [errW_none, errW_some] <;> rfl) | (simp [*, errW_none, errW_some] <;> rfl), by repeat (first | (with_reducible first | exact HB.out | apply below_alloc | apply pw_below_drewN | apply below_drew1 | refine below_set ?_ GE148.out | refine below_set ?_ GE149.out) | exact HB.out)⟩

end Go.Proofs.Ythjeakmndoknpaa.X
