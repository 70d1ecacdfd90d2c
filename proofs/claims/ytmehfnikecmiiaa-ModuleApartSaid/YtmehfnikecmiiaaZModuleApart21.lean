/- Texts of the claim of ModuleApart, one behind the other; what nothing names is left out. -/
import Derived.Test.YtmehfnikecmiiaaZModuleApart3
import Derived.Test.YtmehfnikecmiiaaZModuleApart19
import Derived.Test.YtmehfnikecmiiaaZModuleApart20
set_option linter.unusedVariables false
set_option linter.unusedSimpArgs false
-- Written by a program of this session (wip/xprint.py) out of the translation's print; Lean checks it.
namespace Go.Proofs.Ytmehfnikecmiiaa.X
open Go.RowKit Go.Proofs.YtmehfnikecmiiaaW.PrintWords Go.Proofs.YtmehfnikecmiiaaW.PrintLast Go.Proofs.YtmehfnikecmiiaaW.PrintMore Go.Proofs.YtmehfnikecmiiaaW
attribute [local go_sem] max2_int min2_int max_two min_two max_three min_three max_four min_four   -- for this text's walks alone
attribute [local go_sem high] eqA52 eqA56
/-! ### scruplelaw09_Same: function 13 -/
mutual
def scruplelaw09_Same.j0 : Nat → Bool → List (S48) → List (S52) → List (S56) → List (S48) → List (S52) → List (S56) → Option (Bool)
  | 0, _, _, _, _, _, _, _ => none
  | k + 1, x33, x161000, x161001, x161002, x162000, x162001, x162002 => if x33 = true then (some false) else (scruplelaw09_Same.l0 k 0 x161000 x161001 x161002 x162000 x162001 x162002)
def scruplelaw09_Same.l0 : Nat → Int → List (S48) → List (S52) → List (S56) → List (S48) → List (S52) → List (S56) → Option (Bool)
  | 0, _, _, _, _, _, _, _ => none
  | k + 1, x5, x161000, x161001, x161002, x162000, x162001, x162002 => if x5 < (x161000.length : Int) then (if 0 ≤ x5 then (if x5 < (x162000.length : Int) then ((scruplelaw03_Same.f k ((rd_T48 x161000 x5).f0) ((rd_T48 x161000 x5).f1) ((rd_T48 x161000 x5).f2) ((rd_T48 x161000 x5).f3) ((rd_T48 x161000 x5).f4) ((rd_T48 x162000 x5).f0) ((rd_T48 x162000 x5).f1) ((rd_T48 x162000 x5).f2) ((rd_T48 x162000 x5).f3) ((rd_T48 x162000 x5).f4)).bind fun t164 => (if t164 = true then (scruplelaw09_Same.l0 k (wrap64 (x5 + 1)) x161000 x161001 x161002 x162000 x162001 x162002) else (some false))) else (none)) else (none)) else (scruplelaw09_Same.l1 k 0 x161000 x161001 x161002 x162000 x162001 x162002)
def scruplelaw09_Same.l1 : Nat → Int → List (S48) → List (S52) → List (S56) → List (S48) → List (S52) → List (S56) → Option (Bool)
  | 0, _, _, _, _, _, _, _ => none
  | k + 1, x7, x161000, x161001, x161002, x162000, x162001, x162002 => if x7 < (x161001.length : Int) then (if 0 ≤ x7 then (if x7 < (x162001.length : Int) then (if (!(((rd_T52 x161001 x7).f0) == ((rd_T52 x162001 x7).f0)) || (!(((rd_T52 x161001 x7).f1) == ((rd_T52 x162001 x7).f1)) || (!(((rd_T52 x161001 x7).f2) == ((rd_T52 x162001 x7).f2)) || (!((((rd_T52 x161001 x7).f3).toList) == (((rd_T52 x162001 x7).f3).toList)))))) = true then (some false) else (scruplelaw09_Same.l1 k (wrap64 (x7 + 1)) x161000 x161001 x161002 x162000 x162001 x162002)) else (none)) else (none)) else (scruplelaw09_Same.l2 k 0 x161000 x161001 x161002 x162000 x162001 x162002)
def scruplelaw09_Same.l2 : Nat → Int → List (S48) → List (S52) → List (S56) → List (S48) → List (S52) → List (S56) → Option (Bool)
  | 0, _, _, _, _, _, _, _ => none
  | k + 1, x8, x161000, x161001, x161002, x162000, x162001, x162002 => if x8 < (x161002.length : Int) then (if 0 ≤ x8 then (if x8 < (x162002.length : Int) then (if (!((((rd_T56 x161002 x8).f0).toList) == (((rd_T56 x162002 x8).f0).toList)) || (!(((rd_T56 x161002 x8).f1) == ((rd_T56 x162002 x8).f1)))) = true then (some false) else (scruplelaw09_Same.l2 k (wrap64 (x8 + 1)) x161000 x161001 x161002 x162000 x162001 x162002)) else (none)) else (none)) else (some true)
end
def scruplelaw09_Same.f (k : Nat) (l0_0 : List (S48)) (l0_1 : List (S52)) (l0_2 : List (S56)) (l1_0 : List (S48)) (l1_1 : List (S52)) (l1_2 : List (S56)) : Option (Bool) := if (l0_0.length : Int) = (l1_0.length : Int) then (if (l0_1.length : Int) = (l1_1.length : Int) then (scruplelaw09_Same.j0 k ((l0_2.length : Int) != (l1_2.length : Int)) l0_0 l0_1 l0_2 l1_0 l1_1 l1_2) else (scruplelaw09_Same.j0 k true l0_0 l0_1 l0_2 l1_0 l1_1 l1_2)) else (scruplelaw09_Same.j0 k true l0_0 l0_1 l0_2 l1_0 l1_1 l1_2)
theorem scruplelaw09_Same.mono_l : ∀ k, (∀ y0 y1 y2 y3 y4 y5 y6, LeO (scruplelaw09_Same.j0 k y0 y1 y2 y3 y4 y5 y6) (scruplelaw09_Same.j0 (k + 1) y0 y1 y2 y3 y4 y5 y6)) ∧ (∀ y0 y1 y2 y3 y4 y5 y6, LeO (scruplelaw09_Same.l0 k y0 y1 y2 y3 y4 y5 y6) (scruplelaw09_Same.l0 (k + 1) y0 y1 y2 y3 y4 y5 y6)) ∧ (∀ y0 y1 y2 y3 y4 y5 y6, LeO (scruplelaw09_Same.l1 k y0 y1 y2 y3 y4 y5 y6) (scruplelaw09_Same.l1 (k + 1) y0 y1 y2 y3 y4 y5 y6)) ∧ (∀ y0 y1 y2 y3 y4 y5 y6, LeO (scruplelaw09_Same.l2 k y0 y1 y2 y3 y4 y5 y6) (scruplelaw09_Same.l2 (k + 1) y0 y1 y2 y3 y4 y5 y6))
  | 0 => ⟨fun _ _ _ _ _ _ _ r h => by simp [scruplelaw09_Same.j0] at h, fun _ _ _ _ _ _ _ r h => by simp [scruplelaw09_Same.l0] at h, fun _ _ _ _ _ _ _ r h => by simp [scruplelaw09_Same.l1] at h, fun _ _ _ _ _ _ _ r h => by simp [scruplelaw09_Same.l2] at h⟩
  | k + 1 => by
    obtain ⟨ih0, ih1, ih2, ih3⟩ := scruplelaw09_Same.mono_l k
    refine ⟨?_, ?_, ?_, ?_⟩
    · intro y0 y1 y2 y3 y4 y5 y6
      unfold scruplelaw09_Same.j0
      repeat' first
      | (with_reducible exact ih0 _ _ _ _ _ _ _)
      | (with_reducible exact ih1 _ _ _ _ _ _ _)
      | (with_reducible exact ih2 _ _ _ _ _ _ _)
      | (with_reducible exact ih3 _ _ _ _ _ _ _)
      | (with_reducible exact scruplelaw03_Same.mono _ _ _ _ _ _ _ _ _ _ _)
      | (with_reducible exact LeO.refl _)
      | (with_reducible exact LeO.none _)
      | (with_reducible refine LeO.ite ?_ ?_)
      | (with_reducible refine LeO.bind ?_ (fun _ => ?_))
      | exact ih0 _ _ _ _ _ _ _
      | exact ih1 _ _ _ _ _ _ _
      | exact ih2 _ _ _ _ _ _ _
      | exact ih3 _ _ _ _ _ _ _
      | exact scruplelaw03_Same.mono _ _ _ _ _ _ _ _ _ _ _
      | exact LeO.none _
      | refine LeO.ite ?_ ?_
      | refine LeO.bind ?_ (fun _ => ?_)
    · intro y0 y1 y2 y3 y4 y5 y6
      unfold scruplelaw09_Same.l0
      repeat' first
      | (with_reducible exact ih0 _ _ _ _ _ _ _)
      | (with_reducible exact ih1 _ _ _ _ _ _ _)
      | (with_reducible exact ih2 _ _ _ _ _ _ _)
      | (with_reducible exact ih3 _ _ _ _ _ _ _)
      | (with_reducible exact scruplelaw03_Same.mono _ _ _ _ _ _ _ _ _ _ _)
      | (with_reducible exact LeO.refl _)
      | (with_reducible exact LeO.none _)
      | (with_reducible refine LeO.ite ?_ ?_)
      | (with_reducible refine LeO.bind ?_ (fun _ => ?_))
      | exact ih0 _ _ _ _ _ _ _
      | exact ih1 _ _ _ _ _ _ _
      | exact ih2 _ _ _ _ _ _ _
      | exact ih3 _ _ _ _ _ _ _
      | exact scruplelaw03_Same.mono _ _ _ _ _ _ _ _ _ _ _
      | exact LeO.none _
      | refine LeO.ite ?_ ?_
      | refine LeO.bind ?_ (fun _ => ?_)
    · intro y0 y1 y2 y3 y4 y5 y6
      unfold scruplelaw09_Same.l1
      repeat' first
      | (with_reducible exact ih0 _ _ _ _ _ _ _)
      | (with_reducible exact ih1 _ _ _ _ _ _ _)
      | (with_reducible exact ih2 _ _ _ _ _ _ _)
      | (with_reducible exact ih3 _ _ _ _ _ _ _)
      | (with_reducible exact scruplelaw03_Same.mono _ _ _ _ _ _ _ _ _ _ _)
      | (with_reducible exact LeO.refl _)
      | (with_reducible exact LeO.none _)
      | (with_reducible refine LeO.ite ?_ ?_)
      | (with_reducible refine LeO.bind ?_ (fun _ => ?_))
      | exact ih0 _ _ _ _ _ _ _
      | exact ih1 _ _ _ _ _ _ _
      | exact ih2 _ _ _ _ _ _ _
      | exact ih3 _ _ _ _ _ _ _
      | exact scruplelaw03_Same.mono _ _ _ _ _ _ _ _ _ _ _
      | exact LeO.none _
      | refine LeO.ite ?_ ?_
      | refine LeO.bind ?_ (fun _ => ?_)
    · intro y0 y1 y2 y3 y4 y5 y6
      unfold scruplelaw09_Same.l2
      repeat' first
      | (with_reducible exact ih0 _ _ _ _ _ _ _)
      | (with_reducible exact ih1 _ _ _ _ _ _ _)
      | (with_reducible exact ih2 _ _ _ _ _ _ _)
      | (with_reducible exact ih3 _ _ _ _ _ _ _)
      | (with_reducible exact scruplelaw03_Same.mono _ _ _ _ _ _ _ _ _ _ _)
      | (with_reducible exact LeO.refl _)
      | (with_reducible exact LeO.none _)
      | (with_reducible refine LeO.ite ?_ ?_)
      | (with_reducible refine LeO.bind ?_ (fun _ => ?_))
      | exact ih0 _ _ _ _ _ _ _
      | exact ih1 _ _ _ _ _ _ _
      | exact ih2 _ _ _ _ _ _ _
      | exact ih3 _ _ _ _ _ _ _
      | exact scruplelaw03_Same.mono _ _ _ _ _ _ _ _ _ _ _
      | exact LeO.none _
      | refine LeO.ite ?_ ?_
      | refine LeO.bind ?_ (fun _ => ?_)
theorem scruplelaw09_Same.mono : ∀ a0 a1 a2 a3 a4 a5 k, LeO (scruplelaw09_Same.f k a0 a1 a2 a3 a4 a5) (scruplelaw09_Same.f (k + 1) a0 a1 a2 a3 a4 a5) := by
  intro a0 a1 a2 a3 a4 a5 k
  obtain ⟨ih0, ih1, ih2, ih3⟩ := scruplelaw09_Same.mono_l k
  unfold scruplelaw09_Same.f
  repeat' first
      | (with_reducible exact ih0 _ _ _ _ _ _ _)
      | (with_reducible exact ih1 _ _ _ _ _ _ _)
      | (with_reducible exact ih2 _ _ _ _ _ _ _)
      | (with_reducible exact ih3 _ _ _ _ _ _ _)
      | (with_reducible exact scruplelaw03_Same.mono _ _ _ _ _ _ _ _ _ _ _)
      | (with_reducible exact LeO.refl _)
      | (with_reducible exact LeO.none _)
      | (with_reducible refine LeO.ite ?_ ?_)
      | (with_reducible refine LeO.bind ?_ (fun _ => ?_))
      | exact ih0 _ _ _ _ _ _ _
      | exact ih1 _ _ _ _ _ _ _
      | exact ih2 _ _ _ _ _ _ _
      | exact ih3 _ _ _ _ _ _ _
      | exact scruplelaw03_Same.mono _ _ _ _ _ _ _ _ _ _ _
      | exact LeO.none _
      | refine LeO.ite ?_ ?_
      | refine LeO.bind ?_ (fun _ => ?_)
def scruplelaw09_Same.T6 : Bool × List (List Nat × List Nat) := (true, [([], []), ([0], [0]), ([], []), ([1, 2], [1, 2]), ([3], [3]), ([], []), ([5], [5]), ([], []), ([6, 7], [6, 7]), ([8], [8]), ([4, 9], [4, 9]), ([10, 10, 0, 1, 2, 3, 4, 5, 6, 7, 8, 9, 10], [10])])
def scruplelaw09_Same.B6 : List Nat := [0, 1, 0, 7, 15, 0, 32, 0, 224, 480, 1023, 2047]
theorem scruplelaw09_Same.tab6 : rtab .any (opsOf Try.f13 6) = scruplelaw09_Same.T6 := by kernel_rfl
theorem scruplelaw09_Same.bits6 : waitsOk scruplelaw09_Same.T6.2 scruplelaw09_Same.B6 = true := by kernel_rfl
def scruplelaw09_Same.T12 : Bool × List (List Nat × List Nat) := (true, [([], []), ([0], [0]), ([], []), ([1, 2], [1, 2]), ([3], [3]), ([], []), ([5], [5]), ([], []), ([6, 7], [6, 7]), ([8], [8]), ([4, 9], [4, 9])])
def scruplelaw09_Same.B12 : List Nat := [0, 1, 0, 7, 15, 0, 32, 0, 224, 480, 1023]
theorem scruplelaw09_Same.tab12 : rtab .any (opsOf Try.f13 12) = scruplelaw09_Same.T12 := by kernel_rfl
theorem scruplelaw09_Same.bits12 : waitsOk scruplelaw09_Same.T12.2 scruplelaw09_Same.B12 = true := by kernel_rfl
def scruplelaw09_Same.T17 : Bool × List (List Nat × List Nat) := (true, [([], []), ([0], [0]), ([], []), ([1, 2], [1, 2]), ([3], [3]), ([], []), ([5], [5]), ([], []), ([6, 7], [6, 7]), ([8], [8]), ([4, 9], [4, 9])])
def scruplelaw09_Same.B17 : List Nat := [0, 1, 0, 7, 15, 0, 32, 0, 224, 480, 1023]
theorem scruplelaw09_Same.tab17 : rtab .any (opsOf Try.f13 17) = scruplelaw09_Same.T17 := by kernel_rfl
theorem scruplelaw09_Same.bits17 : waitsOk scruplelaw09_Same.T17.2 scruplelaw09_Same.B17 = true := by kernel_rfl
set_option maxHeartbeats 8000000 in
set_option maxRecDepth 100000 in
theorem scruplelaw09_Same.calls (k : Nat) (A0_0 : Option Addr) (c0_0 : Nat) (l0_0 : List (S48)) (A0_1 : Option Addr) (c0_1 : Nat) (l0_1 : List (S52)) (A0_2 : Option Addr) (c0_2 : Nat) (l0_2 : List (S56)) (A1_0 : Option Addr) (c1_0 : Nat) (l1_0 : List (S48)) (A1_1 : Option Addr) (c1_1 : Nat) (l1_1 : List (S52)) (A1_2 : Option Addr) (c1_2 : Nat) (l1_2 : List (S56)) (r : Bool) (w : World) (hr0_0 : Kd.C k48 w A0_0 l0_0.length l0_0) (hc0_0 : l0_0.length ≤ c0_0) (hr0_1 : Kd.C k52 w A0_1 l0_1.length l0_1) (hc0_1 : l0_1.length ≤ c0_1) (hr0_2 : Kd.C k56 w A0_2 l0_2.length l0_2) (hc0_2 : l0_2.length ≤ c0_2) (hr1_0 : Kd.C k48 w A1_0 l1_0.length l1_0) (hc1_0 : l1_0.length ≤ c1_0) (hr1_1 : Kd.C k52 w A1_1 l1_1.length l1_1) (hc1_1 : l1_1.length ≤ c1_1) (hr1_2 : Kd.C k56 w A1_2 l1_2.length l1_2) (hc1_2 : l1_2.length ≤ c1_2) (h : scruplelaw09_Same.f k l0_0 l0_1 l0_2 l1_0 l1_1 l1_2 = some r) :
    Calls Try.prog 13 #[.agg #[.slice A0_0 l0_0.length c0_0, .slice A0_1 l0_1.length c0_1, .slice A0_2 l0_2.length c0_2], .agg #[.slice A1_0 l1_0.length c1_0, .slice A1_1 l1_1.length c1_1, .slice A1_2 l1_2.length c1_2]] w fun e w' => e = .returned (.bool r) ∧ Below w.heap.size w w' := by
  have hu27 := Try.underlying27
  have hu48 := Try.underlying48
  have hu52 := Try.underlying52
  have hu56 := Try.underlying56
  have HR0_0 := Aside0.mk hr0_0
  have HC0_0 := Aside0.mk hc0_0
  clear hr0_0 hc0_0
  have HR0_1 := Aside0.mk hr0_1
  have HC0_1 := Aside0.mk hc0_1
  clear hr0_1 hc0_1
  have HR0_2 := Aside0.mk hr0_2
  have HC0_2 := Aside0.mk hc0_2
  clear hr0_2 hc0_2
  have HR1_0 := Aside0.mk hr1_0
  have HC1_0 := Aside0.mk hc1_0
  clear hr1_0 hc1_0
  have HR1_1 := Aside0.mk hr1_1
  have HC1_1 := Aside0.mk hc1_1
  clear hr1_1 hc1_1
  have HR1_2 := Aside0.mk hr1_2
  have HC1_2 := Aside0.mk hc1_2
  clear hr1_2 hc1_2
  have HB := Aside0.mk (Below.refl w.heap.size w)
  have H : (if (l0_0.length : Int) = (l1_0.length : Int) then (if (l0_1.length : Int) = (l1_1.length : Int) then (scruplelaw09_Same.j0 k ((l0_2.length : Int) != (l1_2.length : Int)) l0_0 l0_1 l0_2 l1_0 l1_1 l1_2) else (scruplelaw09_Same.j0 k true l0_0 l0_1 l0_2 l1_0 l1_1 l1_2)) else (scruplelaw09_Same.j0 k true l0_0 l0_1 l0_2 l1_0 l1_1 l1_2)) = some r := h
  clear h
  have HC3 := Aside0.mk H
  clear H
  go_enter Try.func13, Try.ntmps13
  go_upto_region 1 with (first | ((with_reducible refine gate_dst (N := 2) rfl ?_); (try (refine gate_guard (by rfl) ?_; dsimp only)); refine box_event ?hg (N := 2) ?hd (cs := #[.slice A0_0 l0_0.length c0_0, .slice A0_1 l0_1.length c0_1, .slice A0_2 l0_2.length c0_2]) (t := 27) ?hr ?_; (case hd => rfl); (case hg => rfl); (case hr => first | (go_simp; done) | (go_simp; rfl)); intro gb160 hg w4 hbox hb; have n0_ := Aside0.mk (below_step (by repeat (first | (with_reducible first | exact HB.out | apply below_alloc | apply pw_below_drewN | apply below_drew1) | exact HB.out)) hb); have n1_ := Aside0.mk (hbox); have n2_ := Aside0.mk ((by rw [hg]; exact (below_size (by repeat (first | (with_reducible first | exact HB.out | apply below_alloc | apply pw_below_drewN | apply below_drew1) | exact HB.out))) : w.heap.size ≤ gb160)); have n3_ := Aside0.mk ((by rw [hg]; exact (below_size (by repeat (first | (with_reducible first | exact HB.out | apply below_alloc | apply pw_below_drewN | apply below_drew1) | exact HB.out))) : w.heap.size ≤ gb160)); clear HB; have HB := n0_; have BK160 := n1_; have GW160 := n2_; have GE160 := n3_; clear n0_ n1_ n2_ n3_; clear hb hbox hg) | ((with_reducible refine gate_dst (N := 3) rfl ?_); (try (refine gate_guard (by rfl) ?_; dsimp only)); refine box_event ?hg (N := 3) ?hd (cs := #[.slice A1_0 l1_0.length c1_0, .slice A1_1 l1_1.length c1_1, .slice A1_2 l1_2.length c1_2]) (t := 27) ?hr ?_; (case hd => rfl); (case hg => rfl); (case hr => first | (go_simp; done) | (go_simp; rfl)); intro gb161 hg w5 hbox hb; have n0_ := Aside0.mk (blk_below (g := gb160) (o := .cells #[.slice A0_0 l0_0.length c0_0, .slice A0_1 l0_1.length c0_1, .slice A0_2 l0_2.length c0_2] 27 (0, 0)) (by (with_reducible repeat (first | refine blk_drewN ?_ _ | refine blk_drew ?_ | refine blk_alloc ?_ _)); exact BK160.out) hb); have n1_ := Aside0.mk (below_step (by repeat (first | (with_reducible first | exact HB.out | apply below_alloc | apply pw_below_drewN | apply below_drew1 | refine below_set ?_ GE160.out) | exact HB.out)) hb); have n2_ := Aside0.mk (hbox); have n3_ := Aside0.mk ((by rw [hg]; exact (below_size (by repeat (first | (with_reducible first | exact HB.out | apply below_alloc | apply pw_below_drewN | apply below_drew1 | refine below_set ?_ GE160.out) | exact HB.out))) : w.heap.size ≤ gb161)); have n4_ := Aside0.mk ((by rw [hg]; exact (below_size (by repeat (first | (with_reducible first | exact HB.out | apply below_alloc | apply pw_below_drewN | apply below_drew1 | refine below_set ?_ GE160.out) | exact HB.out))) : w.heap.size ≤ gb161)); have n5_ := Aside0.mk ((by rw [hg]; exact Nat.ne_of_lt (blk_lt (g := gb160) (o := .cells #[.slice A0_0 l0_0.length c0_0, .slice A0_1 l0_1.length c0_1, .slice A0_2 l0_2.length c0_2] 27 (0, 0)) (by (with_reducible repeat (first | refine blk_drewN ?_ _ | refine blk_drew ?_ | refine blk_alloc ?_ _)); exact BK160.out)) : gb160 ≠ gb161)); have n6_ := Aside0.mk ((by rw [hg]; exact Nat.ne_of_gt (blk_lt (g := gb160) (o := .cells #[.slice A0_0 l0_0.length c0_0, .slice A0_1 l0_1.length c0_1, .slice A0_2 l0_2.length c0_2] 27 (0, 0)) (by (with_reducible repeat (first | refine blk_drewN ?_ _ | refine blk_drew ?_ | refine blk_alloc ?_ _)); exact BK160.out)) : gb161 ≠ gb160)); clear BK160; clear HB; have BK160 := n0_; have HB := n1_; have BK161 := n2_; have GW161 := n3_; have GE161 := n4_; have NB160_161 := n5_; have NB161_160 := n6_; clear n0_ n1_ n2_ n3_ n4_ n5_ n6_; clear hb hbox hg))
  (try simp only [Act.put, List.setIfInBounds_toArray, List.set_cons_zero, List.set_cons_succ])
  go_cut [33] (fun v33 wc => ∃ (kq : Nat) (x33_2 : Bool), v33 = .bool x33_2 ∧ Aside0 (scruplelaw09_Same.j0 kq x33_2 l0_0 l0_1 l0_2 l1_0 l1_1 l1_2 = some r) ∧ Aside0 (kq ≤ k) ∧ Aside0 (wc.heap[gb160]? = some (.cells #[(.slice A0_0 l0_0.length c0_0), (.slice A0_1 l0_1.length c0_1), (.slice A0_2 l0_2.length c0_2)] 27 (0, 0))) ∧ Aside0 (wc.heap[gb161]? = some (.cells #[(.slice A1_0 l1_0.length c1_0), (.slice A1_1 l1_1.length c1_1), (.slice A1_2 l1_2.length c1_2)] 27 (0, 0))) ∧ Aside0 (Below w.heap.size w wc))
  case first =>
    have H := HC3.out
    clear HC3
    by_cases c6 : (l0_0.length : Int) = (l1_0.length : Int)
    · rw [if_pos c6] at H
      have c6b0 : ((l0_0.length : Int) == (l1_0.length : Int)) = true := beq_iff_eq.mpr c6
      have c6b1 : ((l0_0.length : Int) != (l1_0.length : Int)) = false := bne_eq_false_iff_eq.mpr c6
      have c6b2 : (l0_0.length == l1_0.length) = true := by first | simpa using c6 | (simp at c6 ⊢; omega)
      clear c6
      (first | rw [c6b0] | (simp only [i64_w, i32_w]; rw [c6b0]) | rw [c6b1] | (simp only [i64_w, i32_w]; rw [c6b1]) | skip)
      by_cases c7 : (l0_1.length : Int) = (l1_1.length : Int)
      · rw [if_pos c7] at H
        have c7b0 : ((l0_1.length : Int) == (l1_1.length : Int)) = true := beq_iff_eq.mpr c7
        have c7b1 : ((l0_1.length : Int) != (l1_1.length : Int)) = false := bne_eq_false_iff_eq.mpr c7
        have c7b2 : (l0_1.length == l1_1.length) = true := by first | simpa using c7 | (simp at c7 ⊢; omega)
        clear c7
        have H' := Aside0.mk H
        clear H
        have hnb8 := NB160_161.out
        have hnc8 := NB161_160.out
        have hcz9_0 : w5.cell? ⟨gb160, 0, none⟩ = some (.slice A0_0 l0_0.length c0_0) := (blk_cell BK160.out 0).trans rfl
        have hcz9_1 : w5.cell? ⟨gb160, 1, none⟩ = some (.slice A0_1 l0_1.length c0_1) := (blk_cell BK160.out 1).trans rfl
        have hcz9_2 : w5.cell? ⟨gb160, 2, none⟩ = some (.slice A0_2 l0_2.length c0_2) := (blk_cell BK160.out 2).trans rfl
        have hfz9_0 := blk_frozen BK160.out 0
        have hfz9_1 := blk_frozen BK160.out 1
        have hfz9_2 := blk_frozen BK160.out 2
        have hcz10_0 : w5.cell? ⟨gb161, 0, none⟩ = some (.slice A1_0 l1_0.length c1_0) := (blk_cell BK161.out 0).trans rfl
        have hcz10_1 : w5.cell? ⟨gb161, 1, none⟩ = some (.slice A1_1 l1_1.length c1_1) := (blk_cell BK161.out 1).trans rfl
        have hcz10_2 : w5.cell? ⟨gb161, 2, none⟩ = some (.slice A1_2 l1_2.length c1_2) := (blk_cell BK161.out 2).trans rfl
        have hfz10_0 := blk_frozen BK161.out 0
        have hfz10_1 := blk_frozen BK161.out 1
        have hfz10_2 := blk_frozen BK161.out 2
        go_wp2
        go_meet
        case rel => exact ⟨_, (((l0_2.length : Int) != (l1_2.length : Int))), (by first | rfl | (simp; done) | (simp [*]; done)), H', ⟨by first | omega | exact Nat.le_refl _⟩, ⟨by (with_reducible repeat (first | refine blk_drewN ?_ _ | refine blk_drew ?_ | refine blk_alloc ?_ _)); exact BK160.out⟩, ⟨by (with_reducible repeat (first | refine blk_drewN ?_ _ | refine blk_drew ?_ | refine blk_alloc ?_ _)); exact BK161.out⟩, ⟨by repeat (first | (with_reducible first | exact HB.out | apply below_alloc | apply pw_below_drewN | apply below_drew1 | refine below_set ?_ GE160.out | refine below_set ?_ GE161.out) | exact HB.out)⟩⟩
      · rw [if_neg c7] at H
        have c7b0 : ((l0_1.length : Int) == (l1_1.length : Int)) = false := beq_eq_false_iff_ne.mpr c7
        have c7b1 : ((l0_1.length : Int) != (l1_1.length : Int)) = true := bne_iff_ne.mpr c7
        have c7b2 : (l0_1.length == l1_1.length) = false := by first | simpa using c7 | (simp at c7 ⊢; omega)
        have H' := Aside0.mk H
        clear H
        have hnb11 := NB160_161.out
        have hnc11 := NB161_160.out
        have hcz12_0 : w5.cell? ⟨gb160, 0, none⟩ = some (.slice A0_0 l0_0.length c0_0) := (blk_cell BK160.out 0).trans rfl
        have hcz12_1 : w5.cell? ⟨gb160, 1, none⟩ = some (.slice A0_1 l0_1.length c0_1) := (blk_cell BK160.out 1).trans rfl
        have hcz12_2 : w5.cell? ⟨gb160, 2, none⟩ = some (.slice A0_2 l0_2.length c0_2) := (blk_cell BK160.out 2).trans rfl
        have hfz12_0 := blk_frozen BK160.out 0
        have hfz12_1 := blk_frozen BK160.out 1
        have hfz12_2 := blk_frozen BK160.out 2
        have hcz13_0 : w5.cell? ⟨gb161, 0, none⟩ = some (.slice A1_0 l1_0.length c1_0) := (blk_cell BK161.out 0).trans rfl
        have hcz13_1 : w5.cell? ⟨gb161, 1, none⟩ = some (.slice A1_1 l1_1.length c1_1) := (blk_cell BK161.out 1).trans rfl
        have hcz13_2 : w5.cell? ⟨gb161, 2, none⟩ = some (.slice A1_2 l1_2.length c1_2) := (blk_cell BK161.out 2).trans rfl
        have hfz13_0 := blk_frozen BK161.out 0
        have hfz13_1 := blk_frozen BK161.out 1
        have hfz13_2 := blk_frozen BK161.out 2
        go_wp2
        go_meet
        case rel => exact ⟨_, (true), (by first | rfl | (simp; done) | (simp [*]; done)), H', ⟨by first | omega | exact Nat.le_refl _⟩, ⟨by (with_reducible repeat (first | refine blk_drewN ?_ _ | refine blk_drew ?_ | refine blk_alloc ?_ _)); exact BK160.out⟩, ⟨by (with_reducible repeat (first | refine blk_drewN ?_ _ | refine blk_drew ?_ | refine blk_alloc ?_ _)); exact BK161.out⟩, ⟨by repeat (first | (with_reducible first | exact HB.out | apply below_alloc | apply pw_below_drewN | apply below_drew1 | refine below_set ?_ GE160.out | refine below_set ?_ GE161.out) | exact HB.out)⟩⟩
    · rw [if_neg c6] at H
      have c6b0 : ((l0_0.length : Int) == (l1_0.length : Int)) = false := beq_eq_false_iff_ne.mpr c6
      have c6b1 : ((l0_0.length : Int) != (l1_0.length : Int)) = true := bne_iff_ne.mpr c6
      have c6b2 : (l0_0.length == l1_0.length) = false := by first | simpa using c6 | (simp at c6 ⊢; omega)
      (first | rw [c6b0] | (simp only [i64_w, i32_w]; rw [c6b0]) | rw [c6b1] | (simp only [i64_w, i32_w]; rw [c6b1]) | skip)
      have H' := Aside0.mk H
      clear H
      have hnb14 := NB160_161.out
      have hnc14 := NB161_160.out
      have hcz15_0 : w5.cell? ⟨gb160, 0, none⟩ = some (.slice A0_0 l0_0.length c0_0) := (blk_cell BK160.out 0).trans rfl
      have hcz15_1 : w5.cell? ⟨gb160, 1, none⟩ = some (.slice A0_1 l0_1.length c0_1) := (blk_cell BK160.out 1).trans rfl
      have hcz15_2 : w5.cell? ⟨gb160, 2, none⟩ = some (.slice A0_2 l0_2.length c0_2) := (blk_cell BK160.out 2).trans rfl
      have hfz15_0 := blk_frozen BK160.out 0
      have hfz15_1 := blk_frozen BK160.out 1
      have hfz15_2 := blk_frozen BK160.out 2
      have hcz16_0 : w5.cell? ⟨gb161, 0, none⟩ = some (.slice A1_0 l1_0.length c1_0) := (blk_cell BK161.out 0).trans rfl
      have hcz16_1 : w5.cell? ⟨gb161, 1, none⟩ = some (.slice A1_1 l1_1.length c1_1) := (blk_cell BK161.out 1).trans rfl
      have hcz16_2 : w5.cell? ⟨gb161, 2, none⟩ = some (.slice A1_2 l1_2.length c1_2) := (blk_cell BK161.out 2).trans rfl
      have hfz16_0 := blk_frozen BK161.out 0
      have hfz16_1 := blk_frozen BK161.out 1
      have hfz16_2 := blk_frozen BK161.out 2
      go_wp2
      go_meet
      case rel => exact ⟨_, (true), (by first | rfl | (simp; done) | (simp [*]; done)), H', ⟨by first | omega | exact Nat.le_refl _⟩, ⟨by (with_reducible repeat (first | refine blk_drewN ?_ _ | refine blk_drew ?_ | refine blk_alloc ?_ _)); exact BK160.out⟩, ⟨by (with_reducible repeat (first | refine blk_drewN ?_ _ | refine blk_drew ?_ | refine blk_alloc ?_ _)); exact BK161.out⟩, ⟨by repeat (first | (with_reducible first | exact HB.out | apply below_alloc | apply pw_below_drewN | apply below_drew1 | refine below_set ?_ GE160.out | refine below_set ?_ GE161.out) | exact HB.out)⟩⟩
  case rest =>
    clear HC3
    try clear c1
    try clear p2
    try clear c6
    try clear c6b0
    try clear c6b1
    try clear c6b2
    try clear c7
    try clear c7b0
    try clear c7b1
    try clear c7b2
    try clear c8
    try clear c11
    try clear c13
    try clear c14
    try clear hcz10_0
    try clear hcz10_1
    try clear hcz10_2
    try clear hcz12_0
    try clear hcz12_1
    try clear hcz12_2
    try clear hcz13_0
    try clear hcz13_1
    try clear hcz13_2
    try clear hcz15_0
    try clear hcz15_1
    try clear hcz15_2
    try clear hcz16_0
    try clear hcz16_1
    try clear hcz16_2
    try clear hcz9_0
    try clear hcz9_1
    try clear hcz9_2
    try clear hfz10_0
    try clear hfz10_1
    try clear hfz10_2
    try clear hfz12_0
    try clear hfz12_1
    try clear hfz12_2
    try clear hfz13_0
    try clear hfz13_1
    try clear hfz13_2
    try clear hfz15_0
    try clear hfz15_1
    try clear hfz15_2
    try clear hfz16_0
    try clear hfz16_1
    try clear hfz16_2
    try clear hfz9_0
    try clear hfz9_1
    try clear hfz9_2
    obtain ⟨kq, x33_2, rfl, HA, HJ2, BK160, BK161, HB⟩ := hcut
    cases kq with
    | zero => exact absurd HA.out (by simp [scruplelaw09_Same.j0])
    | succ kj2 =>
      have H := HA.out
      clear HA
      simp only [scruplelaw09_Same.j0] at H
      by_cases c17 : x33_2 = true
      · subst c17
        have H1 : (some false) = some r := by rw [if_pos rfl] at H; exact H
        clear H
        have H := H1
        clear H1
        obtain rfl := Option.some.inj H
        simp only [Option.some.injEq, Prod.mk.injEq] at H
        obtain ⟨rfl⟩ := H
        go_wp2
        go_ret
        exact ⟨by first | rfl | (simp [errW_none, errW_some] <;> rfl) | (simp [*, errW_none, errW_some] <;> rfl), by repeat (first | (with_reducible first | exact HB.out | apply below_alloc | apply pw_below_drewN | apply below_drew1 | refine below_set ?_ GE160.out | refine below_set ?_ GE161.out) | exact HB.out)⟩
      · replace c17 := Bool.eq_false_iff.mpr c17
        subst c17
        have H1 : (scruplelaw09_Same.l0 kj2 0 l0_0 l0_1 l0_2 l1_0 l1_1 l1_2) = some r := by rw [if_neg (show ¬ (false = true) by decide)] at H; exact H
        clear H
        have H := H1
        clear H1
        have H' := Aside0.mk H
        clear H
        go_wp2
        go_loopg [5] kj2 (fun kq v5 w' => ∃ (x5_2 : Int), v5 = .int .i64 x5_2 ∧ Aside0 (scruplelaw09_Same.l0 kq x5_2 l0_0 l0_1 l0_2 l1_0 l1_1 l1_2 = some r) ∧ Aside0 (kq ≤ kj2) ∧ Aside0 (w'.heap[gb160]? = some (.cells #[(.slice A0_0 l0_0.length c0_0), (.slice A0_1 l0_1.length c0_1), (.slice A0_2 l0_2.length c0_2)] 27 (0, 0))) ∧ Aside0 (w'.heap[gb161]? = some (.cells #[(.slice A1_0 l1_0.length c1_0), (.slice A1_1 l1_1.length c1_1), (.slice A1_2 l1_2.length c1_2)] 27 (0, 0))) ∧ Aside0 (Below w.heap.size w w'))
        case atStart => exact ⟨(0), (by first | rfl | (simp; done) | (simp [*]; done)), H', ⟨Nat.le_refl _⟩, ⟨by (with_reducible repeat (first | refine blk_drewN ?_ _ | refine blk_drew ?_ | refine blk_alloc ?_ _)); exact BK160.out⟩, ⟨by (with_reducible repeat (first | refine blk_drewN ?_ _ | refine blk_drew ?_ | refine blk_alloc ?_ _)); exact BK161.out⟩, ⟨by repeat (first | (with_reducible first | exact HB.out | apply below_alloc | apply pw_below_drewN | apply below_drew1 | refine below_set ?_ GE160.out | refine below_set ?_ GE161.out) | exact HB.out)⟩⟩
        case round =>
          clear H'
          try clear c1
          try clear p2
          try clear c6
          try clear c6b0
          try clear c6b1
          try clear c6b2
          try clear c7
          try clear c7b0
          try clear c7b1
          try clear c7b2
          try clear c8
          try clear c11
          try clear c13
          try clear c14
          try clear c17
          try clear hcz10_0
          try clear hcz10_1
          try clear hcz10_2
          try clear hcz12_0
          try clear hcz12_1
          try clear hcz12_2
          try clear hcz13_0
          try clear hcz13_1
          try clear hcz13_2
          try clear hcz15_0
          try clear hcz15_1
          try clear hcz15_2
          try clear hcz16_0
          try clear hcz16_1
          try clear hcz16_2
          try clear hcz9_0
          try clear hcz9_1
          try clear hcz9_2
          try clear hfz10_0
          try clear hfz10_1
          try clear hfz10_2
          try clear hfz12_0
          try clear hfz12_1
          try clear hfz12_2
          try clear hfz13_0
          try clear hfz13_1
          try clear hfz13_2
          try clear hfz15_0
          try clear hfz15_1
          try clear hfz15_2
          try clear hfz16_0
          try clear hfz16_1
          try clear hfz16_2
          try clear hfz9_0
          try clear hfz9_1
          try clear hfz9_2
          try clear p2
          obtain ⟨x5_2, rfl, HA, HK2, BK160, BK161, HB⟩ := hrel
          cases gk with
          | zero => exact absurd HA.out (by simp [scruplelaw09_Same.l0])
          | succ k2 =>
            have H := HA.out
            clear HA
            simp only [scruplelaw09_Same.l0] at H
            by_cases c18 : x5_2 < (l0_0.length : Int)
            · rw [if_pos c18] at H
              have c18b0 : decide (x5_2 < (l0_0.length : Int)) = true := decide_eq_true c18
              clear c18
              by_cases c19 : 0 ≤ x5_2
              · rw [if_pos c19] at H
                have c19b0 : decide (0 ≤ x5_2) = true := decide_eq_true c19
                clear c19
                by_cases c20 : x5_2 < (l1_0.length : Int)
                · rw [if_pos c20] at H
                  have c20b0 : decide (x5_2 < (l1_0.length : Int)) = true := decide_eq_true c20
                  clear c20
                  replace H := Option.bind_eq_some_iff.mp H
                  obtain ⟨t164, A210, H⟩ := H
                  replace H : (if t164 = true then (scruplelaw09_Same.l0 k2 (wrap64 (x5_2 + 1)) l0_0 l0_1 l0_2 l1_0 l1_1 l1_2) else (some false)) = some r := H
                  have A21 := Aside0.mk A210
                  clear A210
                  by_cases c22 : t164 = true
                  · subst c22
                    have H1 : (scruplelaw09_Same.l0 k2 (wrap64 (x5_2 + 1)) l0_0 l0_1 l0_2 l1_0 l1_1 l1_2) = some r := by rw [if_pos rfl] at H; exact H
                    clear H
                    have H := H1
                    clear H1
                    have H' := Aside0.mk H
                    clear H
                    have hnb23 := NB160_161.out
                    have hnc23 := NB161_160.out
                    have hcz24_0 : wr.cell? ⟨gb160, 0, none⟩ = some (.slice A0_0 l0_0.length c0_0) := (blk_cell BK160.out 0).trans rfl
                    have hcz24_1 : wr.cell? ⟨gb160, 1, none⟩ = some (.slice A0_1 l0_1.length c0_1) := (blk_cell BK160.out 1).trans rfl
                    have hcz24_2 : wr.cell? ⟨gb160, 2, none⟩ = some (.slice A0_2 l0_2.length c0_2) := (blk_cell BK160.out 2).trans rfl
                    have hfz24_0 := blk_frozen BK160.out 0
                    have hfz24_1 := blk_frozen BK160.out 1
                    have hfz24_2 := blk_frozen BK160.out 2
                    try go_wp2
                    have n0_ := Aside0.mk (blk_drew BK160.out)
                    have n1_ := Aside0.mk (blk_drew BK161.out)
                    have n2_ := Aside0.mk (below_drew1 HB.out)
                    clear BK160
                    clear BK161
                    clear HB
                    have BK160 := n0_
                    have BK161 := n1_
                    have HB := n2_
                    clear n0_ n1_ n2_
                    have p162 : 0 ≤ (x5_2 : Int) := of_decide_eq_true (by first | (with_reducible assumption) | assumption)
                    have q162 : x5_2 < (l0_0.length : Int) := of_decide_eq_true (by first | (with_reducible assumption) | assumption)
                    obtain ⟨ad162, A162_3, c162_3, A162_4, c162_4, e162, hx162_0, hx162_1, hx162_2, hx162_3, hx162_4, hl162_3, hi162_3, hl162_4, hi162_4⟩ := at_T48 HR0_0.out x5_2 p162 q162
                    have hw162_4 := hx162_4
                    have hw162_3 := hx162_3
                    have hw162_2 := hx162_2
                    have hw162_1 := hx162_1
                    have hw162_0 := hx162_0
                    cases e162
                    replace hx162_0 := (HB.out.cell (World.block_lt_of_cell? w _ hx162_0)).trans hx162_0
                    replace hx162_1 := (HB.out.cell (World.block_lt_of_cell? w _ hx162_1)).trans hx162_1
                    replace hx162_2 := (HB.out.cell (World.block_lt_of_cell? w _ hx162_2)).trans hx162_2
                    replace hx162_3 := (HB.out.cell (World.block_lt_of_cell? w _ hx162_3)).trans hx162_3
                    replace hx162_4 := (HB.out.cell (World.block_lt_of_cell? w _ hx162_4)).trans hx162_4
                    have HR162_3 := Aside0.mk hi162_3
                    have HC162_3 := Aside0.mk hl162_3
                    clear hi162_3 hl162_3
                    have HR162_4 := Aside0.mk hi162_4
                    have HC162_4 := Aside0.mk hl162_4
                    clear hi162_4 hl162_4
                    replace p162 := eq_true p162
                    replace q162 := eq_true q162
                    have p163 : 0 ≤ (x5_2 : Int) := of_decide_eq_true (by first | (with_reducible assumption) | assumption)
                    have q163 : x5_2 < (l1_0.length : Int) := of_decide_eq_true (by first | (with_reducible assumption) | assumption)
                    obtain ⟨ad163, A163_3, c163_3, A163_4, c163_4, e163, hx163_0, hx163_1, hx163_2, hx163_3, hx163_4, hl163_3, hi163_3, hl163_4, hi163_4⟩ := at_T48 HR1_0.out x5_2 p163 q163
                    have hw163_4 := hx163_4
                    have hw163_3 := hx163_3
                    have hw163_2 := hx163_2
                    have hw163_1 := hx163_1
                    have hw163_0 := hx163_0
                    cases e163
                    replace hx163_0 := (HB.out.cell (World.block_lt_of_cell? w _ hx163_0)).trans hx163_0
                    replace hx163_1 := (HB.out.cell (World.block_lt_of_cell? w _ hx163_1)).trans hx163_1
                    replace hx163_2 := (HB.out.cell (World.block_lt_of_cell? w _ hx163_2)).trans hx163_2
                    replace hx163_3 := (HB.out.cell (World.block_lt_of_cell? w _ hx163_3)).trans hx163_3
                    replace hx163_4 := (HB.out.cell (World.block_lt_of_cell? w _ hx163_4)).trans hx163_4
                    have HR163_3 := Aside0.mk hi163_3
                    have HC163_3 := Aside0.mk hl163_3
                    clear hi163_3 hl163_3
                    have HR163_4 := Aside0.mk hi163_4
                    have HC163_4 := Aside0.mk hl163_4
                    clear hi163_4 hl163_4
                    replace p163 := eq_true p163
                    replace q163 := eq_true q163
                    refine start_ (n := 12) (S := fun w' => w'.cell? ⟨gb160, 0, none⟩ = some (.slice (some ad162) l0_0.length c0_0) ∧ w'.cell? ⟨gb160, 1, none⟩ = some (.slice A0_1 l0_1.length c0_1) ∧ w'.cell? ⟨gb160, 2, none⟩ = some (.slice A0_2 l0_2.length c0_2) ∧ w'.cell? ⟨gb161, 0, none⟩ = some (.slice (some ad163) l1_0.length c1_0) ∧ w'.cell? ⟨gb161, 1, none⟩ = some (.slice A1_1 l1_1.length c1_1) ∧ w'.cell? ⟨gb161, 2, none⟩ = some (.slice A1_2 l1_2.length c1_2) ∧ w'.cell? (ad162.add ((x5_2).toNat * 5)) = some (.int .i64 ((rd_T48 l0_0 x5_2).f0)) ∧ w'.cell? ⟨(ad162.add ((x5_2).toNat * 5)).block, (ad162.add ((x5_2).toNat * 5)).off + 1, none⟩ = some (.int .i64 ((rd_T48 l0_0 x5_2).f1)) ∧ w'.cell? ⟨(ad162.add ((x5_2).toNat * 5)).block, (ad162.add ((x5_2).toNat * 5)).off + 2, none⟩ = some (.string ((rd_T48 l0_0 x5_2).f2)) ∧ w'.cell? ⟨(ad162.add ((x5_2).toNat * 5)).block, (ad162.add ((x5_2).toNat * 5)).off + 3, none⟩ = some (.slice A162_3 ((rd_T48 l0_0 x5_2).f3).length c162_3) ∧ w'.cell? ⟨(ad162.add ((x5_2).toNat * 5)).block, (ad162.add ((x5_2).toNat * 5)).off + 4, none⟩ = some (.slice A162_4 ((rd_T48 l0_0 x5_2).f4).length c162_4) ∧ w'.cell? (ad163.add ((x5_2).toNat * 5)) = some (.int .i64 ((rd_T48 l1_0 x5_2).f0)) ∧ w'.cell? ⟨(ad163.add ((x5_2).toNat * 5)).block, (ad163.add ((x5_2).toNat * 5)).off + 1, none⟩ = some (.int .i64 ((rd_T48 l1_0 x5_2).f1)) ∧ w'.cell? ⟨(ad163.add ((x5_2).toNat * 5)).block, (ad163.add ((x5_2).toNat * 5)).off + 2, none⟩ = some (.string ((rd_T48 l1_0 x5_2).f2)) ∧ w'.cell? ⟨(ad163.add ((x5_2).toNat * 5)).block, (ad163.add ((x5_2).toNat * 5)).off + 3, none⟩ = some (.slice A163_3 ((rd_T48 l1_0 x5_2).f3).length c163_3) ∧ w'.cell? ⟨(ad163.add ((x5_2).toNat * 5)).block, (ad163.add ((x5_2).toNat * 5)).off + 4, none⟩ = some (.slice A163_4 ((rd_T48 l1_0 x5_2).f4).length c163_4)) (ds := []) #[false, false, false, false, false, false, false, false, false, false, false, false] (by kernel_rfl) rfl rfl ⟨(blk_cell BK160.out 0).trans rfl, (blk_cell BK160.out 1).trans rfl, (blk_cell BK160.out 2).trans rfl, (blk_cell BK161.out 0).trans rfl, (blk_cell BK161.out 1).trans rfl, (blk_cell BK161.out 2).trans rfl, ((HB.out.cell (World.block_lt_of_cell? w _ hw162_0)).trans hw162_0), ((HB.out.cell (World.block_lt_of_cell? w _ hw162_1)).trans hw162_1), ((HB.out.cell (World.block_lt_of_cell? w _ hw162_2)).trans hw162_2), ((HB.out.cell (World.block_lt_of_cell? w _ hw162_3)).trans hw162_3), ((HB.out.cell (World.block_lt_of_cell? w _ hw162_4)).trans hw162_4), ((HB.out.cell (World.block_lt_of_cell? w _ hw163_0)).trans hw163_0), ((HB.out.cell (World.block_lt_of_cell? w _ hw163_1)).trans hw163_1), ((HB.out.cell (World.block_lt_of_cell? w _ hw163_2)).trans hw163_2), ((HB.out.cell (World.block_lt_of_cell? w _ hw163_3)).trans hw163_3), ((HB.out.cell (World.block_lt_of_cell? w _ hw163_4)).trans hw163_4)⟩ (fun hHeld => ?_); refine with_tabW scruplelaw09_Same.tab6 scruplelaw09_Same.bits6 (fun HT_ HW_ => ?_)
                    generalize wr.drew = w25 at BK160 BK161 HB HR162_3 HR162_4 HR163_3 HR163_4 hx162_0 hx162_1 hx162_2 hx162_3 hx162_4 hx163_0 hx163_1 hx163_2 hx163_3 hx163_4 hHeld ⊢
                    refine pure_ (i := 0) (N := some 41) (v := ?_) (a' := ?_) #[true, false, false, false, false, false, false, false, false, false, false, false] rfl rfl (any_of HT_.out (by kernel_rfl)) (fun _ _ _ h => h) (Or.inl ⟨by rfl, ?_⟩) ?_ ?_
                    rotate_left
                    · intro w'
                      go_simp
                      with_reducible rfl
                    rotate_left
                    · simp only [Act.put, List.setIfInBounds_toArray, List.set_cons_zero, List.set_cons_succ, i64_w, i32_w]
                      rfl
                    refine pure_ (i := 2) (N := some 43) (v := ?_) (a' := ?_) #[true, false, true, false, false, false, false, false, false, false, false, false] rfl rfl (any_of HT_.out (by kernel_rfl)) (fun _ _ _ h => h) (Or.inl ⟨by rfl, ?_⟩) ?_ ?_
                    rotate_left
                    · intro w'
                      go_simp
                      with_reducible rfl
                    rotate_left
                    · simp only [Act.put, List.setIfInBounds_toArray, List.set_cons_zero, List.set_cons_succ, i64_w, i32_w]
                      rfl
                    refine pure_ (i := 5) (N := some 46) (v := ?_) (a' := ?_) #[true, false, true, false, false, true, false, false, false, false, false, false] rfl rfl (any_of HT_.out (by kernel_rfl)) (fun _ _ _ h => h) (Or.inl ⟨by rfl, ?_⟩) ?_ ?_
                    rotate_left
                    · intro w'
                      go_simp
                      with_reducible rfl
                    rotate_left
                    · simp only [Act.put, List.setIfInBounds_toArray, List.set_cons_zero, List.set_cons_succ, i64_w, i32_w]
                      rfl
                    refine pure_ (i := 7) (N := some 48) (v := ?_) (a' := ?_) #[true, false, true, false, false, true, false, true, false, false, false, false] rfl rfl (any_of HT_.out (by kernel_rfl)) (fun _ _ _ h => h) (Or.inl ⟨by rfl, ?_⟩) ?_ ?_
                    rotate_left
                    · intro w'
                      go_simp
                      with_reducible rfl
                    rotate_left
                    · simp only [Act.put, List.setIfInBounds_toArray, List.set_cons_zero, List.set_cons_succ, i64_w, i32_w]
                      rfl
                    refine take_ (i := 1) (N := some 42) (v := ?_) (a' := ?_) #[true, true, true, false, false, true, false, true, false, false, false, false] rfl rfl (take_ofW HT_.out HW_.out (by kernel_rfl)) (fun _ _ _ h => h) (Or.inl ⟨by rfl, ?_⟩) hHeld ?_ ?_
                    rotate_left
                    · rintro w' ⟨s0, s1, s2, s3, s4, s5, s6, s7, s8, s9, s10, s11, s12, s13, s14, s15⟩
                      go_simp
                      with_reducible rfl
                    rotate_left
                    · simp only [Act.put, List.setIfInBounds_toArray, List.set_cons_zero, List.set_cons_succ, i64_w, i32_w]
                      rfl
                    refine pure_ (i := 3) (N := some 44) (v := ?_) (a' := ?_) #[true, true, true, true, false, true, false, true, false, false, false, false] rfl rfl (any_of HT_.out (by kernel_rfl)) (fun _ _ _ h => h) (Or.inl ⟨by rfl, ?_⟩) ?_ ?_
                    rotate_left
                    · intro w'
                      go_simp
                      with_reducible rfl
                    rotate_left
                    · simp only [Act.put, List.setIfInBounds_toArray, List.set_cons_zero, List.set_cons_succ, i64_w, i32_w]
                      rfl
                    refine take_ (i := 4) (N := some 45) (v := ?_) (a' := ?_) #[true, true, true, true, true, true, false, true, false, false, false, false] rfl rfl (take_ofW HT_.out HW_.out (by kernel_rfl)) (fun _ _ _ h => h) (Or.inl ⟨by rfl, ?_⟩) hHeld ?_ ?_
                    rotate_left
                    · rintro w' ⟨s0, s1, s2, s3, s4, s5, s6, s7, s8, s9, s10, s11, s12, s13, s14, s15⟩
                      go_simp
                      with_reducible rfl
                    rotate_left
                    · simp only [Act.put, List.setIfInBounds_toArray, List.set_cons_zero, List.set_cons_succ, i64_w, i32_w]
                      rfl
                    refine take_ (i := 6) (N := some 47) (v := ?_) (a' := ?_) #[true, true, true, true, true, true, true, true, false, false, false, false] rfl rfl (take_ofW HT_.out HW_.out (by kernel_rfl)) (fun _ _ _ h => h) (Or.inl ⟨by rfl, ?_⟩) hHeld ?_ ?_
                    rotate_left
                    · rintro w' ⟨s0, s1, s2, s3, s4, s5, s6, s7, s8, s9, s10, s11, s12, s13, s14, s15⟩
                      go_simp
                      with_reducible rfl
                    rotate_left
                    · simp only [Act.put, List.setIfInBounds_toArray, List.set_cons_zero, List.set_cons_succ, i64_w, i32_w]
                      rfl
                    refine pure_ (i := 8) (N := some 49) (v := ?_) (a' := ?_) #[true, true, true, true, true, true, true, true, true, false, false, false] rfl rfl (any_of HT_.out (by kernel_rfl)) (fun _ _ _ h => h) (Or.inl ⟨by rfl, ?_⟩) ?_ ?_
                    rotate_left
                    · intro w'
                      go_simp
                      with_reducible rfl
                    rotate_left
                    · simp only [Act.put, List.setIfInBounds_toArray, List.set_cons_zero, List.set_cons_succ, i64_w, i32_w]
                      rfl
                    refine take_ (i := 9) (N := some 50) (v := ?_) (a' := ?_) #[true, true, true, true, true, true, true, true, true, true, false, false] rfl rfl (take_ofW HT_.out HW_.out (by kernel_rfl)) (fun _ _ _ h => h) (Or.inl ⟨by rfl, ?_⟩) hHeld ?_ ?_
                    rotate_left
                    · rintro w' ⟨s0, s1, s2, s3, s4, s5, s6, s7, s8, s9, s10, s11, s12, s13, s14, s15⟩
                      go_simp
                      with_reducible rfl
                    rotate_left
                    · simp only [Act.put, List.setIfInBounds_toArray, List.set_cons_zero, List.set_cons_succ, i64_w, i32_w]
                      rfl
                    refine one_ (i := 10) (N := some 51) #[true, true, true, true, true, true, true, true, true, true, true, false] rfl rfl (one_of HT_.out (by kernel_rfl)) (by decide) (fun K hK => ?_)
                    refine goes_ Try.func33 (by kernel_rfl) rfl #[.agg #[.int .i64 ((rd_T48 l0_0 x5_2).f0), .int .i64 ((rd_T48 l0_0 x5_2).f1), .string ((rd_T48 l0_0 x5_2).f2), .slice A162_3 ((rd_T48 l0_0 x5_2).f3).length c162_3, .slice A162_4 ((rd_T48 l0_0 x5_2).f4).length c162_4], .agg #[.int .i64 ((rd_T48 l1_0 x5_2).f0), .int .i64 ((rd_T48 l1_0 x5_2).f1), .string ((rd_T48 l1_0 x5_2).f2), .slice A163_3 ((rd_T48 l1_0 x5_2).f3).length c163_3, .slice A163_4 ((rd_T48 l1_0 x5_2).f4).length c163_4]] (by rfl) rfl rfl (by (try simp only [List.map_toArray, List.map_cons, List.map_nil]); first | done | rfl | (simp only [List.length_drop, List.length_take]; rfl)) ?_
                    with_reducible refine (scruplelaw03_Same.calls k2 ((rd_T48 l0_0 x5_2).f0) ((rd_T48 l0_0 x5_2).f1) ((rd_T48 l0_0 x5_2).f2) _ _ ((rd_T48 l0_0 x5_2).f3) _ _ ((rd_T48 l0_0 x5_2).f4) ((rd_T48 l1_0 x5_2).f0) ((rd_T48 l1_0 x5_2).f1) ((rd_T48 l1_0 x5_2).f2) _ _ ((rd_T48 l1_0 x5_2).f3) _ _ ((rd_T48 l1_0 x5_2).f4) true _ ?side1 ?side2 ?side3 ?side4 ?side5 ?side6 ?side7 ?side8 A21.out).mono ?_
                    (case side1 => repeat (first | exact (Kd.C_below HR162_3.out HB.out) | (with_reducible refine Kd.C_alloc ?_ _) | (with_reducible refine Kd.C_drewN ?_ _) | (with_reducible refine Kd.C_drew ?_)))
                    (case side2 => exact HC162_3.out)
                    (case side3 => repeat (first | exact (Kd.C_below HR162_4.out HB.out) | (with_reducible refine Kd.C_alloc ?_ _) | (with_reducible refine Kd.C_drewN ?_ _) | (with_reducible refine Kd.C_drew ?_)))
                    (case side4 => exact HC162_4.out)
                    (case side5 => repeat (first | exact (Kd.C_below HR163_3.out HB.out) | (with_reducible refine Kd.C_alloc ?_ _) | (with_reducible refine Kd.C_drewN ?_ _) | (with_reducible refine Kd.C_drew ?_)))
                    (case side6 => exact HC163_3.out)
                    (case side7 => repeat (first | exact (Kd.C_below HR163_4.out HB.out) | (with_reducible refine Kd.C_alloc ?_ _) | (with_reducible refine Kd.C_drewN ?_ _) | (with_reducible refine Kd.C_drew ?_)))
                    (case side8 => exact HC163_4.out)
                    rintro e w26 ⟨rfl, hb⟩
                    refine ⟨_, rfl, ?_⟩
                    have n0_ := Aside0.mk (blk_below (g := gb160) (o := .cells #[.slice (some ad162) l0_0.length c0_0, .slice A0_1 l0_1.length c0_1, .slice A0_2 l0_2.length c0_2] 27 (0, 0)) (by (with_reducible repeat (first | refine blk_drewN ?_ _ | refine blk_drew ?_ | refine blk_alloc ?_ _)); exact BK160.out) hb)
                    have n1_ := Aside0.mk (blk_below (g := gb161) (o := .cells #[.slice (some ad163) l1_0.length c1_0, .slice A1_1 l1_1.length c1_1, .slice A1_2 l1_2.length c1_2] 27 (0, 0)) (by (with_reducible repeat (first | refine blk_drewN ?_ _ | refine blk_drew ?_ | refine blk_alloc ?_ _)); exact BK161.out) hb)
                    have n2_ := Aside0.mk (below_step (by repeat (first | (with_reducible first | exact HB.out | apply below_alloc | apply pw_below_drewN | apply below_drew1 | refine below_set ?_ GE160.out | refine below_set ?_ GE161.out) | exact HB.out)) hb)
                    clear BK160
                    clear BK161
                    clear HB
                    have BK160 := n0_
                    have BK161 := n1_
                    have HB := n2_
                    clear n0_ n1_ n2_
                    (try clear hb)
                    (try clear hb2)
                    (try clear hk)
                    (try clear hi)
                    refine hK.out _ _ ⟨(blk_cell BK160.out 0).trans rfl, (blk_cell BK160.out 1).trans rfl, (blk_cell BK160.out 2).trans rfl, (blk_cell BK161.out 0).trans rfl, (blk_cell BK161.out 1).trans rfl, (blk_cell BK161.out 2).trans rfl, ((HB.out.cell (World.block_lt_of_cell? w _ hw162_0)).trans hw162_0), ((HB.out.cell (World.block_lt_of_cell? w _ hw162_1)).trans hw162_1), ((HB.out.cell (World.block_lt_of_cell? w _ hw162_2)).trans hw162_2), ((HB.out.cell (World.block_lt_of_cell? w _ hw162_3)).trans hw162_3), ((HB.out.cell (World.block_lt_of_cell? w _ hw162_4)).trans hw162_4), ((HB.out.cell (World.block_lt_of_cell? w _ hw163_0)).trans hw163_0), ((HB.out.cell (World.block_lt_of_cell? w _ hw163_1)).trans hw163_1), ((HB.out.cell (World.block_lt_of_cell? w _ hw163_2)).trans hw163_2), ((HB.out.cell (World.block_lt_of_cell? w _ hw163_3)).trans hw163_3), ((HB.out.cell (World.block_lt_of_cell? w _ hw163_4)).trans hw163_4)⟩ (fun hHeld => ?_)
                    clear hK K
                    refine norm_ (a' := ?_) ?_ ?_
                    rotate_left
                    · show Act.put _ (some 51) _ = _
                      simp only [Act.put, List.setIfInBounds_toArray, List.set_cons_zero, List.set_cons_succ, i64_w, i32_w]
                      rfl
                    refine pure_ (i := 11) (N := some 6) (v := ?_) (a' := ?_) #[true, true, true, true, true, true, true, true, true, true, true, true] rfl rfl (any_of HT_.out (by kernel_rfl)) (fun _ _ _ h => h) (Or.inl ⟨by rfl, ?_⟩) ?_ ?_
                    rotate_left
                    · intro w'
                      go_simp
                      with_reducible rfl
                    rotate_left
                    · simp only [Act.put, List.setIfInBounds_toArray, List.set_cons_zero, List.set_cons_succ, i64_w, i32_w]
                      rfl
                    refine done_ (done_of HT_.out (by kernel_rfl)) ?_
                    try go_wp2
                    go_roundg k2
                    case measure => have := HJ2.out; have := HK2.out; omega
                    case rel => exact ⟨(wrap64 (x5_2 + 1)), (by first | rfl | (simp; done) | (simp [*]; done)), H', ⟨by have := HJ2.out; have := HK2.out; omega⟩, ⟨by (with_reducible repeat (first | refine blk_drewN ?_ _ | refine blk_drew ?_ | refine blk_alloc ?_ _)); exact BK160.out⟩, ⟨by (with_reducible repeat (first | refine blk_drewN ?_ _ | refine blk_drew ?_ | refine blk_alloc ?_ _)); exact BK161.out⟩, ⟨by repeat (first | (with_reducible first | exact HB.out | apply below_alloc | apply pw_below_drewN | apply below_drew1 | refine below_set ?_ GE160.out | refine below_set ?_ GE161.out) | exact HB.out)⟩⟩
                  · replace c22 := Bool.eq_false_iff.mpr c22
                    subst c22
                    have H1 : (some false) = some r := by rw [if_neg (show ¬ (false = true) by decide)] at H; exact H
                    clear H
                    have H := H1
                    clear H1
                    obtain rfl := Option.some.inj H
                    simp only [Option.some.injEq, Prod.mk.injEq] at H
                    obtain ⟨rfl⟩ := H
                    have hnb27 := NB160_161.out
                    have hnc27 := NB161_160.out
                    have hcz28_0 : wr.cell? ⟨gb160, 0, none⟩ = some (.slice A0_0 l0_0.length c0_0) := (blk_cell BK160.out 0).trans rfl
                    have hcz28_1 : wr.cell? ⟨gb160, 1, none⟩ = some (.slice A0_1 l0_1.length c0_1) := (blk_cell BK160.out 1).trans rfl
                    have hcz28_2 : wr.cell? ⟨gb160, 2, none⟩ = some (.slice A0_2 l0_2.length c0_2) := (blk_cell BK160.out 2).trans rfl
                    have hfz28_0 := blk_frozen BK160.out 0
                    have hfz28_1 := blk_frozen BK160.out 1
                    have hfz28_2 := blk_frozen BK160.out 2
                    try go_wp2
                    have n0_ := Aside0.mk (blk_drew BK160.out)
                    have n1_ := Aside0.mk (blk_drew BK161.out)
                    have n2_ := Aside0.mk (below_drew1 HB.out)
                    clear BK160
                    clear BK161
                    clear HB
                    have BK160 := n0_
                    have BK161 := n1_
                    have HB := n2_
                    clear n0_ n1_ n2_
                    have p162 : 0 ≤ (x5_2 : Int) := of_decide_eq_true (by first | (with_reducible assumption) | assumption)
                    have q162 : x5_2 < (l0_0.length : Int) := of_decide_eq_true (by first | (with_reducible assumption) | assumption)
                    obtain ⟨ad162, A162_3, c162_3, A162_4, c162_4, e162, hx162_0, hx162_1, hx162_2, hx162_3, hx162_4, hl162_3, hi162_3, hl162_4, hi162_4⟩ := at_T48 HR0_0.out x5_2 p162 q162
                    have hw162_4 := hx162_4
                    have hw162_3 := hx162_3
                    have hw162_2 := hx162_2
                    have hw162_1 := hx162_1
                    have hw162_0 := hx162_0
                    cases e162
                    replace hx162_0 := (HB.out.cell (World.block_lt_of_cell? w _ hx162_0)).trans hx162_0
                    replace hx162_1 := (HB.out.cell (World.block_lt_of_cell? w _ hx162_1)).trans hx162_1
                    replace hx162_2 := (HB.out.cell (World.block_lt_of_cell? w _ hx162_2)).trans hx162_2
                    replace hx162_3 := (HB.out.cell (World.block_lt_of_cell? w _ hx162_3)).trans hx162_3
                    replace hx162_4 := (HB.out.cell (World.block_lt_of_cell? w _ hx162_4)).trans hx162_4
                    have HR162_3 := Aside0.mk hi162_3
                    have HC162_3 := Aside0.mk hl162_3
                    clear hi162_3 hl162_3
                    have HR162_4 := Aside0.mk hi162_4
                    have HC162_4 := Aside0.mk hl162_4
                    clear hi162_4 hl162_4
                    replace p162 := eq_true p162
                    replace q162 := eq_true q162
                    have p163 : 0 ≤ (x5_2 : Int) := of_decide_eq_true (by first | (with_reducible assumption) | assumption)
                    have q163 : x5_2 < (l1_0.length : Int) := of_decide_eq_true (by first | (with_reducible assumption) | assumption)
                    obtain ⟨ad163, A163_3, c163_3, A163_4, c163_4, e163, hx163_0, hx163_1, hx163_2, hx163_3, hx163_4, hl163_3, hi163_3, hl163_4, hi163_4⟩ := at_T48 HR1_0.out x5_2 p163 q163
                    have hw163_4 := hx163_4
                    have hw163_3 := hx163_3
                    have hw163_2 := hx163_2
                    have hw163_1 := hx163_1
                    have hw163_0 := hx163_0
                    cases e163
                    replace hx163_0 := (HB.out.cell (World.block_lt_of_cell? w _ hx163_0)).trans hx163_0
                    replace hx163_1 := (HB.out.cell (World.block_lt_of_cell? w _ hx163_1)).trans hx163_1
                    replace hx163_2 := (HB.out.cell (World.block_lt_of_cell? w _ hx163_2)).trans hx163_2
                    replace hx163_3 := (HB.out.cell (World.block_lt_of_cell? w _ hx163_3)).trans hx163_3
                    replace hx163_4 := (HB.out.cell (World.block_lt_of_cell? w _ hx163_4)).trans hx163_4
                    have HR163_3 := Aside0.mk hi163_3
                    have HC163_3 := Aside0.mk hl163_3
                    clear hi163_3 hl163_3
                    have HR163_4 := Aside0.mk hi163_4
                    have HC163_4 := Aside0.mk hl163_4
                    clear hi163_4 hl163_4
                    replace p163 := eq_true p163
                    replace q163 := eq_true q163
                    refine start_ (n := 12) (S := fun w' => w'.cell? ⟨gb160, 0, none⟩ = some (.slice (some ad162) l0_0.length c0_0) ∧ w'.cell? ⟨gb160, 1, none⟩ = some (.slice A0_1 l0_1.length c0_1) ∧ w'.cell? ⟨gb160, 2, none⟩ = some (.slice A0_2 l0_2.length c0_2) ∧ w'.cell? ⟨gb161, 0, none⟩ = some (.slice (some ad163) l1_0.length c1_0) ∧ w'.cell? ⟨gb161, 1, none⟩ = some (.slice A1_1 l1_1.length c1_1) ∧ w'.cell? ⟨gb161, 2, none⟩ = some (.slice A1_2 l1_2.length c1_2) ∧ w'.cell? (ad162.add ((x5_2).toNat * 5)) = some (.int .i64 ((rd_T48 l0_0 x5_2).f0)) ∧ w'.cell? ⟨(ad162.add ((x5_2).toNat * 5)).block, (ad162.add ((x5_2).toNat * 5)).off + 1, none⟩ = some (.int .i64 ((rd_T48 l0_0 x5_2).f1)) ∧ w'.cell? ⟨(ad162.add ((x5_2).toNat * 5)).block, (ad162.add ((x5_2).toNat * 5)).off + 2, none⟩ = some (.string ((rd_T48 l0_0 x5_2).f2)) ∧ w'.cell? ⟨(ad162.add ((x5_2).toNat * 5)).block, (ad162.add ((x5_2).toNat * 5)).off + 3, none⟩ = some (.slice A162_3 ((rd_T48 l0_0 x5_2).f3).length c162_3) ∧ w'.cell? ⟨(ad162.add ((x5_2).toNat * 5)).block, (ad162.add ((x5_2).toNat * 5)).off + 4, none⟩ = some (.slice A162_4 ((rd_T48 l0_0 x5_2).f4).length c162_4) ∧ w'.cell? (ad163.add ((x5_2).toNat * 5)) = some (.int .i64 ((rd_T48 l1_0 x5_2).f0)) ∧ w'.cell? ⟨(ad163.add ((x5_2).toNat * 5)).block, (ad163.add ((x5_2).toNat * 5)).off + 1, none⟩ = some (.int .i64 ((rd_T48 l1_0 x5_2).f1)) ∧ w'.cell? ⟨(ad163.add ((x5_2).toNat * 5)).block, (ad163.add ((x5_2).toNat * 5)).off + 2, none⟩ = some (.string ((rd_T48 l1_0 x5_2).f2)) ∧ w'.cell? ⟨(ad163.add ((x5_2).toNat * 5)).block, (ad163.add ((x5_2).toNat * 5)).off + 3, none⟩ = some (.slice A163_3 ((rd_T48 l1_0 x5_2).f3).length c163_3) ∧ w'.cell? ⟨(ad163.add ((x5_2).toNat * 5)).block, (ad163.add ((x5_2).toNat * 5)).off + 4, none⟩ = some (.slice A163_4 ((rd_T48 l1_0 x5_2).f4).length c163_4)) (ds := []) #[false, false, false, false, false, false, false, false, false, false, false, false] (by kernel_rfl) rfl rfl ⟨(blk_cell BK160.out 0).trans rfl, (blk_cell BK160.out 1).trans rfl, (blk_cell BK160.out 2).trans rfl, (blk_cell BK161.out 0).trans rfl, (blk_cell BK161.out 1).trans rfl, (blk_cell BK161.out 2).trans rfl, ((HB.out.cell (World.block_lt_of_cell? w _ hw162_0)).trans hw162_0), ((HB.out.cell (World.block_lt_of_cell? w _ hw162_1)).trans hw162_1), ((HB.out.cell (World.block_lt_of_cell? w _ hw162_2)).trans hw162_2), ((HB.out.cell (World.block_lt_of_cell? w _ hw162_3)).trans hw162_3), ((HB.out.cell (World.block_lt_of_cell? w _ hw162_4)).trans hw162_4), ((HB.out.cell (World.block_lt_of_cell? w _ hw163_0)).trans hw163_0), ((HB.out.cell (World.block_lt_of_cell? w _ hw163_1)).trans hw163_1), ((HB.out.cell (World.block_lt_of_cell? w _ hw163_2)).trans hw163_2), ((HB.out.cell (World.block_lt_of_cell? w _ hw163_3)).trans hw163_3), ((HB.out.cell (World.block_lt_of_cell? w _ hw163_4)).trans hw163_4)⟩ (fun hHeld => ?_); refine with_tabW scruplelaw09_Same.tab6 scruplelaw09_Same.bits6 (fun HT_ HW_ => ?_)
                    generalize wr.drew = w29 at BK160 BK161 HB HR162_3 HR162_4 HR163_3 HR163_4 hx162_0 hx162_1 hx162_2 hx162_3 hx162_4 hx163_0 hx163_1 hx163_2 hx163_3 hx163_4 hHeld ⊢
                    refine pure_ (i := 0) (N := some 41) (v := ?_) (a' := ?_) #[true, false, false, false, false, false, false, false, false, false, false, false] rfl rfl (any_of HT_.out (by kernel_rfl)) (fun _ _ _ h => h) (Or.inl ⟨by rfl, ?_⟩) ?_ ?_
                    rotate_left
                    · intro w'
                      go_simp
                      with_reducible rfl
                    rotate_left
                    · simp only [Act.put, List.setIfInBounds_toArray, List.set_cons_zero, List.set_cons_succ, i64_w, i32_w]
                      rfl
                    refine pure_ (i := 2) (N := some 43) (v := ?_) (a' := ?_) #[true, false, true, false, false, false, false, false, false, false, false, false] rfl rfl (any_of HT_.out (by kernel_rfl)) (fun _ _ _ h => h) (Or.inl ⟨by rfl, ?_⟩) ?_ ?_
                    rotate_left
                    · intro w'
                      go_simp
                      with_reducible rfl
                    rotate_left
                    · simp only [Act.put, List.setIfInBounds_toArray, List.set_cons_zero, List.set_cons_succ, i64_w, i32_w]
                      rfl
                    refine pure_ (i := 5) (N := some 46) (v := ?_) (a' := ?_) #[true, false, true, false, false, true, false, false, false, false, false, false] rfl rfl (any_of HT_.out (by kernel_rfl)) (fun _ _ _ h => h) (Or.inl ⟨by rfl, ?_⟩) ?_ ?_
                    rotate_left
                    · intro w'
                      go_simp
                      with_reducible rfl
                    rotate_left
                    · simp only [Act.put, List.setIfInBounds_toArray, List.set_cons_zero, List.set_cons_succ, i64_w, i32_w]
                      rfl
                    refine pure_ (i := 7) (N := some 48) (v := ?_) (a' := ?_) #[true, false, true, false, false, true, false, true, false, false, false, false] rfl rfl (any_of HT_.out (by kernel_rfl)) (fun _ _ _ h => h) (Or.inl ⟨by rfl, ?_⟩) ?_ ?_
                    rotate_left
                    · intro w'
                      go_simp
                      with_reducible rfl
                    rotate_left
                    · simp only [Act.put, List.setIfInBounds_toArray, List.set_cons_zero, List.set_cons_succ, i64_w, i32_w]
                      rfl
                    refine take_ (i := 1) (N := some 42) (v := ?_) (a' := ?_) #[true, true, true, false, false, true, false, true, false, false, false, false] rfl rfl (take_ofW HT_.out HW_.out (by kernel_rfl)) (fun _ _ _ h => h) (Or.inl ⟨by rfl, ?_⟩) hHeld ?_ ?_
                    rotate_left
                    · rintro w' ⟨s0, s1, s2, s3, s4, s5, s6, s7, s8, s9, s10, s11, s12, s13, s14, s15⟩
                      go_simp
                      with_reducible rfl
                    rotate_left
                    · simp only [Act.put, List.setIfInBounds_toArray, List.set_cons_zero, List.set_cons_succ, i64_w, i32_w]
                      rfl
                    refine pure_ (i := 3) (N := some 44) (v := ?_) (a' := ?_) #[true, true, true, true, false, true, false, true, false, false, false, false] rfl rfl (any_of HT_.out (by kernel_rfl)) (fun _ _ _ h => h) (Or.inl ⟨by rfl, ?_⟩) ?_ ?_
                    rotate_left
                    · intro w'
                      go_simp
                      with_reducible rfl
                    rotate_left
                    · simp only [Act.put, List.setIfInBounds_toArray, List.set_cons_zero, List.set_cons_succ, i64_w, i32_w]
                      rfl
                    refine take_ (i := 4) (N := some 45) (v := ?_) (a' := ?_) #[true, true, true, true, true, true, false, true, false, false, false, false] rfl rfl (take_ofW HT_.out HW_.out (by kernel_rfl)) (fun _ _ _ h => h) (Or.inl ⟨by rfl, ?_⟩) hHeld ?_ ?_
                    rotate_left
                    · rintro w' ⟨s0, s1, s2, s3, s4, s5, s6, s7, s8, s9, s10, s11, s12, s13, s14, s15⟩
                      go_simp
                      with_reducible rfl
                    rotate_left
                    · simp only [Act.put, List.setIfInBounds_toArray, List.set_cons_zero, List.set_cons_succ, i64_w, i32_w]
                      rfl
                    refine take_ (i := 6) (N := some 47) (v := ?_) (a' := ?_) #[true, true, true, true, true, true, true, true, false, false, false, false] rfl rfl (take_ofW HT_.out HW_.out (by kernel_rfl)) (fun _ _ _ h => h) (Or.inl ⟨by rfl, ?_⟩) hHeld ?_ ?_
                    rotate_left
                    · rintro w' ⟨s0, s1, s2, s3, s4, s5, s6, s7, s8, s9, s10, s11, s12, s13, s14, s15⟩
                      go_simp
                      with_reducible rfl
                    rotate_left
                    · simp only [Act.put, List.setIfInBounds_toArray, List.set_cons_zero, List.set_cons_succ, i64_w, i32_w]
                      rfl
                    refine pure_ (i := 8) (N := some 49) (v := ?_) (a' := ?_) #[true, true, true, true, true, true, true, true, true, false, false, false] rfl rfl (any_of HT_.out (by kernel_rfl)) (fun _ _ _ h => h) (Or.inl ⟨by rfl, ?_⟩) ?_ ?_
                    rotate_left
                    · intro w'
                      go_simp
                      with_reducible rfl
                    rotate_left
                    · simp only [Act.put, List.setIfInBounds_toArray, List.set_cons_zero, List.set_cons_succ, i64_w, i32_w]
                      rfl
                    refine take_ (i := 9) (N := some 50) (v := ?_) (a' := ?_) #[true, true, true, true, true, true, true, true, true, true, false, false] rfl rfl (take_ofW HT_.out HW_.out (by kernel_rfl)) (fun _ _ _ h => h) (Or.inl ⟨by rfl, ?_⟩) hHeld ?_ ?_
                    rotate_left
                    · rintro w' ⟨s0, s1, s2, s3, s4, s5, s6, s7, s8, s9, s10, s11, s12, s13, s14, s15⟩
                      go_simp
                      with_reducible rfl
                    rotate_left
                    · simp only [Act.put, List.setIfInBounds_toArray, List.set_cons_zero, List.set_cons_succ, i64_w, i32_w]
                      rfl
                    refine one_ (i := 10) (N := some 51) #[true, true, true, true, true, true, true, true, true, true, true, false] rfl rfl (one_of HT_.out (by kernel_rfl)) (by decide) (fun K hK => ?_)
                    refine goes_ Try.func33 (by kernel_rfl) rfl #[.agg #[.int .i64 ((rd_T48 l0_0 x5_2).f0), .int .i64 ((rd_T48 l0_0 x5_2).f1), .string ((rd_T48 l0_0 x5_2).f2), .slice A162_3 ((rd_T48 l0_0 x5_2).f3).length c162_3, .slice A162_4 ((rd_T48 l0_0 x5_2).f4).length c162_4], .agg #[.int .i64 ((rd_T48 l1_0 x5_2).f0), .int .i64 ((rd_T48 l1_0 x5_2).f1), .string ((rd_T48 l1_0 x5_2).f2), .slice A163_3 ((rd_T48 l1_0 x5_2).f3).length c163_3, .slice A163_4 ((rd_T48 l1_0 x5_2).f4).length c163_4]] (by rfl) rfl rfl (by (try simp only [List.map_toArray, List.map_cons, List.map_nil]); first | done | rfl | (simp only [List.length_drop, List.length_take]; rfl)) ?_
                    with_reducible refine (scruplelaw03_Same.calls k2 ((rd_T48 l0_0 x5_2).f0) ((rd_T48 l0_0 x5_2).f1) ((rd_T48 l0_0 x5_2).f2) _ _ ((rd_T48 l0_0 x5_2).f3) _ _ ((rd_T48 l0_0 x5_2).f4) ((rd_T48 l1_0 x5_2).f0) ((rd_T48 l1_0 x5_2).f1) ((rd_T48 l1_0 x5_2).f2) _ _ ((rd_T48 l1_0 x5_2).f3) _ _ ((rd_T48 l1_0 x5_2).f4) false _ ?side1 ?side2 ?side3 ?side4 ?side5 ?side6 ?side7 ?side8 A21.out).mono ?_
                    (case side1 => repeat (first | exact (Kd.C_below HR162_3.out HB.out) | (with_reducible refine Kd.C_alloc ?_ _) | (with_reducible refine Kd.C_drewN ?_ _) | (with_reducible refine Kd.C_drew ?_)))
                    (case side2 => exact HC162_3.out)
                    (case side3 => repeat (first | exact (Kd.C_below HR162_4.out HB.out) | (with_reducible refine Kd.C_alloc ?_ _) | (with_reducible refine Kd.C_drewN ?_ _) | (with_reducible refine Kd.C_drew ?_)))
                    (case side4 => exact HC162_4.out)
                    (case side5 => repeat (first | exact (Kd.C_below HR163_3.out HB.out) | (with_reducible refine Kd.C_alloc ?_ _) | (with_reducible refine Kd.C_drewN ?_ _) | (with_reducible refine Kd.C_drew ?_)))
                    (case side6 => exact HC163_3.out)
                    (case side7 => repeat (first | exact (Kd.C_below HR163_4.out HB.out) | (with_reducible refine Kd.C_alloc ?_ _) | (with_reducible refine Kd.C_drewN ?_ _) | (with_reducible refine Kd.C_drew ?_)))
                    (case side8 => exact HC163_4.out)
                    rintro e w30 ⟨rfl, hb⟩
                    refine ⟨_, rfl, ?_⟩
                    have n0_ := Aside0.mk (blk_below (g := gb160) (o := .cells #[.slice (some ad162) l0_0.length c0_0, .slice A0_1 l0_1.length c0_1, .slice A0_2 l0_2.length c0_2] 27 (0, 0)) (by (with_reducible repeat (first | refine blk_drewN ?_ _ | refine blk_drew ?_ | refine blk_alloc ?_ _)); exact BK160.out) hb)
                    have n1_ := Aside0.mk (blk_below (g := gb161) (o := .cells #[.slice (some ad163) l1_0.length c1_0, .slice A1_1 l1_1.length c1_1, .slice A1_2 l1_2.length c1_2] 27 (0, 0)) (by (with_reducible repeat (first | refine blk_drewN ?_ _ | refine blk_drew ?_ | refine blk_alloc ?_ _)); exact BK161.out) hb)
                    have n2_ := Aside0.mk (below_step (by repeat (first | (with_reducible first | exact HB.out | apply below_alloc | apply pw_below_drewN | apply below_drew1 | refine below_set ?_ GE160.out | refine below_set ?_ GE161.out) | exact HB.out)) hb)
                    clear BK160
                    clear BK161
                    clear HB
                    have BK160 := n0_
                    have BK161 := n1_
                    have HB := n2_
                    clear n0_ n1_ n2_
                    (try clear hb)
                    (try clear hb2)
                    (try clear hk)
                    (try clear hi)
                    refine hK.out _ _ ⟨(blk_cell BK160.out 0).trans rfl, (blk_cell BK160.out 1).trans rfl, (blk_cell BK160.out 2).trans rfl, (blk_cell BK161.out 0).trans rfl, (blk_cell BK161.out 1).trans rfl, (blk_cell BK161.out 2).trans rfl, ((HB.out.cell (World.block_lt_of_cell? w _ hw162_0)).trans hw162_0), ((HB.out.cell (World.block_lt_of_cell? w _ hw162_1)).trans hw162_1), ((HB.out.cell (World.block_lt_of_cell? w _ hw162_2)).trans hw162_2), ((HB.out.cell (World.block_lt_of_cell? w _ hw162_3)).trans hw162_3), ((HB.out.cell (World.block_lt_of_cell? w _ hw162_4)).trans hw162_4), ((HB.out.cell (World.block_lt_of_cell? w _ hw163_0)).trans hw163_0), ((HB.out.cell (World.block_lt_of_cell? w _ hw163_1)).trans hw163_1), ((HB.out.cell (World.block_lt_of_cell? w _ hw163_2)).trans hw163_2), ((HB.out.cell (World.block_lt_of_cell? w _ hw163_3)).trans hw163_3), ((HB.out.cell (World.block_lt_of_cell? w _ hw163_4)).trans hw163_4)⟩ (fun hHeld => ?_)
                    clear hK K
                    refine norm_ (a' := ?_) ?_ ?_
                    rotate_left
                    · show Act.put _ (some 51) _ = _
                      simp only [Act.put, List.setIfInBounds_toArray, List.set_cons_zero, List.set_cons_succ, i64_w, i32_w]
                      rfl
                    refine pure_ (i := 11) (N := some 6) (v := ?_) (a' := ?_) #[true, true, true, true, true, true, true, true, true, true, true, true] rfl rfl (any_of HT_.out (by kernel_rfl)) (fun _ _ _ h => h) (Or.inl ⟨by rfl, ?_⟩) ?_ ?_
                    rotate_left
                    · intro w'
                      go_simp
                      with_reducible rfl
                    rotate_left
                    · simp only [Act.put, List.setIfInBounds_toArray, List.set_cons_zero, List.set_cons_succ, i64_w, i32_w]
                      rfl
                    refine done_ (done_of HT_.out (by kernel_rfl)) ?_
                    try go_wp2
                    go_ret
                    exact ⟨by first | rfl | (simp [errW_none, errW_some] <;> rfl) | (simp [*, errW_none, errW_some] <;> rfl), by repeat (first | (with_reducible first | exact HB.out | apply below_alloc | apply pw_below_drewN | apply below_drew1 | refine below_set ?_ GE160.out | refine below_set ?_ GE161.out) | exact HB.out)⟩
                · rw [if_neg c20] at H
                  exact absurd H (by simp)
              · rw [if_neg c19] at H
                exact absurd H (by simp)
            · rw [if_neg c18] at H
              have c18b0 : decide (x5_2 < (l0_0.length : Int)) = false := decide_eq_false c18
              clear c18
              have H' := Aside0.mk H
              clear H
              have hnb31 := NB160_161.out
              have hnc31 := NB161_160.out
              have hcz32_0 : wr.cell? ⟨gb160, 0, none⟩ = some (.slice A0_0 l0_0.length c0_0) := (blk_cell BK160.out 0).trans rfl
              have hcz32_1 : wr.cell? ⟨gb160, 1, none⟩ = some (.slice A0_1 l0_1.length c0_1) := (blk_cell BK160.out 1).trans rfl
              have hcz32_2 : wr.cell? ⟨gb160, 2, none⟩ = some (.slice A0_2 l0_2.length c0_2) := (blk_cell BK160.out 2).trans rfl
              have hfz32_0 := blk_frozen BK160.out 0
              have hfz32_1 := blk_frozen BK160.out 1
              have hfz32_2 := blk_frozen BK160.out 2
              go_wp2
              go_loopg [7] k2 (fun kq v7 w' => ∃ (x7_3 : Int), v7 = .int .i64 x7_3 ∧ Aside0 (scruplelaw09_Same.l1 kq x7_3 l0_0 l0_1 l0_2 l1_0 l1_1 l1_2 = some r) ∧ Aside0 (kq ≤ k2) ∧ Aside0 (w'.heap[gb160]? = some (.cells #[(.slice A0_0 l0_0.length c0_0), (.slice A0_1 l0_1.length c0_1), (.slice A0_2 l0_2.length c0_2)] 27 (0, 0))) ∧ Aside0 (w'.heap[gb161]? = some (.cells #[(.slice A1_0 l1_0.length c1_0), (.slice A1_1 l1_1.length c1_1), (.slice A1_2 l1_2.length c1_2)] 27 (0, 0))) ∧ Aside0 (Below w.heap.size w w'))
              case atStart => exact ⟨(0), (by first | rfl | (simp; done) | (simp [*]; done)), H', ⟨Nat.le_refl _⟩, ⟨by (with_reducible repeat (first | refine blk_drewN ?_ _ | refine blk_drew ?_ | refine blk_alloc ?_ _)); exact BK160.out⟩, ⟨by (with_reducible repeat (first | refine blk_drewN ?_ _ | refine blk_drew ?_ | refine blk_alloc ?_ _)); exact BK161.out⟩, ⟨by repeat (first | (with_reducible first | exact HB.out | apply below_alloc | apply pw_below_drewN | apply below_drew1 | refine below_set ?_ GE160.out | refine below_set ?_ GE161.out) | exact HB.out)⟩⟩
              case round =>
                clear H'
                try clear c1
                try clear p1
                try clear q1
                try clear hx1
                try clear c2
                try clear p2
                try clear c3
                try clear c6
                try clear c6b0
                try clear c6b1
                try clear c6b2
                try clear p6
                try clear c7
                try clear c7b0
                try clear c7b1
                try clear c7b2
                try clear c8
                try clear c11
                try clear c13
                try clear c14
                try clear c16
                try clear p16
                try clear q16
                try clear hx16
                try clear c17
                try clear c18
                try clear c18b0
                try clear c19
                try clear c19b0
                try clear c20
                try clear c20b0
                try clear c22
                try clear c23
                try clear c27
                try clear c31
                try clear hcz10_0
                try clear hcz10_1
                try clear hcz10_2
                try clear hcz12_0
                try clear hcz12_1
                try clear hcz12_2
                try clear hcz13_0
                try clear hcz13_1
                try clear hcz13_2
                try clear hcz15_0
                try clear hcz15_1
                try clear hcz15_2
                try clear hcz16_0
                try clear hcz16_1
                try clear hcz16_2
                try clear hcz24_0
                try clear hcz24_1
                try clear hcz24_2
                try clear hcz28_0
                try clear hcz28_1
                try clear hcz28_2
                try clear hcz32_0
                try clear hcz32_1
                try clear hcz32_2
                try clear hcz9_0
                try clear hcz9_1
                try clear hcz9_2
                try clear hfz10_0
                try clear hfz10_1
                try clear hfz10_2
                try clear hfz12_0
                try clear hfz12_1
                try clear hfz12_2
                try clear hfz13_0
                try clear hfz13_1
                try clear hfz13_2
                try clear hfz15_0
                try clear hfz15_1
                try clear hfz15_2
                try clear hfz16_0
                try clear hfz16_1
                try clear hfz16_2
                try clear hfz24_0
                try clear hfz24_1
                try clear hfz24_2
                try clear hfz28_0
                try clear hfz28_1
                try clear hfz28_2
                try clear hfz32_0
                try clear hfz32_1
                try clear hfz32_2
                try clear hfz9_0
                try clear hfz9_1
                try clear hfz9_2
                try clear hx162_0
                try clear hx162_1
                try clear hx162_2
                try clear hx162_3
                try clear hx162_4
                try clear hx163_0
                try clear hx163_1
                try clear hx163_2
                try clear hx163_3
                try clear hx163_4
                try clear p162
                try clear p163
                try clear p2
                try clear q162
                try clear q163
                obtain ⟨x7_3, rfl, HA, HK3, BK160, BK161, HB⟩ := hrel
                cases gk with
                | zero => exact absurd HA.out (by simp [scruplelaw09_Same.l1])
                | succ k3 =>
                  have H := HA.out
                  clear HA
                  simp only [scruplelaw09_Same.l1] at H
                  by_cases c33 : x7_3 < (l0_1.length : Int)
                  · rw [if_pos c33] at H
                    have c33b0 : decide (x7_3 < (l0_1.length : Int)) = true := decide_eq_true c33
                    clear c33
                    by_cases c34 : 0 ≤ x7_3
                    · rw [if_pos c34] at H
                      have c34b0 : decide (0 ≤ x7_3) = true := decide_eq_true c34
                      clear c34
                      by_cases c35 : x7_3 < (l1_1.length : Int)
                      · rw [if_pos c35] at H
                        have c35b0 : decide (x7_3 < (l1_1.length : Int)) = true := decide_eq_true c35
                        clear c35
                        by_cases c36 : (!(((rd_T52 l0_1 x7_3).f0) == ((rd_T52 l1_1 x7_3).f0)) || (!(((rd_T52 l0_1 x7_3).f1) == ((rd_T52 l1_1 x7_3).f1)) || (!(((rd_T52 l0_1 x7_3).f2) == ((rd_T52 l1_1 x7_3).f2)) || (!((((rd_T52 l0_1 x7_3).f3).toList) == (((rd_T52 l1_1 x7_3).f3).toList)))))) = true
                        · rw [if_pos c36] at H
                          have c36b0 : (!(((rd_T52 l0_1 x7_3).f0) == ((rd_T52 l1_1 x7_3).f0)) || (!(((rd_T52 l0_1 x7_3).f1) == ((rd_T52 l1_1 x7_3).f1)) || (!(((rd_T52 l0_1 x7_3).f2) == ((rd_T52 l1_1 x7_3).f2)) || (!((((rd_T52 l0_1 x7_3).f3).toList) == (((rd_T52 l1_1 x7_3).f3).toList)))))) = true := c36
                          clear c36
                          obtain rfl := Option.some.inj H
                          simp only [Option.some.injEq, Prod.mk.injEq] at H
                          obtain ⟨rfl⟩ := H
                          have hnb37 := NB160_161.out
                          have hnc37 := NB161_160.out
                          have hcz38_0 : wr.cell? ⟨gb160, 0, none⟩ = some (.slice A0_0 l0_0.length c0_0) := (blk_cell BK160.out 0).trans rfl
                          have hcz38_1 : wr.cell? ⟨gb160, 1, none⟩ = some (.slice A0_1 l0_1.length c0_1) := (blk_cell BK160.out 1).trans rfl
                          have hcz38_2 : wr.cell? ⟨gb160, 2, none⟩ = some (.slice A0_2 l0_2.length c0_2) := (blk_cell BK160.out 2).trans rfl
                          have hfz38_0 := blk_frozen BK160.out 0
                          have hfz38_1 := blk_frozen BK160.out 1
                          have hfz38_2 := blk_frozen BK160.out 2
                          try go_wp2
                          have n0_ := Aside0.mk (blk_drew BK160.out)
                          have n1_ := Aside0.mk (blk_drew BK161.out)
                          have n2_ := Aside0.mk (below_drew1 HB.out)
                          clear BK160
                          clear BK161
                          clear HB
                          have BK160 := n0_
                          have BK161 := n1_
                          have HB := n2_
                          clear n0_ n1_ n2_
                          have p165 : 0 ≤ (x7_3 : Int) := of_decide_eq_true (by first | (with_reducible assumption) | assumption)
                          have q165 : x7_3 < (l0_1.length : Int) := of_decide_eq_true (by first | (with_reducible assumption) | assumption)
                          obtain ⟨ad165, e165, hx165_0, hx165_1, hx165_2, hx165_3⟩ := at_T52 HR0_1.out x7_3 p165 q165
                          have hw165_3 := hx165_3
                          have hw165_2 := hx165_2
                          have hw165_1 := hx165_1
                          have hw165_0 := hx165_0
                          cases e165
                          replace hx165_0 := (HB.out.cell (World.block_lt_of_cell? w _ hx165_0)).trans hx165_0
                          replace hx165_1 := (HB.out.cell (World.block_lt_of_cell? w _ hx165_1)).trans hx165_1
                          replace hx165_2 := (HB.out.cell (World.block_lt_of_cell? w _ hx165_2)).trans hx165_2
                          replace hx165_3 := (HB.out.cell (World.block_lt_of_cell? w _ hx165_3)).trans hx165_3
                          replace p165 := eq_true p165
                          replace q165 := eq_true q165
                          have p166 : 0 ≤ (x7_3 : Int) := of_decide_eq_true (by first | (with_reducible assumption) | assumption)
                          have q166 : x7_3 < (l1_1.length : Int) := of_decide_eq_true (by first | (with_reducible assumption) | assumption)
                          obtain ⟨ad166, e166, hx166_0, hx166_1, hx166_2, hx166_3⟩ := at_T52 HR1_1.out x7_3 p166 q166
                          have hw166_3 := hx166_3
                          have hw166_2 := hx166_2
                          have hw166_1 := hx166_1
                          have hw166_0 := hx166_0
                          cases e166
                          replace hx166_0 := (HB.out.cell (World.block_lt_of_cell? w _ hx166_0)).trans hx166_0
                          replace hx166_1 := (HB.out.cell (World.block_lt_of_cell? w _ hx166_1)).trans hx166_1
                          replace hx166_2 := (HB.out.cell (World.block_lt_of_cell? w _ hx166_2)).trans hx166_2
                          replace hx166_3 := (HB.out.cell (World.block_lt_of_cell? w _ hx166_3)).trans hx166_3
                          replace p166 := eq_true p166
                          replace q166 := eq_true q166
                          refine start_ (n := 11) (S := fun w' => w'.cell? ⟨gb160, 0, none⟩ = some (.slice A0_0 l0_0.length c0_0) ∧ w'.cell? ⟨gb160, 1, none⟩ = some (.slice (some ad165) l0_1.length c0_1) ∧ w'.cell? ⟨gb160, 2, none⟩ = some (.slice A0_2 l0_2.length c0_2) ∧ w'.cell? ⟨gb161, 0, none⟩ = some (.slice A1_0 l1_0.length c1_0) ∧ w'.cell? ⟨gb161, 1, none⟩ = some (.slice (some ad166) l1_1.length c1_1) ∧ w'.cell? ⟨gb161, 2, none⟩ = some (.slice A1_2 l1_2.length c1_2) ∧ w'.cell? (ad165.add ((x7_3).toNat * 4)) = some (.int .i64 ((rd_T52 l0_1 x7_3).f0)) ∧ w'.cell? ⟨(ad165.add ((x7_3).toNat * 4)).block, (ad165.add ((x7_3).toNat * 4)).off + 1, none⟩ = some (.int .i64 ((rd_T52 l0_1 x7_3).f1)) ∧ w'.cell? ⟨(ad165.add ((x7_3).toNat * 4)).block, (ad165.add ((x7_3).toNat * 4)).off + 2, none⟩ = some (.int .i64 ((rd_T52 l0_1 x7_3).f2)) ∧ w'.cell? ⟨(ad165.add ((x7_3).toNat * 4)).block, (ad165.add ((x7_3).toNat * 4)).off + 3, none⟩ = some (.string ((rd_T52 l0_1 x7_3).f3)) ∧ w'.cell? (ad166.add ((x7_3).toNat * 4)) = some (.int .i64 ((rd_T52 l1_1 x7_3).f0)) ∧ w'.cell? ⟨(ad166.add ((x7_3).toNat * 4)).block, (ad166.add ((x7_3).toNat * 4)).off + 1, none⟩ = some (.int .i64 ((rd_T52 l1_1 x7_3).f1)) ∧ w'.cell? ⟨(ad166.add ((x7_3).toNat * 4)).block, (ad166.add ((x7_3).toNat * 4)).off + 2, none⟩ = some (.int .i64 ((rd_T52 l1_1 x7_3).f2)) ∧ w'.cell? ⟨(ad166.add ((x7_3).toNat * 4)).block, (ad166.add ((x7_3).toNat * 4)).off + 3, none⟩ = some (.string ((rd_T52 l1_1 x7_3).f3))) (ds := []) #[false, false, false, false, false, false, false, false, false, false, false] (by kernel_rfl) rfl rfl ⟨(blk_cell BK160.out 0).trans rfl, (blk_cell BK160.out 1).trans rfl, (blk_cell BK160.out 2).trans rfl, (blk_cell BK161.out 0).trans rfl, (blk_cell BK161.out 1).trans rfl, (blk_cell BK161.out 2).trans rfl, ((HB.out.cell (World.block_lt_of_cell? w _ hw165_0)).trans hw165_0), ((HB.out.cell (World.block_lt_of_cell? w _ hw165_1)).trans hw165_1), ((HB.out.cell (World.block_lt_of_cell? w _ hw165_2)).trans hw165_2), ((HB.out.cell (World.block_lt_of_cell? w _ hw165_3)).trans hw165_3), ((HB.out.cell (World.block_lt_of_cell? w _ hw166_0)).trans hw166_0), ((HB.out.cell (World.block_lt_of_cell? w _ hw166_1)).trans hw166_1), ((HB.out.cell (World.block_lt_of_cell? w _ hw166_2)).trans hw166_2), ((HB.out.cell (World.block_lt_of_cell? w _ hw166_3)).trans hw166_3)⟩ (fun hHeld => ?_); refine with_tabW scruplelaw09_Same.tab12 scruplelaw09_Same.bits12 (fun HT_ HW_ => ?_)
                          generalize wr.drew = w39 at BK160 BK161 HB hx165_0 hx165_1 hx165_2 hx165_3 hx166_0 hx166_1 hx166_2 hx166_3 hHeld ⊢
                          refine pure_ (i := 0) (N := some 61) (v := ?_) (a' := ?_) #[true, false, false, false, false, false, false, false, false, false, false] rfl rfl (any_of HT_.out (by kernel_rfl)) (fun _ _ _ h => h) (Or.inl ⟨by rfl, ?_⟩) ?_ ?_
                          rotate_left
                          · intro w'
                            go_simp
                            with_reducible rfl
                          rotate_left
                          · simp only [Act.put, List.setIfInBounds_toArray, List.set_cons_zero, List.set_cons_succ, i64_w, i32_w]
                            rfl
                          refine pure_ (i := 2) (N := some 63) (v := ?_) (a' := ?_) #[true, false, true, false, false, false, false, false, false, false, false] rfl rfl (any_of HT_.out (by kernel_rfl)) (fun _ _ _ h => h) (Or.inl ⟨by rfl, ?_⟩) ?_ ?_
                          rotate_left
                          · intro w'
                            go_simp
                            with_reducible rfl
                          rotate_left
                          · simp only [Act.put, List.setIfInBounds_toArray, List.set_cons_zero, List.set_cons_succ, i64_w, i32_w]
                            rfl
                          refine pure_ (i := 5) (N := some 66) (v := ?_) (a' := ?_) #[true, false, true, false, false, true, false, false, false, false, false] rfl rfl (any_of HT_.out (by kernel_rfl)) (fun _ _ _ h => h) (Or.inl ⟨by rfl, ?_⟩) ?_ ?_
                          rotate_left
                          · intro w'
                            go_simp
                            with_reducible rfl
                          rotate_left
                          · simp only [Act.put, List.setIfInBounds_toArray, List.set_cons_zero, List.set_cons_succ, i64_w, i32_w]
                            rfl
                          refine pure_ (i := 7) (N := some 68) (v := ?_) (a' := ?_) #[true, false, true, false, false, true, false, true, false, false, false] rfl rfl (any_of HT_.out (by kernel_rfl)) (fun _ _ _ h => h) (Or.inl ⟨by rfl, ?_⟩) ?_ ?_
                          rotate_left
                          · intro w'
                            go_simp
                            with_reducible rfl
                          rotate_left
                          · simp only [Act.put, List.setIfInBounds_toArray, List.set_cons_zero, List.set_cons_succ, i64_w, i32_w]
                            rfl
                          refine take_ (i := 1) (N := some 62) (v := ?_) (a' := ?_) #[true, true, true, false, false, true, false, true, false, false, false] rfl rfl (take_ofW HT_.out HW_.out (by kernel_rfl)) (fun _ _ _ h => h) (Or.inl ⟨by rfl, ?_⟩) hHeld ?_ ?_
                          rotate_left
                          · rintro w' ⟨s0, s1, s2, s3, s4, s5, s6, s7, s8, s9, s10, s11, s12, s13⟩
                            go_simp
                            with_reducible rfl
                          rotate_left
                          · simp only [Act.put, List.setIfInBounds_toArray, List.set_cons_zero, List.set_cons_succ, i64_w, i32_w]
                            rfl
                          refine pure_ (i := 3) (N := some 64) (v := ?_) (a' := ?_) #[true, true, true, true, false, true, false, true, false, false, false] rfl rfl (any_of HT_.out (by kernel_rfl)) (fun _ _ _ h => h) (Or.inl ⟨by rfl, ?_⟩) ?_ ?_
                          rotate_left
                          · intro w'
                            go_simp
                            with_reducible rfl
                          rotate_left
                          · simp only [Act.put, List.setIfInBounds_toArray, List.set_cons_zero, List.set_cons_succ, i64_w, i32_w]
                            rfl
                          refine take_ (i := 4) (N := some 65) (v := ?_) (a' := ?_) #[true, true, true, true, true, true, false, true, false, false, false] rfl rfl (take_ofW HT_.out HW_.out (by kernel_rfl)) (fun _ _ _ h => h) (Or.inl ⟨by rfl, ?_⟩) hHeld ?_ ?_
                          rotate_left
                          · rintro w' ⟨s0, s1, s2, s3, s4, s5, s6, s7, s8, s9, s10, s11, s12, s13⟩
                            go_simp
                            with_reducible rfl
                          rotate_left
                          · simp only [Act.put, List.setIfInBounds_toArray, List.set_cons_zero, List.set_cons_succ, i64_w, i32_w]
                            rfl
                          refine take_ (i := 6) (N := some 67) (v := ?_) (a' := ?_) #[true, true, true, true, true, true, true, true, false, false, false] rfl rfl (take_ofW HT_.out HW_.out (by kernel_rfl)) (fun _ _ _ h => h) (Or.inl ⟨by rfl, ?_⟩) hHeld ?_ ?_
                          rotate_left
                          · rintro w' ⟨s0, s1, s2, s3, s4, s5, s6, s7, s8, s9, s10, s11, s12, s13⟩
                            go_simp
                            with_reducible rfl
                          rotate_left
                          · simp only [Act.put, List.setIfInBounds_toArray, List.set_cons_zero, List.set_cons_succ, i64_w, i32_w]
                            rfl
                          refine pure_ (i := 8) (N := some 69) (v := ?_) (a' := ?_) #[true, true, true, true, true, true, true, true, true, false, false] rfl rfl (any_of HT_.out (by kernel_rfl)) (fun _ _ _ h => h) (Or.inl ⟨by rfl, ?_⟩) ?_ ?_
                          rotate_left
                          · intro w'
                            go_simp
                            with_reducible rfl
                          rotate_left
                          · simp only [Act.put, List.setIfInBounds_toArray, List.set_cons_zero, List.set_cons_succ, i64_w, i32_w]
                            rfl
                          refine take_ (i := 9) (N := some 70) (v := ?_) (a' := ?_) #[true, true, true, true, true, true, true, true, true, true, false] rfl rfl (take_ofW HT_.out HW_.out (by kernel_rfl)) (fun _ _ _ h => h) (Or.inl ⟨by rfl, ?_⟩) hHeld ?_ ?_
                          rotate_left
                          · rintro w' ⟨s0, s1, s2, s3, s4, s5, s6, s7, s8, s9, s10, s11, s12, s13⟩
                            go_simp
                            with_reducible rfl
                          rotate_left
                          · simp only [Act.put, List.setIfInBounds_toArray, List.set_cons_zero, List.set_cons_succ, i64_w, i32_w]
                            rfl
                          refine pure_ (i := 10) (N := some 71) (v := ?_) (a' := ?_) #[true, true, true, true, true, true, true, true, true, true, true] rfl rfl (any_of HT_.out (by kernel_rfl)) (fun _ _ _ h => h) (Or.inl ⟨by rfl, ?_⟩) ?_ ?_
                          rotate_left
                          · intro w'
                            go_simp
                            with_reducible rfl
                          rotate_left
                          · simp only [Act.put, List.setIfInBounds_toArray, List.set_cons_zero, List.set_cons_succ, i64_w, i32_w]
                            rfl
                          refine done_ (done_of HT_.out (by kernel_rfl)) ?_
                          try go_wp2
                          go_ret
                          exact ⟨by first | rfl | (simp [errW_none, errW_some] <;> rfl) | (simp [*, errW_none, errW_some] <;> rfl), by repeat (first | (with_reducible first | exact HB.out | apply below_alloc | apply pw_below_drewN | apply below_drew1 | refine below_set ?_ GE160.out | refine below_set ?_ GE161.out) | exact HB.out)⟩
                        · rw [if_neg c36] at H
                          have c36b0 : (!(((rd_T52 l0_1 x7_3).f0) == ((rd_T52 l1_1 x7_3).f0)) || (!(((rd_T52 l0_1 x7_3).f1) == ((rd_T52 l1_1 x7_3).f1)) || (!(((rd_T52 l0_1 x7_3).f2) == ((rd_T52 l1_1 x7_3).f2)) || (!((((rd_T52 l0_1 x7_3).f3).toList) == (((rd_T52 l1_1 x7_3).f3).toList)))))) = false := by simpa using c36
                          clear c36
                          have H' := Aside0.mk H
                          clear H
                          have hnb40 := NB160_161.out
                          have hnc40 := NB161_160.out
                          have hcz41_0 : wr.cell? ⟨gb160, 0, none⟩ = some (.slice A0_0 l0_0.length c0_0) := (blk_cell BK160.out 0).trans rfl
                          have hcz41_1 : wr.cell? ⟨gb160, 1, none⟩ = some (.slice A0_1 l0_1.length c0_1) := (blk_cell BK160.out 1).trans rfl
                          have hcz41_2 : wr.cell? ⟨gb160, 2, none⟩ = some (.slice A0_2 l0_2.length c0_2) := (blk_cell BK160.out 2).trans rfl
                          have hfz41_0 := blk_frozen BK160.out 0
                          have hfz41_1 := blk_frozen BK160.out 1
                          have hfz41_2 := blk_frozen BK160.out 2
                          try go_wp2
                          have n0_ := Aside0.mk (blk_drew BK160.out)
                          have n1_ := Aside0.mk (blk_drew BK161.out)
                          have n2_ := Aside0.mk (below_drew1 HB.out)
                          clear BK160
                          clear BK161
                          clear HB
                          have BK160 := n0_
                          have BK161 := n1_
                          have HB := n2_
                          clear n0_ n1_ n2_
                          have p165 : 0 ≤ (x7_3 : Int) := of_decide_eq_true (by first | (with_reducible assumption) | assumption)
                          have q165 : x7_3 < (l0_1.length : Int) := of_decide_eq_true (by first | (with_reducible assumption) | assumption)
                          obtain ⟨ad165, e165, hx165_0, hx165_1, hx165_2, hx165_3⟩ := at_T52 HR0_1.out x7_3 p165 q165
                          have hw165_3 := hx165_3
                          have hw165_2 := hx165_2
                          have hw165_1 := hx165_1
                          have hw165_0 := hx165_0
                          cases e165
                          replace hx165_0 := (HB.out.cell (World.block_lt_of_cell? w _ hx165_0)).trans hx165_0
                          replace hx165_1 := (HB.out.cell (World.block_lt_of_cell? w _ hx165_1)).trans hx165_1
                          replace hx165_2 := (HB.out.cell (World.block_lt_of_cell? w _ hx165_2)).trans hx165_2
                          replace hx165_3 := (HB.out.cell (World.block_lt_of_cell? w _ hx165_3)).trans hx165_3
                          replace p165 := eq_true p165
                          replace q165 := eq_true q165
                          have p166 : 0 ≤ (x7_3 : Int) := of_decide_eq_true (by first | (with_reducible assumption) | assumption)
                          have q166 : x7_3 < (l1_1.length : Int) := of_decide_eq_true (by first | (with_reducible assumption) | assumption)
                          obtain ⟨ad166, e166, hx166_0, hx166_1, hx166_2, hx166_3⟩ := at_T52 HR1_1.out x7_3 p166 q166
                          have hw166_3 := hx166_3
                          have hw166_2 := hx166_2
                          have hw166_1 := hx166_1
                          have hw166_0 := hx166_0
                          cases e166
                          replace hx166_0 := (HB.out.cell (World.block_lt_of_cell? w _ hx166_0)).trans hx166_0
                          replace hx166_1 := (HB.out.cell (World.block_lt_of_cell? w _ hx166_1)).trans hx166_1
                          replace hx166_2 := (HB.out.cell (World.block_lt_of_cell? w _ hx166_2)).trans hx166_2
                          replace hx166_3 := (HB.out.cell (World.block_lt_of_cell? w _ hx166_3)).trans hx166_3
                          replace p166 := eq_true p166
                          replace q166 := eq_true q166
                          refine start_ (n := 11) (S := fun w' => w'.cell? ⟨gb160, 0, none⟩ = some (.slice A0_0 l0_0.length c0_0) ∧ w'.cell? ⟨gb160, 1, none⟩ = some (.slice (some ad165) l0_1.length c0_1) ∧ w'.cell? ⟨gb160, 2, none⟩ = some (.slice A0_2 l0_2.length c0_2) ∧ w'.cell? ⟨gb161, 0, none⟩ = some (.slice A1_0 l1_0.length c1_0) ∧ w'.cell? ⟨gb161, 1, none⟩ = some (.slice (some ad166) l1_1.length c1_1) ∧ w'.cell? ⟨gb161, 2, none⟩ = some (.slice A1_2 l1_2.length c1_2) ∧ w'.cell? (ad165.add ((x7_3).toNat * 4)) = some (.int .i64 ((rd_T52 l0_1 x7_3).f0)) ∧ w'.cell? ⟨(ad165.add ((x7_3).toNat * 4)).block, (ad165.add ((x7_3).toNat * 4)).off + 1, none⟩ = some (.int .i64 ((rd_T52 l0_1 x7_3).f1)) ∧ w'.cell? ⟨(ad165.add ((x7_3).toNat * 4)).block, (ad165.add ((x7_3).toNat * 4)).off + 2, none⟩ = some (.int .i64 ((rd_T52 l0_1 x7_3).f2)) ∧ w'.cell? ⟨(ad165.add ((x7_3).toNat * 4)).block, (ad165.add ((x7_3).toNat * 4)).off + 3, none⟩ = some (.string ((rd_T52 l0_1 x7_3).f3)) ∧ w'.cell? (ad166.add ((x7_3).toNat * 4)) = some (.int .i64 ((rd_T52 l1_1 x7_3).f0)) ∧ w'.cell? ⟨(ad166.add ((x7_3).toNat * 4)).block, (ad166.add ((x7_3).toNat * 4)).off + 1, none⟩ = some (.int .i64 ((rd_T52 l1_1 x7_3).f1)) ∧ w'.cell? ⟨(ad166.add ((x7_3).toNat * 4)).block, (ad166.add ((x7_3).toNat * 4)).off + 2, none⟩ = some (.int .i64 ((rd_T52 l1_1 x7_3).f2)) ∧ w'.cell? ⟨(ad166.add ((x7_3).toNat * 4)).block, (ad166.add ((x7_3).toNat * 4)).off + 3, none⟩ = some (.string ((rd_T52 l1_1 x7_3).f3))) (ds := []) #[false, false, false, false, false, false, false, false, false, false, false] (by kernel_rfl) rfl rfl ⟨(blk_cell BK160.out 0).trans rfl, (blk_cell BK160.out 1).trans rfl, (blk_cell BK160.out 2).trans rfl, (blk_cell BK161.out 0).trans rfl, (blk_cell BK161.out 1).trans rfl, (blk_cell BK161.out 2).trans rfl, ((HB.out.cell (World.block_lt_of_cell? w _ hw165_0)).trans hw165_0), ((HB.out.cell (World.block_lt_of_cell? w _ hw165_1)).trans hw165_1), ((HB.out.cell (World.block_lt_of_cell? w _ hw165_2)).trans hw165_2), ((HB.out.cell (World.block_lt_of_cell? w _ hw165_3)).trans hw165_3), ((HB.out.cell (World.block_lt_of_cell? w _ hw166_0)).trans hw166_0), ((HB.out.cell (World.block_lt_of_cell? w _ hw166_1)).trans hw166_1), ((HB.out.cell (World.block_lt_of_cell? w _ hw166_2)).trans hw166_2), ((HB.out.cell (World.block_lt_of_cell? w _ hw166_3)).trans hw166_3)⟩ (fun hHeld => ?_); refine with_tabW scruplelaw09_Same.tab12 scruplelaw09_Same.bits12 (fun HT_ HW_ => ?_)
                          generalize wr.drew = w42 at BK160 BK161 HB hx165_0 hx165_1 hx165_2 hx165_3 hx166_0 hx166_1 hx166_2 hx166_3 hHeld ⊢
                          refine pure_ (i := 0) (N := some 61) (v := ?_) (a' := ?_) #[true, false, false, false, false, false, false, false, false, false, false] rfl rfl (any_of HT_.out (by kernel_rfl)) (fun _ _ _ h => h) (Or.inl ⟨by rfl, ?_⟩) ?_ ?_
                          rotate_left
                          · intro w'
                            go_simp
                            with_reducible rfl
                          rotate_left
                          · simp only [Act.put, List.setIfInBounds_toArray, List.set_cons_zero, List.set_cons_succ, i64_w, i32_w]
                            rfl
                          refine pure_ (i := 2) (N := some 63) (v := ?_) (a' := ?_) #[true, false, true, false, false, false, false, false, false, false, false] rfl rfl (any_of HT_.out (by kernel_rfl)) (fun _ _ _ h => h) (Or.inl ⟨by rfl, ?_⟩) ?_ ?_
                          rotate_left
                          · intro w'
                            go_simp
                            with_reducible rfl
                          rotate_left
                          · simp only [Act.put, List.setIfInBounds_toArray, List.set_cons_zero, List.set_cons_succ, i64_w, i32_w]
                            rfl
                          refine pure_ (i := 5) (N := some 66) (v := ?_) (a' := ?_) #[true, false, true, false, false, true, false, false, false, false, false] rfl rfl (any_of HT_.out (by kernel_rfl)) (fun _ _ _ h => h) (Or.inl ⟨by rfl, ?_⟩) ?_ ?_
                          rotate_left
                          · intro w'
                            go_simp
                            with_reducible rfl
                          rotate_left
                          · simp only [Act.put, List.setIfInBounds_toArray, List.set_cons_zero, List.set_cons_succ, i64_w, i32_w]
                            rfl
                          refine pure_ (i := 7) (N := some 68) (v := ?_) (a' := ?_) #[true, false, true, false, false, true, false, true, false, false, false] rfl rfl (any_of HT_.out (by kernel_rfl)) (fun _ _ _ h => h) (Or.inl ⟨by rfl, ?_⟩) ?_ ?_
                          rotate_left
                          · intro w'
                            go_simp
                            with_reducible rfl
                          rotate_left
                          · simp only [Act.put, List.setIfInBounds_toArray, List.set_cons_zero, List.set_cons_succ, i64_w, i32_w]
                            rfl
                          refine take_ (i := 1) (N := some 62) (v := ?_) (a' := ?_) #[true, true, true, false, false, true, false, true, false, false, false] rfl rfl (take_ofW HT_.out HW_.out (by kernel_rfl)) (fun _ _ _ h => h) (Or.inl ⟨by rfl, ?_⟩) hHeld ?_ ?_
                          rotate_left
                          · rintro w' ⟨s0, s1, s2, s3, s4, s5, s6, s7, s8, s9, s10, s11, s12, s13⟩
                            go_simp
                            with_reducible rfl
                          rotate_left
                          · simp only [Act.put, List.setIfInBounds_toArray, List.set_cons_zero, List.set_cons_succ, i64_w, i32_w]
                            rfl
                          refine pure_ (i := 3) (N := some 64) (v := ?_) (a' := ?_) #[true, true, true, true, false, true, false, true, false, false, false] rfl rfl (any_of HT_.out (by kernel_rfl)) (fun _ _ _ h => h) (Or.inl ⟨by rfl, ?_⟩) ?_ ?_
                          rotate_left
                          · intro w'
                            go_simp
                            with_reducible rfl
                          rotate_left
                          · simp only [Act.put, List.setIfInBounds_toArray, List.set_cons_zero, List.set_cons_succ, i64_w, i32_w]
                            rfl
                          refine take_ (i := 4) (N := some 65) (v := ?_) (a' := ?_) #[true, true, true, true, true, true, false, true, false, false, false] rfl rfl (take_ofW HT_.out HW_.out (by kernel_rfl)) (fun _ _ _ h => h) (Or.inl ⟨by rfl, ?_⟩) hHeld ?_ ?_
                          rotate_left
                          · rintro w' ⟨s0, s1, s2, s3, s4, s5, s6, s7, s8, s9, s10, s11, s12, s13⟩
                            go_simp
                            with_reducible rfl
                          rotate_left
                          · simp only [Act.put, List.setIfInBounds_toArray, List.set_cons_zero, List.set_cons_succ, i64_w, i32_w]
                            rfl
                          refine take_ (i := 6) (N := some 67) (v := ?_) (a' := ?_) #[true, true, true, true, true, true, true, true, false, false, false] rfl rfl (take_ofW HT_.out HW_.out (by kernel_rfl)) (fun _ _ _ h => h) (Or.inl ⟨by rfl, ?_⟩) hHeld ?_ ?_
                          rotate_left
                          · rintro w' ⟨s0, s1, s2, s3, s4, s5, s6, s7, s8, s9, s10, s11, s12, s13⟩
                            go_simp
                            with_reducible rfl
                          rotate_left
                          · simp only [Act.put, List.setIfInBounds_toArray, List.set_cons_zero, List.set_cons_succ, i64_w, i32_w]
                            rfl
                          refine pure_ (i := 8) (N := some 69) (v := ?_) (a' := ?_) #[true, true, true, true, true, true, true, true, true, false, false] rfl rfl (any_of HT_.out (by kernel_rfl)) (fun _ _ _ h => h) (Or.inl ⟨by rfl, ?_⟩) ?_ ?_
                          rotate_left
                          · intro w'
                            go_simp
                            with_reducible rfl
                          rotate_left
                          · simp only [Act.put, List.setIfInBounds_toArray, List.set_cons_zero, List.set_cons_succ, i64_w, i32_w]
                            rfl
                          refine take_ (i := 9) (N := some 70) (v := ?_) (a' := ?_) #[true, true, true, true, true, true, true, true, true, true, false] rfl rfl (take_ofW HT_.out HW_.out (by kernel_rfl)) (fun _ _ _ h => h) (Or.inl ⟨by rfl, ?_⟩) hHeld ?_ ?_
                          rotate_left
                          · rintro w' ⟨s0, s1, s2, s3, s4, s5, s6, s7, s8, s9, s10, s11, s12, s13⟩
                            go_simp
                            with_reducible rfl
                          rotate_left
                          · simp only [Act.put, List.setIfInBounds_toArray, List.set_cons_zero, List.set_cons_succ, i64_w, i32_w]
                            rfl
                          refine pure_ (i := 10) (N := some 71) (v := ?_) (a' := ?_) #[true, true, true, true, true, true, true, true, true, true, true] rfl rfl (any_of HT_.out (by kernel_rfl)) (fun _ _ _ h => h) (Or.inl ⟨by rfl, ?_⟩) ?_ ?_
                          rotate_left
                          · intro w'
                            go_simp
                            with_reducible rfl
                          rotate_left
                          · simp only [Act.put, List.setIfInBounds_toArray, List.set_cons_zero, List.set_cons_succ, i64_w, i32_w]
                            rfl
                          refine done_ (done_of HT_.out (by kernel_rfl)) ?_
                          try go_wp2
                          go_roundg k3
                          case measure => have := HJ2.out; have := HK2.out; have := HK3.out; omega
                          case rel => exact ⟨(wrap64 (x7_3 + 1)), (by first | rfl | (simp; done) | (simp [*]; done)), H', ⟨by have := HJ2.out; have := HK2.out; have := HK3.out; omega⟩, ⟨by (with_reducible repeat (first | refine blk_drewN ?_ _ | refine blk_drew ?_ | refine blk_alloc ?_ _)); exact BK160.out⟩, ⟨by (with_reducible repeat (first | refine blk_drewN ?_ _ | refine blk_drew ?_ | refine blk_alloc ?_ _)); exact BK161.out⟩, ⟨by repeat (first | (with_reducible first | exact HB.out | apply below_alloc | apply pw_below_drewN | apply below_drew1 | refine below_set ?_ GE160.out | refine below_set ?_ GE161.out) | exact HB.out)⟩⟩
                      · rw [if_neg c35] at H
                        exact absurd H (by simp)
                    · rw [if_neg c34] at H
                      exact absurd H (by simp)
                  · rw [if_neg c33] at H
                    have c33b0 : decide (x7_3 < (l0_1.length : Int)) = false := decide_eq_false c33
                    clear c33
                    have H' := Aside0.mk H
                    clear H
                    have hnb43 := NB160_161.out
                    have hnc43 := NB161_160.out
                    have hcz44_0 : wr.cell? ⟨gb160, 0, none⟩ = some (.slice A0_0 l0_0.length c0_0) := (blk_cell BK160.out 0).trans rfl
                    have hcz44_1 : wr.cell? ⟨gb160, 1, none⟩ = some (.slice A0_1 l0_1.length c0_1) := (blk_cell BK160.out 1).trans rfl
                    have hcz44_2 : wr.cell? ⟨gb160, 2, none⟩ = some (.slice A0_2 l0_2.length c0_2) := (blk_cell BK160.out 2).trans rfl
                    have hfz44_0 := blk_frozen BK160.out 0
                    have hfz44_1 := blk_frozen BK160.out 1
                    have hfz44_2 := blk_frozen BK160.out 2
                    go_wp2
                    go_loopg [8] k3 (fun kq v8 w' => ∃ (x8_4 : Int), v8 = .int .i64 x8_4 ∧ Aside0 (scruplelaw09_Same.l2 kq x8_4 l0_0 l0_1 l0_2 l1_0 l1_1 l1_2 = some r) ∧ Aside0 (kq ≤ k3) ∧ Aside0 (w'.heap[gb160]? = some (.cells #[(.slice A0_0 l0_0.length c0_0), (.slice A0_1 l0_1.length c0_1), (.slice A0_2 l0_2.length c0_2)] 27 (0, 0))) ∧ Aside0 (w'.heap[gb161]? = some (.cells #[(.slice A1_0 l1_0.length c1_0), (.slice A1_1 l1_1.length c1_1), (.slice A1_2 l1_2.length c1_2)] 27 (0, 0))) ∧ Aside0 (Below w.heap.size w w'))
                    case atStart => exact ⟨(0), (by first | rfl | (simp; done) | (simp [*]; done)), H', ⟨Nat.le_refl _⟩, ⟨by (with_reducible repeat (first | refine blk_drewN ?_ _ | refine blk_drew ?_ | refine blk_alloc ?_ _)); exact BK160.out⟩, ⟨by (with_reducible repeat (first | refine blk_drewN ?_ _ | refine blk_drew ?_ | refine blk_alloc ?_ _)); exact BK161.out⟩, ⟨by repeat (first | (with_reducible first | exact HB.out | apply below_alloc | apply pw_below_drewN | apply below_drew1 | refine below_set ?_ GE160.out | refine below_set ?_ GE161.out) | exact HB.out)⟩⟩
                    case round =>
                      clear H'
                      try clear c1
                      try clear p1
                      try clear q1
                      try clear hx1
                      try clear c2
                      try clear p2
                      try clear c3
                      try clear c4
                      try clear c6
                      try clear c6b0
                      try clear c6b1
                      try clear c6b2
                      try clear p6
                      try clear c7
                      try clear c7b0
                      try clear c7b1
                      try clear c7b2
                      try clear c8
                      try clear c11
                      try clear c13
                      try clear c14
                      try clear c16
                      try clear p16
                      try clear q16
                      try clear hx16
                      try clear c17
                      try clear c18
                      try clear c18b0
                      try clear c19
                      try clear c19b0
                      try clear c20
                      try clear c20b0
                      try clear c22
                      try clear c23
                      try clear c27
                      try clear c31
                      try clear c33
                      try clear c33b0
                      try clear c34
                      try clear c34b0
                      try clear c35
                      try clear c35b0
                      try clear c36
                      try clear c36b0
                      try clear c37
                      try clear c40
                      try clear c43
                      try clear hcz10_0
                      try clear hcz10_1
                      try clear hcz10_2
                      try clear hcz12_0
                      try clear hcz12_1
                      try clear hcz12_2
                      try clear hcz13_0
                      try clear hcz13_1
                      try clear hcz13_2
                      try clear hcz15_0
                      try clear hcz15_1
                      try clear hcz15_2
                      try clear hcz16_0
                      try clear hcz16_1
                      try clear hcz16_2
                      try clear hcz24_0
                      try clear hcz24_1
                      try clear hcz24_2
                      try clear hcz28_0
                      try clear hcz28_1
                      try clear hcz28_2
                      try clear hcz32_0
                      try clear hcz32_1
                      try clear hcz32_2
                      try clear hcz38_0
                      try clear hcz38_1
                      try clear hcz38_2
                      try clear hcz41_0
                      try clear hcz41_1
                      try clear hcz41_2
                      try clear hcz44_0
                      try clear hcz44_1
                      try clear hcz44_2
                      try clear hcz9_0
                      try clear hcz9_1
                      try clear hcz9_2
                      try clear hfz10_0
                      try clear hfz10_1
                      try clear hfz10_2
                      try clear hfz12_0
                      try clear hfz12_1
                      try clear hfz12_2
                      try clear hfz13_0
                      try clear hfz13_1
                      try clear hfz13_2
                      try clear hfz15_0
                      try clear hfz15_1
                      try clear hfz15_2
                      try clear hfz16_0
                      try clear hfz16_1
                      try clear hfz16_2
                      try clear hfz24_0
                      try clear hfz24_1
                      try clear hfz24_2
                      try clear hfz28_0
                      try clear hfz28_1
                      try clear hfz28_2
                      try clear hfz32_0
                      try clear hfz32_1
                      try clear hfz32_2
                      try clear hfz38_0
                      try clear hfz38_1
                      try clear hfz38_2
                      try clear hfz41_0
                      try clear hfz41_1
                      try clear hfz41_2
                      try clear hfz44_0
                      try clear hfz44_1
                      try clear hfz44_2
                      try clear hfz9_0
                      try clear hfz9_1
                      try clear hfz9_2
                      try clear hx162_0
                      try clear hx162_1
                      try clear hx162_2
                      try clear hx162_3
                      try clear hx162_4
                      try clear hx163_0
                      try clear hx163_1
                      try clear hx163_2
                      try clear hx163_3
                      try clear hx163_4
                      try clear hx165_0
                      try clear hx165_1
                      try clear hx165_2
                      try clear hx165_3
                      try clear hx166_0
                      try clear hx166_1
                      try clear hx166_2
                      try clear hx166_3
                      try clear p1
                      try clear p16
                      try clear p162
                      try clear p163
                      try clear p165
                      try clear p166
                      try clear p2
                      try clear p6
                      try clear q1
                      try clear q16
                      try clear q162
                      try clear q163
                      try clear q165
                      try clear q166
                      obtain ⟨x8_4, rfl, HA, HK4, BK160, BK161, HB⟩ := hrel
                      cases gk with
                      | zero => exact absurd HA.out (by simp [scruplelaw09_Same.l2])
                      | succ k4 =>
                        have H := HA.out
                        clear HA
                        simp only [scruplelaw09_Same.l2] at H
                        by_cases c45 : x8_4 < (l0_2.length : Int)
                        · rw [if_pos c45] at H
                          have c45b0 : decide (x8_4 < (l0_2.length : Int)) = true := decide_eq_true c45
                          clear c45
                          by_cases c46 : 0 ≤ x8_4
                          · rw [if_pos c46] at H
                            have c46b0 : decide (0 ≤ x8_4) = true := decide_eq_true c46
                            clear c46
                            by_cases c47 : x8_4 < (l1_2.length : Int)
                            · rw [if_pos c47] at H
                              have c47b0 : decide (x8_4 < (l1_2.length : Int)) = true := decide_eq_true c47
                              clear c47
                              by_cases c48 : (!((((rd_T56 l0_2 x8_4).f0).toList) == (((rd_T56 l1_2 x8_4).f0).toList)) || (!(((rd_T56 l0_2 x8_4).f1) == ((rd_T56 l1_2 x8_4).f1)))) = true
                              · rw [if_pos c48] at H
                                have c48b0 : (!((((rd_T56 l0_2 x8_4).f0).toList) == (((rd_T56 l1_2 x8_4).f0).toList)) || (!(((rd_T56 l0_2 x8_4).f1) == ((rd_T56 l1_2 x8_4).f1)))) = true := c48
                                clear c48
                                obtain rfl := Option.some.inj H
                                simp only [Option.some.injEq, Prod.mk.injEq] at H
                                obtain ⟨rfl⟩ := H
                                have hnb49 := NB160_161.out
                                have hnc49 := NB161_160.out
                                have hcz50_0 : wr.cell? ⟨gb160, 0, none⟩ = some (.slice A0_0 l0_0.length c0_0) := (blk_cell BK160.out 0).trans rfl
                                have hcz50_1 : wr.cell? ⟨gb160, 1, none⟩ = some (.slice A0_1 l0_1.length c0_1) := (blk_cell BK160.out 1).trans rfl
                                have hcz50_2 : wr.cell? ⟨gb160, 2, none⟩ = some (.slice A0_2 l0_2.length c0_2) := (blk_cell BK160.out 2).trans rfl
                                have hfz50_0 := blk_frozen BK160.out 0
                                have hfz50_1 := blk_frozen BK160.out 1
                                have hfz50_2 := blk_frozen BK160.out 2
                                try go_wp2
                                have n0_ := Aside0.mk (blk_drew BK160.out)
                                have n1_ := Aside0.mk (blk_drew BK161.out)
                                have n2_ := Aside0.mk (below_drew1 HB.out)
                                clear BK160
                                clear BK161
                                clear HB
                                have BK160 := n0_
                                have BK161 := n1_
                                have HB := n2_
                                clear n0_ n1_ n2_
                                have p167 : 0 ≤ (x8_4 : Int) := of_decide_eq_true (by first | (with_reducible assumption) | assumption)
                                have q167 : x8_4 < (l0_2.length : Int) := of_decide_eq_true (by first | (with_reducible assumption) | assumption)
                                obtain ⟨ad167, e167, hx167_0, hx167_1⟩ := at_T56 HR0_2.out x8_4 p167 q167
                                have hw167_1 := hx167_1
                                have hw167_0 := hx167_0
                                cases e167
                                replace hx167_0 := (HB.out.cell (World.block_lt_of_cell? w _ hx167_0)).trans hx167_0
                                replace hx167_1 := (HB.out.cell (World.block_lt_of_cell? w _ hx167_1)).trans hx167_1
                                replace p167 := eq_true p167
                                replace q167 := eq_true q167
                                have p168 : 0 ≤ (x8_4 : Int) := of_decide_eq_true (by first | (with_reducible assumption) | assumption)
                                have q168 : x8_4 < (l1_2.length : Int) := of_decide_eq_true (by first | (with_reducible assumption) | assumption)
                                obtain ⟨ad168, e168, hx168_0, hx168_1⟩ := at_T56 HR1_2.out x8_4 p168 q168
                                have hw168_1 := hx168_1
                                have hw168_0 := hx168_0
                                cases e168
                                replace hx168_0 := (HB.out.cell (World.block_lt_of_cell? w _ hx168_0)).trans hx168_0
                                replace hx168_1 := (HB.out.cell (World.block_lt_of_cell? w _ hx168_1)).trans hx168_1
                                replace p168 := eq_true p168
                                replace q168 := eq_true q168
                                refine start_ (n := 11) (S := fun w' => w'.cell? ⟨gb160, 0, none⟩ = some (.slice A0_0 l0_0.length c0_0) ∧ w'.cell? ⟨gb160, 1, none⟩ = some (.slice A0_1 l0_1.length c0_1) ∧ w'.cell? ⟨gb160, 2, none⟩ = some (.slice (some ad167) l0_2.length c0_2) ∧ w'.cell? ⟨gb161, 0, none⟩ = some (.slice A1_0 l1_0.length c1_0) ∧ w'.cell? ⟨gb161, 1, none⟩ = some (.slice A1_1 l1_1.length c1_1) ∧ w'.cell? ⟨gb161, 2, none⟩ = some (.slice (some ad168) l1_2.length c1_2) ∧ w'.cell? (ad167.add ((x8_4).toNat * 2)) = some (.string ((rd_T56 l0_2 x8_4).f0)) ∧ w'.cell? ⟨(ad167.add ((x8_4).toNat * 2)).block, (ad167.add ((x8_4).toNat * 2)).off + 1, none⟩ = some (.int .i64 ((rd_T56 l0_2 x8_4).f1)) ∧ w'.cell? (ad168.add ((x8_4).toNat * 2)) = some (.string ((rd_T56 l1_2 x8_4).f0)) ∧ w'.cell? ⟨(ad168.add ((x8_4).toNat * 2)).block, (ad168.add ((x8_4).toNat * 2)).off + 1, none⟩ = some (.int .i64 ((rd_T56 l1_2 x8_4).f1))) (ds := []) #[false, false, false, false, false, false, false, false, false, false, false] (by kernel_rfl) rfl rfl ⟨(blk_cell BK160.out 0).trans rfl, (blk_cell BK160.out 1).trans rfl, (blk_cell BK160.out 2).trans rfl, (blk_cell BK161.out 0).trans rfl, (blk_cell BK161.out 1).trans rfl, (blk_cell BK161.out 2).trans rfl, ((HB.out.cell (World.block_lt_of_cell? w _ hw167_0)).trans hw167_0), ((HB.out.cell (World.block_lt_of_cell? w _ hw167_1)).trans hw167_1), ((HB.out.cell (World.block_lt_of_cell? w _ hw168_0)).trans hw168_0), ((HB.out.cell (World.block_lt_of_cell? w _ hw168_1)).trans hw168_1)⟩ (fun hHeld => ?_); refine with_tabW scruplelaw09_Same.tab17 scruplelaw09_Same.bits17 (fun HT_ HW_ => ?_)
                                generalize wr.drew = w51 at BK160 BK161 HB hx167_0 hx167_1 hx168_0 hx168_1 hHeld ⊢
                                refine pure_ (i := 0) (N := some 79) (v := ?_) (a' := ?_) #[true, false, false, false, false, false, false, false, false, false, false] rfl rfl (any_of HT_.out (by kernel_rfl)) (fun _ _ _ h => h) (Or.inl ⟨by rfl, ?_⟩) ?_ ?_
                                rotate_left
                                · intro w'
                                  go_simp
                                  with_reducible rfl
                                rotate_left
                                · simp only [Act.put, List.setIfInBounds_toArray, List.set_cons_zero, List.set_cons_succ, i64_w, i32_w]
                                  rfl
                                refine pure_ (i := 2) (N := some 81) (v := ?_) (a' := ?_) #[true, false, true, false, false, false, false, false, false, false, false] rfl rfl (any_of HT_.out (by kernel_rfl)) (fun _ _ _ h => h) (Or.inl ⟨by rfl, ?_⟩) ?_ ?_
                                rotate_left
                                · intro w'
                                  go_simp
                                  with_reducible rfl
                                rotate_left
                                · simp only [Act.put, List.setIfInBounds_toArray, List.set_cons_zero, List.set_cons_succ, i64_w, i32_w]
                                  rfl
                                refine pure_ (i := 5) (N := some 84) (v := ?_) (a' := ?_) #[true, false, true, false, false, true, false, false, false, false, false] rfl rfl (any_of HT_.out (by kernel_rfl)) (fun _ _ _ h => h) (Or.inl ⟨by rfl, ?_⟩) ?_ ?_
                                rotate_left
                                · intro w'
                                  go_simp
                                  with_reducible rfl
                                rotate_left
                                · simp only [Act.put, List.setIfInBounds_toArray, List.set_cons_zero, List.set_cons_succ, i64_w, i32_w]
                                  rfl
                                refine pure_ (i := 7) (N := some 86) (v := ?_) (a' := ?_) #[true, false, true, false, false, true, false, true, false, false, false] rfl rfl (any_of HT_.out (by kernel_rfl)) (fun _ _ _ h => h) (Or.inl ⟨by rfl, ?_⟩) ?_ ?_
                                rotate_left
                                · intro w'
                                  go_simp
                                  with_reducible rfl
                                rotate_left
                                · simp only [Act.put, List.setIfInBounds_toArray, List.set_cons_zero, List.set_cons_succ, i64_w, i32_w]
                                  rfl
                                refine take_ (i := 1) (N := some 80) (v := ?_) (a' := ?_) #[true, true, true, false, false, true, false, true, false, false, false] rfl rfl (take_ofW HT_.out HW_.out (by kernel_rfl)) (fun _ _ _ h => h) (Or.inl ⟨by rfl, ?_⟩) hHeld ?_ ?_
                                rotate_left
                                · rintro w' ⟨s0, s1, s2, s3, s4, s5, s6, s7, s8, s9⟩
                                  go_simp
                                  with_reducible rfl
                                rotate_left
                                · simp only [Act.put, List.setIfInBounds_toArray, List.set_cons_zero, List.set_cons_succ, i64_w, i32_w]
                                  rfl
                                refine pure_ (i := 3) (N := some 82) (v := ?_) (a' := ?_) #[true, true, true, true, false, true, false, true, false, false, false] rfl rfl (any_of HT_.out (by kernel_rfl)) (fun _ _ _ h => h) (Or.inl ⟨by rfl, ?_⟩) ?_ ?_
                                rotate_left
                                · intro w'
                                  go_simp
                                  with_reducible rfl
                                rotate_left
                                · simp only [Act.put, List.setIfInBounds_toArray, List.set_cons_zero, List.set_cons_succ, i64_w, i32_w]
                                  rfl
                                refine take_ (i := 4) (N := some 83) (v := ?_) (a' := ?_) #[true, true, true, true, true, true, false, true, false, false, false] rfl rfl (take_ofW HT_.out HW_.out (by kernel_rfl)) (fun _ _ _ h => h) (Or.inl ⟨by rfl, ?_⟩) hHeld ?_ ?_
                                rotate_left
                                · rintro w' ⟨s0, s1, s2, s3, s4, s5, s6, s7, s8, s9⟩
                                  go_simp
                                  with_reducible rfl
                                rotate_left
                                · simp only [Act.put, List.setIfInBounds_toArray, List.set_cons_zero, List.set_cons_succ, i64_w, i32_w]
                                  rfl
                                refine take_ (i := 6) (N := some 85) (v := ?_) (a' := ?_) #[true, true, true, true, true, true, true, true, false, false, false] rfl rfl (take_ofW HT_.out HW_.out (by kernel_rfl)) (fun _ _ _ h => h) (Or.inl ⟨by rfl, ?_⟩) hHeld ?_ ?_
                                rotate_left
                                · rintro w' ⟨s0, s1, s2, s3, s4, s5, s6, s7, s8, s9⟩
                                  go_simp
                                  with_reducible rfl
                                rotate_left
                                · simp only [Act.put, List.setIfInBounds_toArray, List.set_cons_zero, List.set_cons_succ, i64_w, i32_w]
                                  rfl
                                refine pure_ (i := 8) (N := some 87) (v := ?_) (a' := ?_) #[true, true, true, true, true, true, true, true, true, false, false] rfl rfl (any_of HT_.out (by kernel_rfl)) (fun _ _ _ h => h) (Or.inl ⟨by rfl, ?_⟩) ?_ ?_
                                rotate_left
                                · intro w'
                                  go_simp
                                  with_reducible rfl
                                rotate_left
                                · simp only [Act.put, List.setIfInBounds_toArray, List.set_cons_zero, List.set_cons_succ, i64_w, i32_w]
                                  rfl
                                refine take_ (i := 9) (N := some 88) (v := ?_) (a' := ?_) #[true, true, true, true, true, true, true, true, true, true, false] rfl rfl (take_ofW HT_.out HW_.out (by kernel_rfl)) (fun _ _ _ h => h) (Or.inl ⟨by rfl, ?_⟩) hHeld ?_ ?_
                                rotate_left
                                · rintro w' ⟨s0, s1, s2, s3, s4, s5, s6, s7, s8, s9⟩
                                  go_simp
                                  with_reducible rfl
                                rotate_left
                                · simp only [Act.put, List.setIfInBounds_toArray, List.set_cons_zero, List.set_cons_succ, i64_w, i32_w]
                                  rfl
                                refine pure_ (i := 10) (N := some 89) (v := ?_) (a' := ?_) #[true, true, true, true, true, true, true, true, true, true, true] rfl rfl (any_of HT_.out (by kernel_rfl)) (fun _ _ _ h => h) (Or.inl ⟨by rfl, ?_⟩) ?_ ?_
                                rotate_left
                                · intro w'
                                  go_simp
                                  with_reducible rfl
                                rotate_left
                                · simp only [Act.put, List.setIfInBounds_toArray, List.set_cons_zero, List.set_cons_succ, i64_w, i32_w]
                                  rfl
                                refine done_ (done_of HT_.out (by kernel_rfl)) ?_
                                try go_wp2
                                go_ret
                                exact ⟨by first | rfl | (simp [errW_none, errW_some] <;> rfl) | (simp [*, errW_none, errW_some] <;> rfl), by repeat (first | (with_reducible first | exact HB.out | apply below_alloc | apply pw_below_drewN | apply below_drew1 | refine below_set ?_ GE160.out | refine below_set ?_ GE161.out) | exact HB.out)⟩
                              · rw [if_neg c48] at H
                                have c48b0 : (!((((rd_T56 l0_2 x8_4).f0).toList) == (((rd_T56 l1_2 x8_4).f0).toList)) || (!(((rd_T56 l0_2 x8_4).f1) == ((rd_T56 l1_2 x8_4).f1)))) = false := by simpa using c48
                                clear c48
                                have H' := Aside0.mk H
                                clear H
                                have hnb52 := NB160_161.out
                                have hnc52 := NB161_160.out
                                have hcz53_0 : wr.cell? ⟨gb160, 0, none⟩ = some (.slice A0_0 l0_0.length c0_0) := (blk_cell BK160.out 0).trans rfl
                                have hcz53_1 : wr.cell? ⟨gb160, 1, none⟩ = some (.slice A0_1 l0_1.length c0_1) := (blk_cell BK160.out 1).trans rfl
                                have hcz53_2 : wr.cell? ⟨gb160, 2, none⟩ = some (.slice A0_2 l0_2.length c0_2) := (blk_cell BK160.out 2).trans rfl
                                have hfz53_0 := blk_frozen BK160.out 0
                                have hfz53_1 := blk_frozen BK160.out 1
                                have hfz53_2 := blk_frozen BK160.out 2
                                try go_wp2
                                have n0_ := Aside0.mk (blk_drew BK160.out)
                                have n1_ := Aside0.mk (blk_drew BK161.out)
                                have n2_ := Aside0.mk (below_drew1 HB.out)
                                clear BK160
                                clear BK161
                                clear HB
                                have BK160 := n0_
                                have BK161 := n1_
                                have HB := n2_
                                clear n0_ n1_ n2_
                                have p167 : 0 ≤ (x8_4 : Int) := of_decide_eq_true (by first | (with_reducible assumption) | assumption)
                                have q167 : x8_4 < (l0_2.length : Int) := of_decide_eq_true (by first | (with_reducible assumption) | assumption)
                                obtain ⟨ad167, e167, hx167_0, hx167_1⟩ := at_T56 HR0_2.out x8_4 p167 q167
                                have hw167_1 := hx167_1
                                have hw167_0 := hx167_0
                                cases e167
                                replace hx167_0 := (HB.out.cell (World.block_lt_of_cell? w _ hx167_0)).trans hx167_0
                                replace hx167_1 := (HB.out.cell (World.block_lt_of_cell? w _ hx167_1)).trans hx167_1
                                replace p167 := eq_true p167
                                replace q167 := eq_true q167
                                have p168 : 0 ≤ (x8_4 : Int) := of_decide_eq_true (by first | (with_reducible assumption) | assumption)
                                have q168 : x8_4 < (l1_2.length : Int) := of_decide_eq_true (by first | (with_reducible assumption) | assumption)
                                obtain ⟨ad168, e168, hx168_0, hx168_1⟩ := at_T56 HR1_2.out x8_4 p168 q168
                                have hw168_1 := hx168_1
                                have hw168_0 := hx168_0
                                cases e168
                                replace hx168_0 := (HB.out.cell (World.block_lt_of_cell? w _ hx168_0)).trans hx168_0
                                replace hx168_1 := (HB.out.cell (World.block_lt_of_cell? w _ hx168_1)).trans hx168_1
                                replace p168 := eq_true p168
                                replace q168 := eq_true q168
                                refine start_ (n := 11) (S := fun w' => w'.cell? ⟨gb160, 0, none⟩ = some (.slice A0_0 l0_0.length c0_0) ∧ w'.cell? ⟨gb160, 1, none⟩ = some (.slice A0_1 l0_1.length c0_1) ∧ w'.cell? ⟨gb160, 2, none⟩ = some (.slice (some ad167) l0_2.length c0_2) ∧ w'.cell? ⟨gb161, 0, none⟩ = some (.slice A1_0 l1_0.length c1_0) ∧ w'.cell? ⟨gb161, 1, none⟩ = some (.slice A1_1 l1_1.length c1_1) ∧ w'.cell? ⟨gb161, 2, none⟩ = some (.slice (some ad168) l1_2.length c1_2) ∧ w'.cell? (ad167.add ((x8_4).toNat * 2)) = some (.string ((rd_T56 l0_2 x8_4).f0)) ∧ w'.cell? ⟨(ad167.add ((x8_4).toNat * 2)).block, (ad167.add ((x8_4).toNat * 2)).off + 1, none⟩ = some (.int .i64 ((rd_T56 l0_2 x8_4).f1)) ∧ w'.cell? (ad168.add ((x8_4).toNat * 2)) = some (.string ((rd_T56 l1_2 x8_4).f0)) ∧ w'.cell? ⟨(ad168.add ((x8_4).toNat * 2)).block, (ad168.add ((x8_4).toNat * 2)).off + 1, none⟩ = some (.int .i64 ((rd_T56 l1_2 x8_4).f1))) (ds := []) #[false, false, false, false, false, false, false, false, false, false, false] (by kernel_rfl) rfl rfl ⟨(blk_cell BK160.out 0).trans rfl, (blk_cell BK160.out 1).trans rfl, (blk_cell BK160.out 2).trans rfl, (blk_cell BK161.out 0).trans rfl, (blk_cell BK161.out 1).trans rfl, (blk_cell BK161.out 2).trans rfl, ((HB.out.cell (World.block_lt_of_cell? w _ hw167_0)).trans hw167_0), ((HB.out.cell (World.block_lt_of_cell? w _ hw167_1)).trans hw167_1), ((HB.out.cell (World.block_lt_of_cell? w _ hw168_0)).trans hw168_0), ((HB.out.cell (World.block_lt_of_cell? w _ hw168_1)).trans hw168_1)⟩ (fun hHeld => ?_); refine with_tabW scruplelaw09_Same.tab17 scruplelaw09_Same.bits17 (fun HT_ HW_ => ?_)
                                generalize wr.drew = w54 at BK160 BK161 HB hx167_0 hx167_1 hx168_0 hx168_1 hHeld ⊢
                                refine pure_ (i := 0) (N := some 79) (v := ?_) (a' := ?_) #[true, false, false, false, false, false, false, false, false, false, false] rfl rfl (any_of HT_.out (by kernel_rfl)) (fun _ _ _ h => h) (Or.inl ⟨by rfl, ?_⟩) ?_ ?_
                                rotate_left
                                · intro w'
                                  go_simp
                                  with_reducible rfl
                                rotate_left
                                · simp only [Act.put, List.setIfInBounds_toArray, List.set_cons_zero, List.set_cons_succ, i64_w, i32_w]
                                  rfl
                                refine pure_ (i := 2) (N := some 81) (v := ?_) (a' := ?_) #[true, false, true, false, false, false, false, false, false, false, false] rfl rfl (any_of HT_.out (by kernel_rfl)) (fun _ _ _ h => h) (Or.inl ⟨by rfl, ?_⟩) ?_ ?_
                                rotate_left
                                · intro w'
                                  go_simp
                                  with_reducible rfl
                                rotate_left
                                · simp only [Act.put, List.setIfInBounds_toArray, List.set_cons_zero, List.set_cons_succ, i64_w, i32_w]
                                  rfl
                                refine pure_ (i := 5) (N := some 84) (v := ?_) (a' := ?_) #[true, false, true, false, false, true, false, false, false, false, false] rfl rfl (any_of HT_.out (by kernel_rfl)) (fun _ _ _ h => h) (Or.inl ⟨by rfl, ?_⟩) ?_ ?_
                                rotate_left
                                · intro w'
                                  go_simp
                                  with_reducible rfl
                                rotate_left
                                · simp only [Act.put, List.setIfInBounds_toArray, List.set_cons_zero, List.set_cons_succ, i64_w, i32_w]
                                  rfl
                                refine pure_ (i := 7) (N := some 86) (v := ?_) (a' := ?_) #[true, false, true, false, false, true, false, true, false, false, false] rfl rfl (any_of HT_.out (by kernel_rfl)) (fun _ _ _ h => h) (Or.inl ⟨by rfl, ?_⟩) ?_ ?_
                                rotate_left
                                · intro w'
                                  go_simp
                                  with_reducible rfl
                                rotate_left
                                · simp only [Act.put, List.setIfInBounds_toArray, List.set_cons_zero, List.set_cons_succ, i64_w, i32_w]
                                  rfl
                                refine take_ (i := 1) (N := some 80) (v := ?_) (a' := ?_) #[true, true, true, false, false, true, false, true, false, false, false] rfl rfl (take_ofW HT_.out HW_.out (by kernel_rfl)) (fun _ _ _ h => h) (Or.inl ⟨by rfl, ?_⟩) hHeld ?_ ?_
                                rotate_left
                                · rintro w' ⟨s0, s1, s2, s3, s4, s5, s6, s7, s8, s9⟩
                                  go_simp
                                  with_reducible rfl
                                rotate_left
                                · simp only [Act.put, List.setIfInBounds_toArray, List.set_cons_zero, List.set_cons_succ, i64_w, i32_w]
                                  rfl
                                refine pure_ (i := 3) (N := some 82) (v := ?_) (a' := ?_) #[true, true, true, true, false, true, false, true, false, false, false] rfl rfl (any_of HT_.out (by kernel_rfl)) (fun _ _ _ h => h) (Or.inl ⟨by rfl, ?_⟩) ?_ ?_
                                rotate_left
                                · intro w'
                                  go_simp
                                  with_reducible rfl
                                rotate_left
                                · simp only [Act.put, List.setIfInBounds_toArray, List.set_cons_zero, List.set_cons_succ, i64_w, i32_w]
                                  rfl
                                refine take_ (i := 4) (N := some 83) (v := ?_) (a' := ?_) #[true, true, true, true, true, true, false, true, false, false, false] rfl rfl (take_ofW HT_.out HW_.out (by kernel_rfl)) (fun _ _ _ h => h) (Or.inl ⟨by rfl, ?_⟩) hHeld ?_ ?_
                                rotate_left
                                · rintro w' ⟨s0, s1, s2, s3, s4, s5, s6, s7, s8, s9⟩
                                  go_simp
                                  with_reducible rfl
                                rotate_left
                                · simp only [Act.put, List.setIfInBounds_toArray, List.set_cons_zero, List.set_cons_succ, i64_w, i32_w]
                                  rfl
                                refine take_ (i := 6) (N := some 85) (v := ?_) (a' := ?_) #[true, true, true, true, true, true, true, true, false, false, false] rfl rfl (take_ofW HT_.out HW_.out (by kernel_rfl)) (fun _ _ _ h => h) (Or.inl ⟨by rfl, ?_⟩) hHeld ?_ ?_
                                rotate_left
                                · rintro w' ⟨s0, s1, s2, s3, s4, s5, s6, s7, s8, s9⟩
                                  go_simp
                                  with_reducible rfl
                                rotate_left
                                · simp only [Act.put, List.setIfInBounds_toArray, List.set_cons_zero, List.set_cons_succ, i64_w, i32_w]
                                  rfl
                                refine pure_ (i := 8) (N := some 87) (v := ?_) (a' := ?_) #[true, true, true, true, true, true, true, true, true, false, false] rfl rfl (any_of HT_.out (by kernel_rfl)) (fun _ _ _ h => h) (Or.inl ⟨by rfl, ?_⟩) ?_ ?_
                                rotate_left
                                · intro w'
                                  go_simp
                                  with_reducible rfl
                                rotate_left
                                · simp only [Act.put, List.setIfInBounds_toArray, List.set_cons_zero, List.set_cons_succ, i64_w, i32_w]
                                  rfl
                                refine take_ (i := 9) (N := some 88) (v := ?_) (a' := ?_) #[true, true, true, true, true, true, true, true, true, true, false] rfl rfl (take_ofW HT_.out HW_.out (by kernel_rfl)) (fun _ _ _ h => h) (Or.inl ⟨by rfl, ?_⟩) hHeld ?_ ?_
                                rotate_left
                                · rintro w' ⟨s0, s1, s2, s3, s4, s5, s6, s7, s8, s9⟩
                                  go_simp
                                  with_reducible rfl
                                rotate_left
                                · simp only [Act.put, List.setIfInBounds_toArray, List.set_cons_zero, List.set_cons_succ, i64_w, i32_w]
                                  rfl
                                refine pure_ (i := 10) (N := some 89) (v := ?_) (a' := ?_) #[true, true, true, true, true, true, true, true, true, true, true] rfl rfl (any_of HT_.out (by kernel_rfl)) (fun _ _ _ h => h) (Or.inl ⟨by rfl, ?_⟩) ?_ ?_
                                rotate_left
                                · intro w'
                                  go_simp
                                  with_reducible rfl
                                rotate_left
                                · simp only [Act.put, List.setIfInBounds_toArray, List.set_cons_zero, List.set_cons_succ, i64_w, i32_w]
                                  rfl
                                refine done_ (done_of HT_.out (by kernel_rfl)) ?_
                                try go_wp2
                                go_roundg k4
                                case measure => have := HJ2.out; have := HK2.out; have := HK3.out; have := HK4.out; omega
                                case rel => exact ⟨(wrap64 (x8_4 + 1)), (by first | rfl | (simp; done) | (simp [*]; done)), H', ⟨by have := HJ2.out; have := HK2.out; have := HK3.out; have := HK4.out; omega⟩, ⟨by (with_reducible repeat (first | refine blk_drewN ?_ _ | refine blk_drew ?_ | refine blk_alloc ?_ _)); exact BK160.out⟩, ⟨by (with_reducible repeat (first | refine blk_drewN ?_ _ | refine blk_drew ?_ | refine blk_alloc ?_ _)); exact BK161.out⟩, ⟨by repeat (first | (with_reducible first | exact HB.out | apply below_alloc | apply pw_below_drewN | apply below_drew1 | refine below_set ?_ GE160.out | refine below_set ?_ GE161.out) | exact HB.out)⟩⟩
                            · rw [if_neg c47] at H
                              exact absurd H (by simp)
                          · rw [if_neg c46] at H
                            exact absurd H (by simp)
                        · rw [if_neg c45] at H
                          have c45b0 : decide (x8_4 < (l0_2.length : Int)) = false := decide_eq_false c45
                          clear c45
                          obtain rfl := Option.some.inj H
                          simp only [Option.some.injEq, Prod.mk.injEq] at H
                          obtain ⟨rfl⟩ := H
                          have hnb55 := NB160_161.out
                          have hnc55 := NB161_160.out
                          have hcz56_0 : wr.cell? ⟨gb160, 0, none⟩ = some (.slice A0_0 l0_0.length c0_0) := (blk_cell BK160.out 0).trans rfl
                          have hcz56_1 : wr.cell? ⟨gb160, 1, none⟩ = some (.slice A0_1 l0_1.length c0_1) := (blk_cell BK160.out 1).trans rfl
                          have hcz56_2 : wr.cell? ⟨gb160, 2, none⟩ = some (.slice A0_2 l0_2.length c0_2) := (blk_cell BK160.out 2).trans rfl
                          have hfz56_0 := blk_frozen BK160.out 0
                          have hfz56_1 := blk_frozen BK160.out 1
                          have hfz56_2 := blk_frozen BK160.out 2
                          go_wp2
                          go_ret
                          exact ⟨by first | rfl | (simp [errW_none, errW_some] <;> rfl) | (simp [*, errW_none, errW_some] <;> rfl), by repeat (first | (with_reducible first | exact HB.out | apply below_alloc | apply pw_below_drewN | apply below_drew1 | refine below_set ?_ GE160.out | refine below_set ?_ GE161.out) | exact HB.out)⟩
end Go.Proofs.Ytmehfnikecmiiaa.X
