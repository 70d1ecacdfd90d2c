/- XLawDoes: walks by hand, for the claim. -/
import Derived.Test.YtgpmkljklkmipaaXx0
import Derived.Test.YtgpmkljklkmipaaXWords
import Derived.Lib.SmallJoins
import Derived.ChangeSlices
import Derived.ChangeShapes
import Derived.RangeFuncMany
import Derived.Laws.Pointers
import Derived.Shelf.Abstract
import Derived.Lib.SliceRun
import Derived.RangeFuncFrom
import Derived.RangeFuncWrites
import Derived.RangeFuncBox
import Derived.RangeFuncLeaves
import Derived.OwnWalkIn
import Derived.TacticsInMore
import Derived.LoopNIn
import Derived.LoopIn
import Derived.Deep.DeepMust
import Derived.Deep.QuietTactic
import Derived.BigQuiet
import Derived.Test.YtgpmkljklkmipaaXDoes
set_option linter.unusedVariables false
set_option linter.unusedSimpArgs false
namespace Go.Proofs.Ytgpmkljklkmipaa.X
open Go.RowKit Go.Proofs.YtgpmkljklkmipaaW.PrintWords Go.Proofs.YtgpmkljklkmipaaW.PrintLast Go.Proofs.YtgpmkljklkmipaaW.PrintMore Go.Proofs.YtgpmkljklkmipaaW
section
set_option maxHeartbeats 4000000
set_option maxRecDepth 100000
attribute [local go_sem high] it.eqn1
/-- A step of a script. -/
structure S60 where
  f0 : Int
  f1 : Int
  f2 : Int
  f3 : Int
def z60 : S60 := ⟨0, 0, 0, 0⟩
def k60 : Kd S60 := Kd.iso (Kd.pair (Kd.int .i64) (Kd.pair (Kd.int .i64) (Kd.pair (Kd.int .i64) (Kd.int .i64)))) (fun x : S60 => (x.f0, x.f1, x.f2, x.f3))
theorem k60_open {w : World} {x : S60} {cs : List Value} (h : k60.K w x cs) : cs = [.int .i64 x.f0, .int .i64 x.f1, .int .i64 x.f2, .int .i64 x.f3] := by
  obtain ⟨_, _, rfl, rfl, _, _, rfl, rfl, _, _, rfl, rfl, rfl⟩ := h
  exact rfl
theorem k60_mk (w : World) (x : S60) : k60.K w x [.int .i64 x.f0, .int .i64 x.f1, .int .i64 x.f2, .int .i64 x.f3] := ⟨[.int .i64 x.f0], _, rfl, rfl, [.int .i64 x.f1], _, rfl, rfl, [.int .i64 x.f2], _, rfl, rfl, rfl⟩
theorem el60 {H : Type} {enc : TypeId × Value → H} {w : World} {held : Bool} {spare : Nat → Bool} : ∀ n cs (y : DataW H × List MemPlace), DataW.trod enc Try.prog w 0 spare held n 60 cs = some y → ∃ x, k60.K w x cs ∧ True := fun n cs y hy => by
  obtain ⟨xs, n, rfl, rfl, hl, hxs, hf⟩ := DataW.trod_struct Try.underlying60 hy
  have hl4 : cs.length = 4 := hl
  obtain ⟨c0, c1, c2, c3, rfl⟩ : ∃ c0 c1 c2 c3, cs = [c0, c1, c2, c3] := by
    match cs, hl4 with
    | [c0, c1, c2, c3], _ => exact ⟨c0, c1, c2, c3, rfl⟩
  have hx : xs.length = 4 := hxs
  obtain ⟨y0, y1, y2, y3, rfl⟩ : ∃ c0 c1 c2 c3, xs = [c0, c1, c2, c3] := by
    match xs, hx with
    | [c0, c1, c2, c3], _ => exact ⟨c0, c1, c2, c3, rfl⟩
  have e0 : DataW.trod enc Try.prog w 0 spare held n 3 [c0] = some y0 := hf 0 _ rfl
  have e1 : DataW.trod enc Try.prog w 0 spare held n 3 [c1] = some y1 := hf 1 _ rfl
  have e2 : DataW.trod enc Try.prog w 0 spare held n 3 [c2] = some y2 := hf 2 _ rfl
  have e3 : DataW.trod enc Try.prog w 0 spare held n 3 [c3] = some y3 := hf 3 _ rfl
  obtain ⟨n0, p0, _, w0⟩ := DataW.trod_int Try.underlying3 e0
  obtain ⟨n1, p1, _, w1⟩ := DataW.trod_int Try.underlying3 e1
  obtain ⟨n2, p2, _, w2⟩ := DataW.trod_int Try.underlying3 e2
  obtain ⟨n3, p3, _, w3⟩ := DataW.trod_int Try.underlying3 e3
  cases p0; cases p1; cases p2; cases p3
  exact ⟨⟨n0, n1, n2, n3⟩, k60_mk w ⟨n0, n1, n2, n3⟩, trivial⟩
def rd_T60 (xs : List S60) (i : Int) : S60 := xs.getD i.toNat z60
theorem at_T60 {w : World} {A : Option Addr} {n : Nat} {xs : List S60} (h : Kd.C k60 w A n xs) (i : Int) (h0 : 0 ≤ i) (h1 : i < n) : ∃ ad, A = some ad ∧ w.cell? (ad.add (i.toNat * 4)) = some (.int .i64 (rd_T60 xs i).f0) ∧ w.cell? ⟨(ad.add (i.toNat * 4)).block, (ad.add (i.toNat * 4)).off + 1, none⟩ = some (.int .i64 (rd_T60 xs i).f1) ∧
    w.cell? ⟨(ad.add (i.toNat * 4)).block, (ad.add (i.toNat * 4)).off + 2, none⟩ = some (.int .i64 (rd_T60 xs i).f2) ∧ w.cell? ⟨(ad.add (i.toNat * 4)).block, (ad.add (i.toNat * 4)).off + 3, none⟩ = some (.int .i64 (rd_T60 xs i).f3) := by
  obtain ⟨ad, c, e, _, hK, hc0⟩ := Kd.C_get h z60 i h0 h1
  have hc : ∀ j u, c[j]? = some u → w.cell? (ad.add (i.toNat * 4 + j)) = some u := hc0
  obtain rfl := k60_open hK
  exact ⟨ad, e, hc 0 _ rfl, by rw [← add_field _ _ 1 (by omega)]; exact hc 1 _ rfl, by rw [← add_field _ _ 2 (by omega)]; exact hc 2 _ rfl, by rw [← add_field _ _ 3 (by omega)]; exact hc 3 _ rfl⟩
/-- A script is played. -/
theorem played1 {w0 w : World} (hB : Below w0.heap.size w0 w) (xs : List S60) (A : Option Addr) (c : Nat) (hC : k60.C w0 A xs.length xs) (hl : xs.length * 32 ≤ 140737488351232) :
    Calls Try.prog 14 #[.slice A xs.length c] w fun e w' => ∃ (v' : Value) (ps' : List (Nat × List S80)), e = .returned (.tuple #[v', .bool true]) ∧ St w' w0.heap.size xs.length v' ps' ∧ Below w0.heap.size w0 w' ∧ FrT (.slice none 0 0) v' w w' := by
  have HB := Aside0.mk hB
  have HK := Aside0.mk hC
  have HL := Aside0.mk hl
  have hu60 := Try.underlying60
  clear hB hC hl
  go_enter Try.func14, Try.ntmps14
  go_wp2_with (first | (go_at_call 24; refine (it.new1 _).mono ?_; rintro e_ w1 ⟨g1, rfl, h1, h2, hb⟩; have HT1 := Aside0.mk (it.tab0 (base := w0.heap.size) h1); have HG1 := Aside0.mk (Nat.le_trans HB.out.size h2); have HW1 := Aside0.mk hb; have HB1 := Aside0.mk (below_then HB.out HB.out.size hb); clear h1 h2 hb) | ((with_reducible refine gate_dst (N := 14) rfl ?_); go_must (refine Kd.R_lit kp (w0 := w0) w0.heap.size 42 ?hg (N := 14) ?hd (xs := [((g1, []) : Nat × List S50)]) (inner := [.pointer (some ⟨g1, 0, none⟩), .slice none 0 0]) (ok := fun _ => True) (okp := fun _ => True) ?hr ?hp (fun _ hk => hk) trivial HB1.out HB1.out.size (by simp) ?_); (case hd => rfl); (case hg => rfl); go_must ((case hr => first | (go_simp; done) | (go_simp; rfl))); go_must ((case hp => exact (Reps.c2 (kp_mkM _ _ _ (g1, []) (Kd.R_nil _ _ _ _ _)) (Reps.none _ _)))); intro v2 w2 ho hb hg hnew; have HO2 := Aside0.mk ho; have HB2 := Aside0.mk hb; have HG2 := Aside0.mk hg; have HNW2 := Aside0.mk hnew; clear ho hb hg hnew))
  have HS2 := Aside0.mk (show St w2 w0.heap.size 0 v2 [(g1, [])] from ⟨HO2.out, fun p hp => by simp at hp; subst hp; exact ⟨HG1.out, List.Pairwise.nil, Nat.le_refl _, none, 0, ⟨blk_grown HT1.out.cel HG2.out (by simp), Kd.R_nil _ _ _ _ _, by simp⟩⟩, by simp, by simp, by simp⟩)
  have HF2 := Aside0.mk (show FrT (.slice none 0 0) v2 w w2 from (FrT.of_below _ HW1.out).trans ⟨HG2.out.size, fun k cells t fr hk _ _ => (HG2.out.block k (blk_lt hk) (by simp)).trans hk, fun k e => .inr (by obtain ⟨b, e1, e2⟩ := HNW2.out; rw [e1] at e; injection e with e; omega)⟩)
  obtain ⟨n, hn⟩ : ∃ n, n = xs.length := ⟨_, rfl⟩
  have HNN := Aside0.mk hn
  clear HT1 HG1 HW1 HB1 HG2 HO2 hn
  go_loopw [5, 6] (fun v5 v6 wr => ∃ (k : Nat) (ps : List (Nat × List S80)), v6 = .int .i64 (k : Int) ∧ Aside0 (k ≤ xs.length) ∧ Aside0 (St wr w0.heap.size k v5 ps) ∧ Aside0 (Below w0.heap.size w0 wr) ∧ Aside0 (FrT (.slice none 0 0) v5 w wr)) (fun _ v6 _ => xs.length - (intOf v6).toNat)
  case atStart => exact ⟨0, _, rfl, ⟨Nat.zero_le _⟩, HS2, HB2, HF2⟩
  case round =>
    clear HS2 HB2 HF2
    obtain ⟨k, ps, rfl, HI, HS, HB2, HF⟩ := hrel
    by_cases hlt : k < xs.length
    · have i1 : decide ((k : Int) < (xs.length : Int)) = true := decide_eq_true (by omega)
      have i2 : decide (k < xs.length) = true := decide_eq_true hlt
      have i3 : (k < xs.length) = True := eq_true hlt
      obtain ⟨ad, rfl, hx0, hx1, hx2, hx3⟩ := at_T60 HK.out (k : Int) (by omega) (by omega)
      rw [Int.toNat_natCast] at hx0 hx1 hx2 hx3
      replace hx0 := (HB2.out.cell (World.block_lt_of_cell? w0 _ hx0)).trans hx0
      replace hx1 := (HB2.out.cell (World.block_lt_of_cell? w0 _ hx1)).trans hx1
      replace hx2 := (HB2.out.cell (World.block_lt_of_cell? w0 _ hx2)).trans hx2
      replace hx3 := (HB2.out.cell (World.block_lt_of_cell? w0 _ hx3)).trans hx3
      have HWR := Aside0.mk (show wrap64 ((k : Int) + 1) = (k : Int) + 1 by have := HL.out; unfold wrap64; omega)
      have HM := Aside0.mk (it.meas k xs.length hlt HWR.out)
      have HI2 := Aside0.mk (show k + 1 ≤ xs.length by omega)
      generalize rd_T60 xs (k : Int) = s at hx0 hx1 hx2 hx3
      go_wp2_with (go_at_call 27; refine (doesAny HB2.out HS.out s.f0 s.f1 s.f2 s.f3 (by have := HL.out; have := HI2.out; omega)).mono ?_; rintro e_ w3 ⟨v3, ps3, rfl, h1, h2, h3⟩; have HS3 := Aside0.mk h1; have HB3 := Aside0.mk h2; have HF3 := Aside0.mk (FrT.trans HF.out h3); clear h1 h2 h3)
      go_roundw
      case rel => exact ⟨k + 1, ps3, by rw [HWR.out]; rfl, HI2, HS3, HB3, HF3⟩
      case measure => exact HM.out
    · have i1 : decide ((k : Int) < (xs.length : Int)) = false := decide_eq_false (by omega)
      have i2 : decide (k < xs.length) = false := decide_eq_false hlt
      have i3 : (k < xs.length) = False := eq_false hlt
      have HE := Aside0.mk (show k = xs.length by have := HI.out; omega)
      go_wp2
      go_ret2
      have e := HE.out
      subst e
      exact ⟨_, _, rfl, HS.out, HB2.out, HF.out⟩
/-- A table has just what it must have. -/
theorem holds1 {w0 w : World} (hB : Below w0.heap.size w0 w) {g : Nat} {l : List S80} {A : Option Addr} {c : Nat} (hT : it.Tab w w0.heap.size g l A c) (RA : Option Addr) (n1 rc : Nat) (hn : l.length = n1) (hR : k50.C w RA n1 (l.map it.r5)) :
    Calls Try.prog 15 #[.agg #[.pointer (some ⟨g, 0, none⟩), .slice RA n1 rc]] w fun e w' => e = .returned (.bool true) ∧ Below w.heap.size w w' := by
  have hu42 := Try.underlying42
  have HT := Aside0.mk hT
  have HR := Aside0.mk hR
  have HN := Aside0.mk hn
  have HLE := Aside0.mk hT.len
  clear hT hR hB
  go_enter Try.func15, Try.ntmps15
  go_wp2_with (first | ((with_reducible refine gate_dst (N := 1) rfl ?_); refine box_event ?hg (N := 1) ?hd (cs := #[.pointer (some ⟨g, 0, none⟩), .slice RA n1 rc]) (t := 42) ?hr ?_; (case hd => rfl); (case hg => rfl); (case hr => first | (go_simp; done) | (go_simp; rfl)); intro gs hg w1 hbox hb; have HB1 := Aside0.mk hb; have BK1 := Aside0.mk hbox; clear hg hbox hb; have hz0 : w1.cell? ⟨gs, 0, none⟩ = some (.pointer (some ⟨g, 0, none⟩)) := (blk_cell BK1.out 0).trans rfl; have hz1 : w1.cell? ⟨gs, 1, none⟩ = some (.slice RA n1 rc) := (blk_cell BK1.out 1).trans rfl))
  refine start_ (n := 7) (S := fun w' => w'.cell? ⟨gs, 0, none⟩ = some (.pointer (some ⟨g, 0, none⟩)) ∧ w'.cell? ⟨gs, 1, none⟩ = some (.slice RA n1 rc)) (ds := []) #[false, false, false, false, false, false, false] (by kernel_rfl) rfl rfl ⟨(blk_cell (blk_drew BK1.out) 0).trans rfl, (blk_cell (blk_drew BK1.out) 1).trans rfl⟩ (fun hHeld => ?_)
  generalize hwd : w1.drew = wd at hHeld ⊢
  have BKd := Aside0.mk (hwd ▸ blk_drew BK1.out)
  have HBd := Aside0.mk (hwd ▸ (below_drew HB1.out))
  clear hwd hz0 hz1
  refine pure_ (i := 0) (N := some 7) (v := ?_) (a' := ?_) #[true, false, false, false, false, false, false] rfl rfl (by kernel_rfl) (fun _ _ _ h => h) (Or.inl ⟨by rfl, ?_⟩) ?_ ?_
  rotate_left
  · intro w'
    go_simp
    with_reducible rfl
  rotate_left
  · simp only [Act.put, List.setIfInBounds_toArray, List.set_cons_zero, List.set_cons_succ, i64_w, i32_w]
    rfl
  refine pure_ (i := 3) (N := some 10) (v := ?_) (a' := ?_) #[true, false, false, true, false, false, false] rfl rfl (by kernel_rfl) (fun _ _ _ h => h) (Or.inl ⟨by rfl, ?_⟩) ?_ ?_
  rotate_left
  · intro w'
    go_simp
    with_reducible rfl
  rotate_left
  · simp only [Act.put, List.setIfInBounds_toArray, List.set_cons_zero, List.set_cons_succ, i64_w, i32_w]
    rfl
  refine take_ (i := 1) (N := some 8) (v := ?_) (a' := ?_) #[true, true, false, true, false, false, false] rfl rfl (by kernel_rfl) (fun _ _ _ h => h) (Or.inl ⟨by rfl, ?_⟩) hHeld ?_ ?_
  rotate_left
  · rintro w' ⟨s0, s1⟩
    go_simp
    with_reducible rfl
  rotate_left
  · simp only [Act.put, List.setIfInBounds_toArray, List.set_cons_zero, List.set_cons_succ, i64_w, i32_w]
    rfl
  refine take_ (i := 4) (N := some 11) (v := ?_) (a' := ?_) #[true, true, false, true, true, false, false] rfl rfl (by kernel_rfl) (fun _ _ _ h => h) (Or.inl ⟨by rfl, ?_⟩) hHeld ?_ ?_
  rotate_left
  · rintro w' ⟨s0, s1⟩
    go_simp
    with_reducible rfl
  rotate_left
  · simp only [Act.put, List.setIfInBounds_toArray, List.set_cons_zero, List.set_cons_succ, i64_w, i32_w]
    rfl
  refine pure_ (i := 5) (N := some 12) (v := ?_) (a' := ?_) #[true, true, false, true, true, true, false] rfl rfl (by kernel_rfl) (fun _ _ _ h => h) (Or.inl ⟨by rfl, ?_⟩) ?_ ?_
  rotate_left
  · intro w'
    go_simp
    with_reducible rfl
  rotate_left
  · simp only [Act.put, List.setIfInBounds_toArray, List.set_cons_zero, List.set_cons_succ, i64_w, i32_w]
    rfl
  refine one_ (i := 2) (N := some 9) #[true, true, true, true, true, true, false] rfl rfl (by kernel_rfl) (by decide) (fun K hK => ?_)
  refine goes_ Try.func23 (by kernel_rfl) rfl #[.pointer (some ⟨g, 0, none⟩)] (by rfl) rfl rfl (by (try simp only [List.map_toArray, List.map_cons, List.map_nil]); first | done | rfl) ?_
  refine (it.len1 (HT.out.below HBd.out)).mono ?_
  rw [HN.out]
  rintro e w2 ⟨rfl, hb⟩
  refine ⟨_, rfl, ?_⟩
  have BK2 := Aside0.mk (blk_below BKd.out hb)
  have HB2 := Aside0.mk (below_then HBd.out HBd.out.size hb)
  clear hb
  refine hK.out _ _ ⟨(blk_cell BK2.out 0).trans rfl, (blk_cell BK2.out 1).trans rfl⟩ (fun hHeld => ?_)
  clear hK K
  refine norm_ (a' := ?_) ?_ ?_
  rotate_left
  · show Act.put _ (some 9) _ = _
    simp only [Act.put, List.setIfInBounds_toArray, List.set_cons_zero, List.set_cons_succ, i64_w, i32_w]
    rfl
  refine pure_ (i := 6) (N := some 13) (v := ?_) (a' := ?_) #[true, true, true, true, true, true, true] rfl rfl (by kernel_rfl) (fun _ _ _ h => h) (Or.inl ⟨by rfl, ?_⟩) ?_ ?_
  rotate_left
  · intro w'
    go_simp
    with_reducible rfl
  rotate_left
  · simp only [Act.put, List.setIfInBounds_toArray, List.set_cons_zero, List.set_cons_succ, i64_w, i32_w]
    rfl
  refine done_ (by kernel_rfl) ?_
  go_wp2
  have hz0 : w2.cell? ⟨gs, 0, none⟩ = some (.pointer (some ⟨g, 0, none⟩)) := (blk_cell BK2.out 0).trans rfl
  have hz1 : w2.cell? ⟨gs, 1, none⟩ = some (.slice RA n1 rc) := (blk_cell BK2.out 1).trans rfl
  go_wp2
  go_loopw [3] (fun v3 wr => ∃ k : Nat, v3 = .int .i64 (k : Int) ∧ Aside0 (k ≤ n1) ∧ Aside0 (wr.heap[gs]? = some (.cells #[.pointer (some ⟨g, 0, none⟩), .slice RA n1 rc] 42 (0, 0))) ∧ Aside0 (Below w.heap.size w wr)) (fun v3 _ => n1 - (intOf v3).toNat)
  case atStart => exact ⟨0, rfl, ⟨Nat.zero_le _⟩, BK2, HB2⟩
  case round =>
    clear BK1 BK2 HB1 HB2 hz0 hz1
    obtain ⟨k, rfl, HI, BK, HB⟩ := hrel
    have hz0 : wr.cell? ⟨gs, 0, none⟩ = some (.pointer (some ⟨g, 0, none⟩)) := (blk_cell BK.out 0).trans rfl
    have hz1 : wr.cell? ⟨gs, 1, none⟩ = some (.slice RA n1 rc) := (blk_cell BK.out 1).trans rfl
    by_cases hlt : k < n1
    · have i1 : decide ((k : Int) < (n1 : Int)) = true := decide_eq_true (by omega)
      have i2 : decide (k < n1) = true := decide_eq_true hlt
      have i3 : (k < n1) = True := eq_true hlt
      obtain ⟨ad, rfl, hx0, hx1⟩ := at_T50 HR.out (k : Int) (by omega) (by omega)
      have hkl : k < l.length := by have := HN.out; omega
      rw [Int.toNat_natCast, it.rd5 hkl] at hx0 hx1
      simp only [it.r5] at hx0 hx1
      replace hx0 := (HB.out.cell (World.block_lt_of_cell? w _ hx0)).trans hx0
      replace hx1 := (HB.out.cell (World.block_lt_of_cell? w _ hx1)).trans hx1
      have HX0 := Aside0.mk hx0
      have HX1 := Aside0.mk hx1
      have HWR := Aside0.mk (show wrap64 ((k : Int) + 1) = (k : Int) + 1 by have := HLE.out; have := HN.out; unfold wrap64; omega)
      have HM := Aside0.mk (it.meas k n1 hlt HWR.out)
      have HI2 := Aside0.mk (show k + 1 ≤ n1 by omega)
      have HKL := Aside0.mk (show 0 ≤ (k : Int) ∧ (k : Int) < (l.length : Int) by omega)
      clear hx0 hx1 hkl
      go_wp2_with (go_at_call 19; refine (it.at1 (HT.out.below HB.out) (k : Int) HKL.out.1 HKL.out.2).mono ?_; rintro e_ w3 ⟨rfl, hb⟩; have HB3 := Aside0.mk (below_then HB.out HB.out.size hb); have BK3 := Aside0.mk (blk_below BK.out hb); have hx0 := (hb.cell (World.block_lt_of_cell? wr _ HX0.out)).trans HX0.out; have hx1 := (hb.cell (World.block_lt_of_cell? wr _ HX1.out)).trans HX1.out; clear hb hz0 hz1; have hz0 : w3.cell? ⟨gs, 0, none⟩ = some (.pointer (some ⟨g, 0, none⟩)) := (blk_cell BK3.out 0).trans rfl; have hz1 : w3.cell? ⟨gs, 1, none⟩ = some (.slice (some ad) n1 rc) := (blk_cell BK3.out 1).trans rfl)
      go_roundw
      case rel => exact ⟨k + 1, by rw [HWR.out]; rfl, HI2, BK3, HB3⟩
      case measure => exact HM.out
    · have i1 : decide ((k : Int) < (n1 : Int)) = false := decide_eq_false (by omega)
      have i2 : decide (k < n1) = false := decide_eq_false hlt
      have i3 : (k < n1) = False := eq_false hlt
      go_wp2
      go_ret
      exact ⟨rfl, HB.out⟩
/-- TableDoes. -/
theorem runDoes (xs : List S60) (A : Option Addr) (c : Nat) (w : World) (hC : k60.C w A xs.length xs) (hl : xs.length * 32 ≤ 140737488351232) :
    Calls Try.prog 4 #[.slice A xs.length c] w fun e w' => e = .returned (.bool true) ∧ Below w.heap.size w w' := by
  have HC := Aside0.mk hC
  have HL := Aside0.mk hl
  have hu42 := Try.underlying42
  clear hC hl
  go_enter Try.func4, Try.ntmps4
  go_wp2_with (go_at_call 14; refine (played1 (Below.refl w.heap.size w) xs A c HC.out HL.out).mono ?_; rintro e_ w1 ⟨v1, ps, rfl, h1, h2, h3⟩; have HS := Aside0.mk h1; have HB1 := Aside0.mk h2; clear h1 h2 h3; obtain ⟨b1, c1, e1, _, _, _⟩ := Kd.R_form HS.out.row (by rw [List.length_map]; exact HS.out.lo); rw [List.length_map] at e1; subst e1)
  obtain ⟨np, hnp⟩ : ∃ np, np = ps.length := ⟨_, rfl⟩
  have HNP := Aside0.mk hnp
  rw [← hnp]
  clear hnp
  go_loopw [5] (fun v5 wr => ∃ k : Nat, v5 = .int .i64 (k : Int) ∧ Aside0 (k ≤ np) ∧ Aside0 (Below w1.heap.size w1 wr)) (fun v5 _ => np - (intOf v5).toNat)
  case atStart => exact ⟨0, rfl, ⟨Nat.zero_le _⟩, ⟨Below.refl _ _⟩⟩
  case round =>
    obtain ⟨k, rfl, HI, HB⟩ := hrel
    by_cases hlt : k < np
    · have i1 : decide ((k : Int) < (np : Int)) = true := decide_eq_true (by omega)
      have i2 : decide (k < np) = true := decide_eq_true hlt
      have i3 : (k < np) = True := eq_true hlt
      have hS := HS.out.below HB.out
      rw [← HNP.out] at hS
      obtain ⟨b, cap, g, l, TA, tc, RA, rc, ev, hpi, hbg, hsl, hlm, hT, hcb, hbb, hc0, hc1, hR⟩ := hS.at_ k (by rw [← HNP.out]; exact hlt)
      rw [← HNP.out] at ev
      injection ev with ev ev2 ev3
      clear ev2 ev3
      injection ev with ev
      injection ev with ev
      subst ev
      have HT := Aside0.mk hT
      have HR := Aside0.mk (Kd.R_reads' hR).2.2
      rw [List.length_map] at hc1 HR
      have HWR := Aside0.mk (show wrap64 ((k : Int) + 1) = (k : Int) + 1 by have := HS.out.hi; have := HNP.out; unfold wrap64; omega)
      have HM := Aside0.mk (it.meas k np hlt HWR.out)
      have HI2 := Aside0.mk (show k + 1 ≤ np by omega)
      have HBB := Aside0.mk (below_then HB1.out HB1.out.size HB.out)
      clear hpi hbg hsl hlm hT hcb hbb hR hS
      go_wp2_with (go_at_call 15; refine (holds1 HBB.out HT.out RA l.length rc rfl HR.out).mono ?_; rintro e_ w3 ⟨rfl, hb⟩; have HB3 := Aside0.mk (below_then HB.out HB.out.size hb); clear hb hc0 hc1)
      go_roundw
      case rel => exact ⟨k + 1, by rw [HWR.out]; rfl, HI2, HB3⟩
      case measure => exact HM.out
    · have i1 : decide ((k : Int) < (np : Int)) = false := decide_eq_false (by omega)
      have i2 : decide (k < np) = false := decide_eq_false hlt
      have i3 : (k < np) = False := eq_false hlt
      go_wp2
      go_ret
      exact ⟨rfl, below_then HB1.out HB1.out.size HB.out⟩
end
end Go.Proofs.Ytgpmkljklkmipaa.X
