/- XFrom: walks by hand, for the claim. -/
import Derived.Test.YtgpmkljklkmipaaXx0
import Derived.Test.YtgpmkljklkmipaaXWords
import Derived.Lib.SmallJoins
import Derived.ChangeSlices
import Derived.ChangeShapes
import Derived.RangeFuncMany
import Derived.Laws.Pointers
import Derived.Shelf.Abstract
import Derived.Lib.SliceRun
import Derived.RangeFuncFrom
import Derived.RangeFuncWrites
import Derived.RangeFuncBox
import Derived.RangeFuncLeaves
import Derived.OwnWalkIn
import Derived.TacticsInMore
import Derived.LoopNIn
import Derived.LoopIn
import Derived.Deep.DeepMust
import Derived.Deep.QuietTactic
import Derived.BigQuiet
import Derived.Test.YtgpmkljklkmipaaXLawDoes
set_option linter.unusedVariables false
set_option linter.unusedSimpArgs false
namespace Go.Proofs.Ytgpmkljklkmipaa.X
open Go.RowKit Go.Proofs.YtgpmkljklkmipaaW.PrintWords Go.Proofs.YtgpmkljklkmipaaW.PrintLast Go.Proofs.YtgpmkljklkmipaaW.PrintMore Go.Proofs.YtgpmkljklkmipaaW
section
set_option maxHeartbeats 4000000
set_option maxRecDepth 100000
attribute [local go_sem high] it.eqn1
theorem cellA {w w1 : World} {p : Addr} (e : w1.heap[p.block]? = w.heap[p.block]?) : w1.cell? p = w.cell? p := by simp [World.cell?, e]
/-- Two blocks stay. -/
def KB (x y : Nat) (W W' : World) : Prop := W.heap.size ≤ W'.heap.size ∧ W'.heap[x]? = W.heap[x]? ∧ W'.heap[y]? = W.heap[y]?
theorem KB.refl (x y : Nat) (W : World) : KB x y W W := ⟨Nat.le_refl _, rfl, rfl⟩
theorem KB.trans {x y : Nat} {A B C : World} (h : KB x y A B) (k : KB x y B C) : KB x y A C := ⟨Nat.le_trans h.1 k.1, k.2.1.trans h.2.1, k.2.2.trans h.2.2⟩
theorem KB.of_below {x y : Nat} {W W' : World} (h : Below W.heap.size W W') (hx : x < W.heap.size) (hy : y < W.heap.size) : KB x y W W' := ⟨h.size, h.block x hx, h.block y hy⟩
theorem KB.put {x y : Nat} {w : World} (hx : x < w.heap.size) (hy : y < w.heap.size) (W : World) (l : Nat) (o o' : Obj) (hl : w.heap.size ≤ l) (h : W.heap[l]? = some o) (_ : o.isCells = false) (_ : o.isWalk = false) : KB x y W (W.putObj l o') := by
  have hg := grownBy_putObj' W l o'
  have hlt := (Array.getElem?_eq_some_iff.1 h).1
  exact ⟨hg.size, hg.block x (by omega) (fun e => by injection e with e; omega), hg.block y (by omega) (fun e => by injection e with e; omega)⟩
/-- walk's closure, where a round may write (but the row and its box). -/
theorem iter2 (F : Fence) (n : Nat) (h44 : F.fn 44) (hro : F.round = none) (hn : 1 ≤ n) (l Bs ab : Nat) (ad : Addr) (A : Option Addr) (len cap : Nat) (hAd : 0 < len → A = some ad ∧ ad.block = ab) (vs : List (Int × Int)) (hlen : vs.length = len) (hreach : len ≤ 4611686018427387904) (J Jx : List (Int × Int) → World → Prop)
    (hY : ∀ pre x W, J pre W → pre.length < len → YieldAt F (n - 1) Try.prog l (it.en x) W fun e W' =>
      (e = .returned (.bool true) ∧ J (pre ++ [x]) W' ∧ KB Bs ab W W') ∨ (e = .returned (.bool false) ∧ Jx (pre ++ [x]) W'))
    (W : World) (hbs : Bs < W.heap.size) (hab : ab < W.heap.size) (hA : AbidesFrom W.heap.size J) (hBs : W.cell? ⟨Bs, 0, none⟩ = some (.slice A len cap))
    (hc : ∀ j, j < len → W.cell? (ad.add (j * 2)) = some (.int .i64 (vs.getD j it.d0).1) ∧ W.cell? ⟨(ad.add (j * 2)).block, (ad.add (j * 2)).off + 1, none⟩ = some (.int .i64 (vs.getD j it.d0).2)) (h0 : J [] W) :
    CallsIn F n Try.prog 44 #[.func (.yield l) #[] #[], .pointer (some ⟨Bs, 0, none⟩)] W fun e W' => (∃ v, e = .returned v) ∧
      ((∃ ys, ys = vs ∧ J ys W') ∨ (∃ pre, (∃ k, 0 < k ∧ k ≤ len ∧ pre = vs.take k) ∧ Jx pre W')) := by
  have HY := Aside0.mk hY
  have HC := Aside0.mk hc
  have HA := Aside0.mk hA
  have HL := Aside0.mk hlen
  have HR := Aside0.mk hreach
  have HBS := Aside0.mk hbs
  have HAB := Aside0.mk hab
  clear hY hc hA hlen hreach hbs hab
  refine callsIn_of_wp Try.func44 rfl h44 ?_ hro
  simp only [Try.ntmps44, List.size_toArray, List.length_cons, List.length_nil, Nat.reduceAdd, Nat.reduceSub, Array.replicate_succ, Array.replicate_zero, List.push_toArray, List.append_toArray, List.nil_append, List.cons_append]
  gi_wp2
  gi_loopw [4, 7] (fun p i wr => ∃ k : Nat, k ≤ len ∧ i = .int .i64 k ∧ J (vs.take k) wr ∧ KB Bs ab W wr)
    (fun p i _ => len - (intOf i).toNat)
  case atStart => exact ⟨0, Nat.zero_le _, rfl, h0, KB.refl _ _ _⟩
  case round =>
    obtain ⟨k, hk, rfl, hJs, hnx⟩ := hrel
    by_cases hlt : k < len
    · obtain ⟨rfl, hab1⟩ := hAd (by omega)
      have hcx := HC.out k hlt
      obtain ⟨hc0, hc1⟩ := hcx
      have hblk : wr.heap[ad.block]? = W.heap[ad.block]? := by rw [hab1]; exact hnx.2.2
      replace hc0 := (cellA (w := W) (w1 := wr) (p := ad.add (k * 2)) (by rw [add_block]; exact hblk)).trans hc0
      replace hc1 := (cellA (w := W) (w1 := wr) (p := ⟨(ad.add (k * 2)).block, (ad.add (k * 2)).off + 1, none⟩) (by show wr.heap[(ad.add (k * 2)).block]? = W.heap[(ad.add (k * 2)).block]?; rw [add_block]; exact hblk)).trans hc1
      clear hblk hab1
      have ets := it.take_succ it.d0 vs k (by have := HL.out; omega)
      generalize vs.getD k it.d0 = x at hc0 hc1 ets
      obtain ⟨x0, x1⟩ := x
      have HW := Aside0.mk (show wrap64 ((k : Int) + 1) = (k : Int) + 1 by have := HR.out; unfold wrap64; omega)
      have HM := Aside0.mk (it.meas k len hlt HW.out)
      obtain ⟨W2, hW2⟩ : ∃ W2, wr.alloc (.cells #[.int .i64 x0, .int .i64 x1] 80) = W2 := ⟨_, rfl⟩
      have hJ2 : J (vs.take k) W2 := HA.out _ wr W2 none hJs (by rw [← hW2]; exact World.grownBy_alloc wr _ none) (fun r e => by cases e)
      have hnx2 : KB Bs ab W W2 := by rw [← hW2]; exact hnx.trans (KB.of_below ((Below.refl _ wr).alloc (Nat.le_refl _) _) (Nat.lt_of_lt_of_le HBS.out hnx.1) (Nat.lt_of_lt_of_le HAB.out hnx.1))
      obtain ⟨fn, tmps, assign, body, hy, hR⟩ := HY.out _ (x0, x1) W2 hJ2 (by rw [List.length_take]; have := HL.out; omega)
      simp only [it.en] at hy
      rw [← hW2] at hy
      have HW2 := Aside0.mk hW2
      clear hW2
      have i1 : decide (k < len) = true := decide_eq_true hlt
      dsimp only at hc0 hc1
      gi_wp2
      rw [HW2.out]
      refine hR.mono ?_
      rintro e W3 (⟨rfl, hJ3, hk3⟩ | ⟨rfl, hJx3⟩)
      · rw [← ets] at hJ3
        clear ets
        gi_wp2
        go_roundw
        case rel => exact ⟨k + 1, by omega, by rw [HW.out]; rfl, hJ3, hnx2.trans hk3⟩
        case measure => exact HM.out
      · rw [← ets] at hJx3
        clear ets
        gi_wp2
        refine bodyPost_ret (results_none rfl _ _ _) rfl ?_
        exact ⟨⟨_, rfl⟩, .inr ⟨_, ⟨k + 1, by omega, by omega, rfl⟩, hJx3⟩⟩
    · obtain rfl : k = len := by omega
      gi_wp2
      go_end0
      have e : vs.take k = vs := List.take_of_length_le (by have := HL.out; omega)
      rw [e] at hJs
      exact ⟨⟨_, rfl⟩, .inl ⟨_, rfl, hJs⟩⟩
theorem stops2 (F : Fence) (n : Nat) (h44 : F.fn 44) (hro : F.round = none) (hn : 1 ≤ n) (Bs ab : Nat) (ad : Addr) (A : Option Addr) (len cap : Nat) (hAd : 0 < len → A = some ad ∧ ad.block = ab) (vs : List (Int × Int)) (hlen : vs.length = len) (hreach : len ≤ 4611686018427387904) (w : World) (hab : ab < w.heap.size)
    (hBs : w.cell? ⟨Bs, 0, none⟩ = some (.slice A len cap))
    (hc : ∀ W, Below w.heap.size w W → ∀ j, j < len → W.cell? (ad.add (j * 2)) = some (.int .i64 (vs.getD j it.d0).1) ∧ W.cell? ⟨(ad.add (j * 2)).block, (ad.add (j * 2)).off + 1, none⟩ = some (.int .i64 (vs.getD j it.d0).2)) :
    SeqStopsK F n Try.prog 44 #[.pointer (some ⟨Bs, 0, none⟩)] it.en (KB Bs ab) (fun ys => ys = vs) (fun pre => ∃ k, 0 < k ∧ k ≤ len ∧ pre = vs.take k) len w := fun l J Jx W hW hA _ hY h0 =>
  iter2 F n h44 hro hn l Bs ab ad A len cap hAd vs hlen hreach J Jx hY W (Nat.lt_of_lt_of_le (World.block_lt_of_cell? w _ hBs) hW.size) (Nat.lt_of_lt_of_le hab hW.size) hA ((hW.cell (p := ⟨Bs, 0, none⟩) (World.block_lt_of_cell? w _ hBs)).trans hBs) (hc W hW) h0
theorem KB.set {x y b : Nat} (hx : x ≠ b) (hy : y ≠ b) (W : World) (v : Value) : KB x y W (W.setCell ⟨b, 0, none⟩ v) := ⟨by simp [World.setCell], Below.heap_setCell W ⟨b, 0, none⟩ v x hx, Below.heap_setCell W ⟨b, 0, none⟩ v y hy⟩
theorem blk_far1 {W : World} {g b : Nat} {cs : Array Value} {t : TypeId} (h : W.heap[g]? = some (.cells cs t (0, 0))) (hne : g ≠ b) (v : Value) : (W.setCell ⟨b, 0, none⟩ v).heap[g]? = some (.cells cs t (0, 0)) := blk_far (p := ⟨b, 0, none⟩) h hne v
/-- A round met what it must not. -/
structure BadF (l : List S80) (r : Nat) (pre : List (Int × Int)) : Prop where
  out : ∃ (p : List (Int × Int)) (x : Int × Int), pre = p ++ [x] ∧ p.length < l.length - r ∧ ¬ (x.1 = (rd_T80 l ((r + p.length : Nat) : Int)).f0 ∧ x.2 = (rd_T80 l ((r + p.length : Nat) : Int)).f1)
theorem BadF.mk1 {l : List S80} {r : Nat} {p : List (Int × Int)} {x : Int × Int} (h1 : p.length < l.length - r) (h2 : ¬ (x.1 = (rd_T80 l ((r + p.length : Nat) : Int)).f0 ∧ x.2 = (rd_T80 l ((r + p.length : Nat) : Int)).f1)) : BadF l r (p ++ [x]) := ⟨p, x, rfl, h1, h2⟩
theorem funcNil (gb : Nat) (w : World) : (binOp .eql 47 (.func (.func 44) #[] #[.pointer (some ⟨gb, 0, none⟩)]) .nilFunc).run Try.prog w = .ok (.bool false) w := by
  kernel_rfl
attribute [local go_sem high] funcNil
attribute [local go_sem] Oper.semAt_some
theorem runFrom (xs : List S60) (A : Option Addr) (c : Nat) (k : Int) (w : World) (hC : k60.C w A xs.length xs) (hl : xs.length * 32 ≤ 140737488351232) :
    Calls Try.prog 5 #[.slice A xs.length c, .int .i64 k] w fun e w' => e = .returned (.bool true) ∧ Below w.heap.size w w' := by
  refine (callsIn_wide (n := 10)).mp ?_
  refine callsIn_of_wp_marks Try.func5 rfl trivial ?_ rfl
  simp only [Try.ntmps5, List.size_toArray, List.length_cons, List.length_nil, Nat.reduceAdd, Nat.reduceSub, Array.replicate_succ, Array.replicate_zero, List.push_toArray, List.append_toArray, List.nil_append, List.cons_append]
  have hu42 := Try.underlying42
  obtain ⟨W0, hW0⟩ : ∃ W0, w.alloc (.cells #[.bool false] 4) = W0 := ⟨_, rfl⟩
  have hs0 : W0.heap.size = w.heap.size + 1 := by rw [← hW0]; simp
  have hB0 : Below w.heap.size w W0 := by rw [← hW0]; exact (Below.refl _ w).alloc (Nat.le_refl _) _
  have hBr : W0.heap[w.heap.size]? = some (.cells #[.bool false] 4 (0, 0)) := by rw [← hW0]; exact World.alloc_heap_new w _
  have HC := Aside0.mk hC
  have HL := Aside0.mk hl
  have HB0 := Aside0.mk hB0
  have HBR := Aside0.mk hBr
  have HS0 := Aside0.mk hs0
  clear hC hl hB0 hBr hs0
  have h14 : Fence.wide.fn 14 := trivial
  have h16 : Fence.wide.fn 16 := trivial
  have h17 : Fence.wide.fn 17 := trivial
  gi_wp2_with (first | (gi_at_call 14; refine (callsIn_wide.mpr (played1 HB0.out xs A c HC.out HL.out)).mono ?_; rintro e_ w1 ⟨v1, ps, rfl, h1, h2, h3⟩; have HB1 := Aside0.mk h2; have HF1 := Aside0.mk h3; obtain ⟨mm, hmm⟩ : ∃ mm, ps.length = mm + 1 := ⟨ps.length - 1, by have := h1.lo; omega⟩; have hmm6 : mm ≤ 5 := (by have := h1.hi; omega); obtain ⟨b1, c1, g, l, TA, tc, RA, rc, e1, hpi, hbg, hsl, hlm, hT, hcb, hbb, hc0, hc1, hR⟩ := h1.at_ mm (by omega); rw [hmm] at e1; subst e1; have HT := Aside0.mk hT; have HR1 := Aside0.mk (show k50.R 50 w1 w.heap.size (fun k_ => True ∧ k_ ≠ b1) (.slice RA l.length rc) (l.map it.r5) by rw [List.length_map] at hR; exact hR); rw [List.length_map] at hc1; have HSL := Aside0.mk hsl; have HLM := Aside0.mk hlm; clear h1 h2 h3 hmm hpi hbg hsl hlm hT hcb hbb hR) | (gi_at_call 16; go_must (refine (callsIn_wide.mpr (refFindC l k RA l.length rc (List.length_map _) (Kd.R_below HR1.out ((Below.refl _ w1).alloc (Nat.le_refl _) _)) (it.ref_find l k (by have := HLM.out; have := HL.out; omega)))).mono ?_); rintro e_ w2 ⟨rfl, hd⟩; have HW2 := Aside0.mk (((Below.refl w1.heap.size w1).alloc (Nat.le_refl _) _).trans (Below.mono hd.below (by simp))); have BP2 := Aside0.mk ((blk_below (World.alloc_heap_new w1 (.cells #[.pointer (some ⟨g, 0, none⟩), .slice RA l.length rc] 42)) hd.below)); clear hd hc0 hc1; have hp0 : w2.cell? ⟨w1.heap.size, 0, none⟩ = some (.pointer (some ⟨g, 0, none⟩)) := (blk_cell BP2.out 0).trans rfl; have hp1 : w2.cell? ⟨w1.heap.size, 1, none⟩ = some (.slice RA l.length rc) := (blk_cell BP2.out 1).trans rfl; have hsz2 : w1.heap.size < w2.heap.size := blk_lt BP2.out) | (gi_at_call 17; go_must (refine (callsIn_wide.mpr (it.from1 (HT.out.below (HW2.out.alloc HW2.out.size _)) (l.length + 1) k (it.fnd l k) (it.bs_fnd HSL.out k) (it.fnd_le k l))).mono ?_); rintro e_ w3 ⟨gb, AD, cD, rfl, h1, h2, h3, h4, h5⟩))
  have hb4 := h4
  have hsz3 : w2.heap.size + 1 ≤ w3.heap.size := by have := h4.size; simp at this; omega
  have hgbn : w2.heap.size < gb := by have := h2; simp at this; omega
  have hgbl : gb < w3.heap.size := blk_lt h1
  have hr := it.fnd_le k l
  have hlm := HLM.out
  have hll := HL.out
  obtain ⟨ad, vs, hAd, hblk, hvl, hv1, hvc⟩ := it.getRow0 h3 hr h4
  have hBg : w3.cell? ⟨gb, 0, none⟩ = some (.slice AD (l.length - it.fnd l k) cD) := (blk_cell h1 0).trans rfl
  have hadn : 0 < l.length - it.fnd l k → ad.block ≠ w2.heap.size := by
    intro hp e
    obtain ⟨ad', e1, e2⟩ := h5 ad (hAd hp)
    subst e1
    obtain ⟨b', c', e3, _, hlt, _⟩ := Kd.R_form (HT.out.below HW2.out).row (by omega)
    injection e3 with e3 _ _
    injection e3 with e3
    rw [e2, e3] at e
    have : b' = w2.heap.size := e
    omega
  obtain ⟨ab, hab1, hab2, habn⟩ : ∃ ab, (0 < l.length - it.fnd l k → ad.block = ab) ∧ ab < w3.heap.size ∧ ab ≠ w2.heap.size := by
    by_cases hp : 0 < l.length - it.fnd l k
    · exact ⟨ad.block, fun _ => rfl, hblk hp, hadn hp⟩
    · exact ⟨gb, fun h => absurd h hp, hgbl, by omega⟩
  have BN3 := blk_below (World.alloc_heap_new w2 (.cells #[.int .i64 (it.fnd l k : Int)] 3)) h4
  have BP3 := blk_below (blk_alloc BP2.out (.cells #[.int .i64 (it.fnd l k : Int)] 3)) h4
  have HBW3 : Below w1.heap.size w1 w3 := below_then (HW2.out.alloc HW2.out.size _) (by have := HW2.out.size; simp; omega) h4
  have hsz12 : w1.heap.size < w2.heap.size := blk_lt BP2.out
  have BR1 := HF1.out.2.1 _ _ _ _ HBR.out (by decide) (by simp [Value.ownBlock])
  refine wpIn_rangeFunc_ownG rfl (by omega) (gf := 44) (lb := #[.pointer (some ⟨gb, 0, none⟩)]) rfl trivial (enters_of Try.func44 (by kernel_rfl) rfl)
    (stops2 Fence.wide (10 - 1) trivial rfl (by omega) gb ab ad AD (l.length - it.fnd l k) cD (fun hp => ⟨hAd hp, hab1 hp⟩) vs hvl (by omega) w3 hab2 hBg hvc) (fun h k => KB.trans h k) (KB.put hgbl hab2) (Below.refl _ _) (fun _ => rfl)
    (fun pre W => W.heap[w2.heap.size]? = some (.cells #[.int .i64 ((it.fnd l k + pre.length : Nat) : Int)] 3 (0, 0)) ∧ W.heap[w1.heap.size]? = some (.cells #[.pointer (some ⟨g, 0, none⟩), .slice RA l.length rc] 42 (0, 0)) ∧ Below w1.heap.size w1 W)
    (fun _ pre _ => BadF l (it.fnd l k) pre)
    ?hI ?hIx ⟨BN3, BP3, HBW3⟩
    (fun x => { tmps := #[.slice A xs.length c, .int .i64 k, undef, undef, .pointer (some ⟨w.heap.size, 0, none⟩), .slice (some ⟨b1, 0, none⟩) (mm + 1) c1, .bool true, .pointer (some ⟨w1.heap.size, 0, none⟩), .int .i64 (it.fnd l k : Int), .bool (it.has l k), .pointer (some ⟨w2.heap.size, 0, none⟩), .func (.func 44) #[] #[.pointer (some ⟨gb, 0, none⟩)], .int .i64 x.1, .int .i64 x.2, .tuple #[.slice (some ⟨b1, 0, none⟩) (mm + 1) c1, .bool true], .slice A xs.length c, .tuple #[.slice (some ⟨b1, 0, none⟩) (mm + 1) c1, .bool true], .slice (some ⟨b1, 0, none⟩) (mm + 1) c1, .bool true, .bool true, .bool false, .slice (some ⟨b1, 0, none⟩) (mm + 1) c1, .slice (some ⟨b1, 0, none⟩) (mm + 1) c1, .int .i64 ((mm : Int) + 1), .int .i64 (mm : Int), .pointer (some ⟨b1, mm * 2, none⟩), .agg #[.pointer (some ⟨g, 0, none⟩), .slice RA l.length rc], .tuple #[.int .i64 (it.fnd l k : Int), .bool (it.has l k)], .pointer (some ⟨w1.heap.size, 1, none⟩), .slice RA l.length rc, .int .i64 k, .tuple #[.int .i64 (it.fnd l k : Int), .bool (it.has l k)], .int .i64 (it.fnd l k : Int), .bool (it.has l k), .int .i64 (it.fnd l k : Int), .pointer (some ⟨w1.heap.size, 0, none⟩), .pointer (some ⟨g, 0, none⟩), .int .i64 k, .func (.func 44) #[] #[.pointer (some ⟨gb, 0, none⟩)], .func (.func 44) #[] #[.pointer (some ⟨gb, 0, none⟩)], .bool false, .func (.func 44) #[] #[.pointer (some ⟨gb, 0, none⟩)], .int .i64 x.1, .int .i64 x.2, undef, undef, undef, undef, undef, undef, undef, undef, undef, undef, undef, undef, undef, undef, undef, undef, undef, undef, undef, undef, undef, undef, undef, undef, undef, undef, undef, undef, undef, undef, undef, undef], defers := [] }) ?assign ?body ?done ?stop
  case hI =>
    exact fun s X Y row ⟨e1, e2, e3⟩ hg hr => ⟨(grownBy_keeps_cells hg (fun r e => (hr r e).2) e1 rfl).trans e1, (grownBy_keeps_cells hg (fun r e => (hr r e).2) e2 rfl).trans e2, e3.grown hg e3.size (fun k_ e => Nat.le_trans HBW3.size (hr k_ e).1)⟩
  case hIx =>
    exact fun cc s X Y row hs hg hr => hs
  case assign =>
    intro l x W K hK
    obtain ⟨x0, x1⟩ := x
    simp only [it.en]
    clear hv1 hvc hvl hAd hblk hab1 hadn h1 h2 h3 h4 h5 BN3 BP3 hb4 hBg BR1 HBW3
    gi_wp2
    exact hK
  case body =>
    rintro l_ pre x W ⟨m1, m2, hB⟩ hpl
    obtain ⟨x0, x1⟩ := x
    dsimp only
    obtain ⟨nn, hnn⟩ : ∃ nn, nn = it.fnd l k + pre.length := ⟨_, rfl⟩
    rw [← hnn] at m1
    have hn : nn < l.length := by omega
    obtain ⟨adR, rfl, hx0, hx1⟩ := at_T50 (Kd.R_reads' HR1.out).2.2 (nn : Int) (by omega) (by rw [List.length_map]; omega)
    rw [Int.toNat_natCast, it.rd5 hn] at hx0 hx1
    simp only [it.r5] at hx0 hx1
    replace hx0 := (hB.cell (World.block_lt_of_cell? w1 _ hx0)).trans hx0
    replace hx1 := (hB.cell (World.block_lt_of_cell? w1 _ hx1)).trans hx1
    have c0 : W.cell? ⟨w2.heap.size, 0, none⟩ = some (.int .i64 (nn : Int)) := (blk_cell m1 0).trans rfl
    have d0_ := blk_frozen m1 0
    have c1 : W.cell? ⟨w1.heap.size, 1, none⟩ = some (.slice (some adR) l.length rc) := (blk_cell m2 1).trans rfl
    have mR : W.heap[w.heap.size]? = some (.cells #[.bool false] 4 (0, 0)) := (hB.block _ (blk_lt BR1)).trans BR1
    have cR : W.cell? ⟨w.heap.size, 0, none⟩ = some (.bool false) := (blk_cell mR 0).trans rfl
    have dR := blk_frozen mR 0
    have i1 : decide ((nn : Int) ≥ (l.length : Int)) = false := decide_eq_false (by omega)
    have i2 : decide (l.length ≤ nn) = false := decide_eq_false (by omega)
    have i3 : decide ((l.length : Int) ≤ (nn : Int)) = false := decide_eq_false (by omega)
    have i4 : (nn : Int) < (l.length : Int) := by omega
    have hwr : wrap64 ((nn : Int) + 1) = (nn : Int) + 1 := by unfold wrap64; omega
    have HNN := Aside0.mk hnn
    have HVX := Aside0.mk (show ∀ j, nn = it.fnd l k + j → (rd_T80 l ((it.fnd l k + j : Nat) : Int)) = rd_T80 l (nn : Int) from fun j e => by rw [e])
    have M1 := Aside0.mk m1
    have M2 := Aside0.mk m2
    have HPL := Aside0.mk hpl
    have HBA := Aside0.mk hB
    clear hnn m1 m2 mR hB hpl hv1 hvc hvl hAd hblk hab1 hadn h1 h2 h3 h4 h5 BN3 BP3 hb4 hBg BR1 HBW3
    generalize hE : rd_T80 l (nn : Int) = E at *
    by_cases hx : x0 = E.f0 ∧ x1 = E.f1
    · obtain ⟨rfl, rfl⟩ := hx
      gi_wp2
      refine ⟨(KeepsOthers.setCell _ _ _).from _, KB.set (Nat.ne_of_gt hgbn) habn _ _, ?_, blk_far1 M2.out (Nat.ne_of_lt hsz12) _, HBA.out.setCell (p := ⟨w2.heap.size, 0, none⟩) (Nat.le_of_lt hsz12) _⟩
      have e := blk_put M1.out 0 (.int .i64 ((nn : Int) + 1)) rfl
      rw [List.length_append, List.length_singleton, ← Nat.add_assoc, ← HNN.out, Int.natCast_succ]
      exact e
    · have HX := Aside0.mk (show ¬ ((x0, x1).1 = (rd_T80 l ((it.fnd l k + pre.length : Nat) : Int)).f0 ∧ (x0, x1).2 = (rd_T80 l ((it.fnd l k + pre.length : Nat) : Int)).f1) by rw [HVX.out _ HNN.out]; exact hx)
      by_cases hy : x0 = E.f0
      · have hz : ¬ x1 = E.f1 := fun e => hx ⟨hy, e⟩
        subst hy
        have j1 : (x1 == E.f1) = false := beq_eq_false_iff_ne.2 hz
        have j2 : decide (x1 = E.f1) = false := decide_eq_false hz
        clear hx hz
        gi_wp2
        exact ⟨(KeepsOthers.setCell _ _ _).from _, BadF.mk1 HPL.out HX.out⟩
      · have j1 : (x0 == E.f0) = false := beq_eq_false_iff_ne.2 hy
        have j2 : decide (x0 = E.f0) = false := decide_eq_false hy
        clear hx hy
        gi_wp2
        exact ⟨(KeepsOthers.setCell _ _ _).from _, BadF.mk1 HPL.out HX.out⟩
  case done =>
    rintro D ys W hD rfl ⟨m1, m2, hB⟩ hK
    have hlen : it.fnd l k + ys.length = l.length := by omega
    rw [hlen] at m1
    have c0 : W.cell? ⟨w2.heap.size, 0, none⟩ = some (.int .i64 (l.length : Int)) := (blk_cell m1 0).trans rfl
    have c1 : W.cell? ⟨w1.heap.size, 1, none⟩ = some (.slice RA l.length rc) := (blk_cell m2 1).trans rfl
    have mR : W.heap[w.heap.size]? = some (.cells #[.bool false] 4 (0, 0)) := (hB.block _ (blk_lt BR1)).trans BR1
    have cR : W.cell? ⟨w.heap.size, 0, none⟩ = some (.bool false) := (blk_cell mR 0).trans rfl
    have dR := blk_frozen mR 0
    have MR := Aside0.mk mR
    have HK := Aside0.mk hK
    have hbW : Below w.heap.size w W := below_then HB1.out HB1.out.size hB
    have HBW := Aside0.mk hbW
    have hDr : D ≠ w.heap.size := by have := blk_lt BR1; have := HBW3.size; omega
    have hDw : w.heap.size ≤ D := by have := blk_lt BR1; have := HBW3.size; omega
    clear m1 m2 mR hB hK hbW hv1 hvc hvl hAd hblk hab1 hadn h1 h2 h3 h4 h5 BN3 BP3 hb4 hBg
    gi_wp2
    have hK' : (W.setCell ⟨w.heap.size, 0, none⟩ (.bool true)).heap[D]? = some (.deferred (some [])) := (Below.heap_setCell _ _ _ _ (by show D ≠ w.heap.size; exact hDr)).trans HK.out
    have kR := blk_put MR.out 0 (.bool true) rfl
    have hb : Below w.heap.size w (W.setCell ⟨w.heap.size, 0, none⟩ (.bool true)) := HBW.out.setCell (Nat.le_refl _) _
    have z1 := cell_kept ((blk_cell kR 0).trans rfl) (grownBy_putObj' _ D (.deferred none)) (fun r e => by cases e; exact ⟨_, hK', rfl⟩)
    refine ⟨by simp, .inl ⟨_, _, rfl, run_takeDeferred hK', ?_⟩⟩
    refine ⟨.bool true, ?_, rfl, it.below_put hb hb.size hDw _⟩
    simp [results, Try.f5, go_sem, z1]
  case stop =>
    rintro D cc pre W hD ⟨k', hk0, hk1, rfl⟩ hbad hK
    exfalso
    obtain ⟨p, x, hpx, hp, hx⟩ := hbad.out
    have hl1 : (vs.take k').length = p.length + 1 := by rw [hpx]; simp
    rw [List.length_take] at hl1
    have hg : (vs.take k')[p.length]? = some x := by rw [hpx]; simp
    rw [List.getElem?_take, if_pos (by omega)] at hg
    have hv := hv1 p.length hp
    rw [List.getD_eq_getElem?_getD, hg] at hv
    exact hx hv
end
end Go.Proofs.Ytgpmkljklkmipaa.X
