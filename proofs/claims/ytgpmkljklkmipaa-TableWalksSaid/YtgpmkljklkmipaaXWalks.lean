/- XWalks: walks by hand, for the claim. -/
import Derived.Test.YtgpmkljklkmipaaXx0
import Derived.Test.YtgpmkljklkmipaaXWords
import Derived.Lib.SmallJoins
import Derived.ChangeSlices
import Derived.ChangeShapes
import Derived.RangeFuncMany
import Derived.Laws.Pointers
import Derived.Shelf.Abstract
import Derived.Lib.SliceRun
import Derived.RangeFuncFrom
import Derived.RangeFuncWrites
import Derived.RangeFuncBox
import Derived.RangeFuncLeaves
import Derived.OwnWalkIn
import Derived.TacticsInMore
import Derived.LoopNIn
import Derived.LoopIn
import Derived.Deep.DeepMust
import Derived.Deep.QuietTactic
import Derived.BigQuiet
import Derived.Test.YtgpmkljklkmipaaXFrom
set_option linter.unusedVariables false
set_option linter.unusedSimpArgs false
namespace Go.Proofs.Ytgpmkljklkmipaa.X
open Go.RowKit Go.Proofs.YtgpmkljklkmipaaW.PrintWords Go.Proofs.YtgpmkljklkmipaaW.PrintLast Go.Proofs.YtgpmkljklkmipaaW.PrintMore Go.Proofs.YtgpmkljklkmipaaW
section
set_option maxHeartbeats 4000000
set_option maxRecDepth 100000
attribute [local go_sem high] it.eqn1 funcNil
attribute [local go_sem] Oper.semAt_some
/-- What stands at the head of a round over the walk. -/
structure RW (W4 W : World) (cb : Nat) (ds : List Deferred) : Prop where
  out : ∃ kk : Nat, ds.length = kk ∧ kk ≤ 2 ∧ W.heap[cb]? = some (.cells #[.int .i64 (kk : Int)] 3 (0, 0)) ∧ W4.heap.size ≤ cb ∧ Below W4.heap.size W4 W ∧
    ∃ Ds : List Nat, ds = Ds.map (fun D => { target := .collected D, args := #[] }) ∧ Ds.Nodup ∧ ∀ D ∈ Ds, W4.heap.size ≤ D ∧ W.heap[D]? = some (.deferred (some []))
theorem RW.start (W4 : World) : RW W4 (W4.alloc (.cells #[.int .i64 0] 3)) W4.heap.size [] := ⟨0, rfl, by omega, World.alloc_heap_new W4 _, Nat.le_refl _, (Below.refl _ W4).alloc (Nat.le_refl _) _, [], rfl, List.nodup_nil, fun D h => by simp at h⟩
theorem FrT.rowk {α : Type} {d : Kd α} {e base : Nat} {w w1 : World} {u v v' : Value} {xs : List α} {ok : Nat → Prop} (hF : FrT v v' w w1) (hv : ∀ q, v.ownBlock = some q → ∃ cells, w.heap[q]? = some (.cells cells 42 (0, 0))) (h : d.R e w base ok u xs) (ht : ∀ q, q ∈ e :: d.E → q ≠ 78 ∧ q ≠ 42) : d.R e w1 base ok u xs :=
  Kd.R_mono (Kd.R_move (Kd.R_bound h) (fun k hk => by
    obtain ⟨_, _, _, q, hq, cells, hc⟩ := hk
    rw [hc]
    refine hF.2.1 k cells q _ hc (ht q hq).1 (fun e1 => ?_)
    obtain ⟨cells', hc'⟩ := hv k e1
    rw [hc] at hc'
    injection hc' with hc'
    injection hc' with _ hc'
    exact (ht q hq).2 hc')) (fun _ h => h.1)
structure SX (l : List S80) (W : World) (nb kk : Nat) (stop : Int) (cc : Code) (pre : List (Int × Int)) (Y : World) : Prop where
  out : (cc = .ret ∧ BadF l 0 pre) ∨ (cc = .exit 4 ∧ kk = 0 ∧ (pre.length : Int) = stop ∧ Y.heap[nb]? = some (.cells #[.int .i64 (pre.length : Int)] 3 (0, 0)) ∧ Below W.heap.size W Y)
theorem rowAll {W : World} {base : Nat} {l : List S80} {A : Option Addr} {c : Nat} (h : Kd.R k80 80 W base (fun _ => True) (.slice A l.length c) l) : ∃ (ad : Addr) (vs : List (Int × Int)), (0 < l.length → A = some ad ∧ ad.block < W.heap.size) ∧ vs.length = l.length ∧ (∀ j, j < l.length → (vs.getD j it.d0).1 = (rd_T80 l (j : Int)).f0 ∧ (vs.getD j it.d0).2 = (rd_T80 l (j : Int)).f1) ∧
    ∀ W', Below W.heap.size W W' → ∀ j, j < l.length → W'.cell? (ad.add (j * 2)) = some (.int .i64 (vs.getD j it.d0).1) ∧ W'.cell? ⟨(ad.add (j * 2)).block, (ad.add (j * 2)).off + 1, none⟩ = some (.int .i64 (vs.getD j it.d0).2) := by
  by_cases hp : 0 < l.length
  · obtain ⟨ad, vs, h1, h2, h3, h4, h5⟩ := it.getRow (rn := 0) (nD := l.length) (it.rows h) hp (by omega) (Below.refl _ W)
    simp only [Nat.zero_add] at h4
    exact ⟨ad, vs, fun _ => ⟨h1, h2⟩, h3, h4, h5⟩
  · exact ⟨⟨0, 0, none⟩, [], fun h => absurd h hp, by simp; omega, fun j hj => absurd hj (by omega), fun W _ j hj => absurd hj (by omega)⟩
theorem RW.next {W4 W Y : World} {cb kk D : Nat} {ds : List Deferred} (h : RW W4 W cb ds) (hkk : ds.length = kk) (hk2 : kk < 2) (hY : Below W.heap.size W Y) (hD : W.heap.size ≤ D) (hK : Y.heap[D]? = some (.deferred (some []))) (mi : Int) (hmi : mi = (kk : Int) + 1) : RW W4 (Y.alloc (.cells #[.int .i64 mi] 3)) Y.heap.size ({ target := .collected D, args := #[] } :: ds) := by
  subst hmi
  obtain ⟨kk', h1, h2, h3, h4, h5, Ds, h6, h7, h8⟩ := h.out
  have hDl : D < Y.heap.size := (Array.getElem?_eq_some_iff.1 hK).1
  refine ⟨kk + 1, by simp [hkk], by omega, ?_, Nat.le_trans h5.size hY.size, (below_then h5 h5.size hY).alloc (Nat.le_trans h5.size hY.size) _, D :: Ds, by rw [h6]; rfl, ?_, fun D' hD' => ?_⟩
  · have := World.alloc_heap_new Y (.cells #[.int .i64 ((kk : Int) + 1)] 3)
    rw [Int.natCast_succ]
    exact this
  · refine List.nodup_cons.2 ⟨fun hm => ?_, h7⟩
    obtain ⟨_, e⟩ := h8 D hm
    have := (Array.getElem?_eq_some_iff.1 e).1
    omega
  · rcases List.mem_cons.1 hD' with rfl | hD'
    · exact ⟨Nat.le_trans h5.size hD, (Below.heap_alloc _ _ _ hDl).trans hK⟩
    · obtain ⟨e1, e2⟩ := h8 D' hD'
      have hl := (Array.getElem?_eq_some_iff.1 e2).1
      exact ⟨e1, (Below.heap_alloc _ _ _ (Nat.lt_of_lt_of_le hl hY.size)).trans ((hY.block D' hl).trans e2)⟩
theorem runWalks (xs ys : List S60) (A B : Option Addr) (c cB : Nat) (stop : Int) (w : World) (hC : k60.C w A xs.length xs) (hl : xs.length * 32 ≤ 140737488351232) (hD : k60.C w B ys.length ys) (hl2 : ys.length * 32 ≤ 140737488351232) :
    Calls Try.prog 7 #[.slice A xs.length c, .slice B ys.length cB, .int .i64 stop] w fun e w' => e = .returned (.bool true) ∧ Below w.heap.size w w' := by
  refine (callsIn_wide (n := 10)).mp ?_
  refine callsIn_of_wp_marks Try.func7 rfl trivial ?_ rfl
  simp only [Try.ntmps7, List.size_toArray, List.length_cons, List.length_nil, Nat.reduceAdd, Nat.reduceSub, Array.replicate_succ, Array.replicate_zero, List.push_toArray, List.append_toArray, List.nil_append, List.cons_append]
  have hu42 := Try.underlying42
  have hu60 := Try.underlying60
  obtain ⟨W0, hW0⟩ : ∃ W0, (w.alloc (.cells #[.int .i64 stop] 3)).alloc (.cells #[.bool false] 4) = W0 := ⟨_, rfl⟩
  have hs0 : W0.heap.size = w.heap.size + 2 := by rw [← hW0]; simp
  have hB0 : Below w.heap.size w W0 := by rw [← hW0]; exact ((Below.refl _ w).alloc (Nat.le_refl _) _).alloc (by simp) _
  have hBs : W0.heap[w.heap.size]? = some (.cells #[.int .i64 stop] 3 (0, 0)) := by rw [← hW0]; exact (Below.heap_alloc _ _ _ (by simp)).trans (World.alloc_heap_new w _)
  have hBr : W0.heap[w.heap.size + 1]? = some (.cells #[.bool false] 4 (0, 0)) := by rw [← hW0]; have := World.alloc_heap_new (w.alloc (.cells #[.int .i64 stop] 3)) (.cells #[.bool false] 4); rwa [World.size_alloc] at this
  have HC := Aside0.mk hC
  have HL := Aside0.mk hl
  have HD := Aside0.mk hD
  have HL2 := Aside0.mk hl2
  have HB0 := Aside0.mk hB0
  have HBR := Aside0.mk hBr
  have HBS := Aside0.mk hBs
  have HS0 := Aside0.mk hs0
  clear hC hl hB0 hBr hBs hs0 hD hl2
  have h14 : Fence.wide.fn 14 := trivial
  have h26 : Fence.wide.fn 26 := trivial
  have h27 : Fence.wide.fn 27 := trivial
  gi_wp2_with (first | (gi_at_call 14; refine (callsIn_wide.mpr (played1 HB0.out xs A c HC.out HL.out)).mono ?_; rintro e_ w1 ⟨v1, ps, rfl, h1, h2, h3⟩; have HB1 := Aside0.mk h2; have HF1 := Aside0.mk h3; have HS1 := Aside0.mk h1; obtain ⟨b1, c1, g, l, TA, tc, RA, rc, e1, hpi, hbg, hsl, hlm, hT, hcb, hbb, hc0, hc1, hR⟩ := h1.at_ 0 h1.lo; subst e1; have hnp := h1.lo; rw [Nat.zero_mul] at hc0 hc1; have HT := Aside0.mk hT; have HR1 := Aside0.mk (show k50.R 50 w1 w.heap.size (fun k_ => True ∧ k_ ≠ b1) (.slice RA l.length rc) (l.map it.r5) by rw [List.length_map] at hR; exact hR); rw [List.length_map] at hc1; have HSL := Aside0.mk hsl; have HLM := Aside0.mk hlm; clear h1 h2 h3 hpi hbg hsl hlm hT hcb hbb hR) | (gi_at_call 26; go_must (refine (callsIn_wide.mpr (it.all1 (HT.out.below ((Below.refl _ w1).alloc (Nat.le_refl _) (.cells #[.pointer (some ⟨g, 0, none⟩), .slice RA l.length rc] 42))))).mono ?_); rintro e_ w2 ⟨gb, rfl, h1, h2, h3⟩; have BG2 := Aside0.mk h1; have HW2 := Aside0.mk (below_then ((Below.refl w1.heap.size w1).alloc (Nat.le_refl _) _) (by simp) h3); have BP2 := Aside0.mk (blk_below (World.alloc_heap_new w1 (.cells #[.pointer (some ⟨g, 0, none⟩), .slice RA l.length rc] 42)) h3); have HGB := Aside0.mk (show w1.heap.size < gb by simp at h2; omega); clear h1 h2 h3 hc0 hc1))
  have HS2 := Aside0.mk (HS1.out.below HW2.out)
  have HB2 := Aside0.mk (below_then HB1.out HB1.out.size HW2.out)
  obtain ⟨np, hnp⟩ : ∃ np, np = ps.length := ⟨_, rfl⟩
  have HNP := Aside0.mk hnp
  rw [← hnp] at HS2 ⊢
  clear hnp
  gi_loopw [7, 11] (fun v7 v11 wr => ∃ (k : Nat) (ps : List (Nat × List S80)), v11 = .int .i64 (k : Int) ∧ Aside0 (k ≤ ys.length) ∧ Aside0 (St wr w.heap.size (xs.length + k) v7 ps) ∧ Aside0 (Below w.heap.size w wr) ∧ Aside0 (FrT (.slice (some ⟨b1, 0, none⟩) np c1) v7 w2 wr)) (fun _ v11 _ => ys.length - (intOf v11).toNat)
  case atStart => exact ⟨0, ps, rfl, ⟨Nat.zero_le _⟩, HS2, HB2, ⟨FrT.of_below _ (Below.refl _ _)⟩⟩
  case round =>
    clear HS2 HB2
    obtain ⟨k, ps, rfl, HI, HS, HB, HF⟩ := hrel
    by_cases hlt : k < ys.length
    · have i1 : decide ((k : Int) < (ys.length : Int)) = true := decide_eq_true (by omega)
      have i2 : decide (k < ys.length) = true := decide_eq_true hlt
      have i3 : (k < ys.length) = True := eq_true hlt
      obtain ⟨ad, rfl, hx0, hx1, hx2, hx3⟩ := at_T60 HD.out (k : Int) (by omega) (by omega)
      rw [Int.toNat_natCast] at hx0 hx1 hx2 hx3
      replace hx0 := (HB.out.cell (World.block_lt_of_cell? w _ hx0)).trans hx0
      replace hx1 := (HB.out.cell (World.block_lt_of_cell? w _ hx1)).trans hx1
      replace hx2 := (HB.out.cell (World.block_lt_of_cell? w _ hx2)).trans hx2
      replace hx3 := (HB.out.cell (World.block_lt_of_cell? w _ hx3)).trans hx3
      have HWR := Aside0.mk (show wrap64 ((k : Int) + 1) = (k : Int) + 1 by have := HL2.out; unfold wrap64; omega)
      have HM := Aside0.mk (it.meas k ys.length hlt HWR.out)
      have HI2 := Aside0.mk (show k + 1 ≤ ys.length by omega)
      have HSZ := Aside0.mk (show (xs.length + k + 4) * 16 ≤ 140737488355328 by have := HL.out; have := HL2.out; omega)
      generalize rd_T60 ys (k : Int) = s at hx0 hx1 hx2 hx3
      gi_wp2_with (gi_at_call 27; refine (callsIn_wide.mpr (doesAny (HB.out.alloc HB.out.size _) (HS.out.below ((Below.refl wr.heap.size wr).alloc (Nat.le_refl _) _)) s.f0 0 s.f2 s.f3 HSZ.out)).mono ?_; rintro e_ w3 ⟨v3, ps3, rfl, h1, h2, h3⟩; have HS3 := Aside0.mk h1; have HB3 := Aside0.mk h2; have HF3 := Aside0.mk (HF.out.trans ((FrT.of_below _ ((Below.refl wr.heap.size wr).alloc (Nat.le_refl _) _)).trans h3)); clear h1 h2 h3)
      go_roundw
      case rel => exact ⟨k + 1, ps3, by rw [HWR.out]; rfl, HI2, HS3, HB3, HF3⟩
      case measure => exact HM.out
    · have i1 : decide ((k : Int) < (ys.length : Int)) = false := decide_eq_false (by omega)
      have i2 : decide (k < ys.length) = false := decide_eq_false hlt
      have i3 : (k < ys.length) = False := eq_false hlt
      gi_wp2
      have hsz12 : w1.heap.size < w2.heap.size := blk_lt BP2.out
      have hown : ∀ q, (Value.slice (some ⟨b1, 0, none⟩) np c1).ownBlock = some q → ∃ cells, w2.heap[q]? = some (.cells cells 42 (0, 0)) := fun q e => by
        have e : b1 = q := by simpa [Value.ownBlock] using e
        subst e
        obtain ⟨b1', c1', g', l', TA', tc', RA', rc', e1, hpi, hbg, hsl, hlm, hT, ⟨cells, hcb⟩, hbb, hc0, hc1, hR⟩ := HS1.out.at_ 0 HS1.out.lo
        injection e1 with e1 _ _
        injection e1 with e1
        injection e1 with e1
        subst e1
        exact ⟨cells, blk_below hcb HW2.out⟩
      have hlt1 : b1 < w1.heap.size := by
        obtain ⟨b1', c1', g', l', TA', tc', RA', rc', e1, hpi, hbg, hsl, hlm, hT, ⟨cells, hcb⟩, hbb, hc0, hc1, hR⟩ := HS1.out.at_ 0 HS1.out.lo
        injection e1 with e1 _ _
        injection e1 with e1
        injection e1 with e1
        subst e1
        exact blk_lt hcb
      have keep : ∀ (q : Nat) (cells : Array Value) (t : TypeId) (fr : Nat × Nat), w2.heap[q]? = some (.cells cells t fr) → t ≠ 78 → q ≠ b1 → wr.heap[q]? = some (.cells cells t fr) := fun q cells t fr h a b => HF.out.2.1 q cells t fr h a (fun e => b (by simpa [Value.ownBlock] using e.symm))
      have kept0 : ∀ (q : Nat) (cells : Array Value) (t : TypeId) (fr : Nat × Nat), W0.heap[q]? = some (.cells cells t fr) → t ≠ 78 → q < b1 → wr.heap[q]? = some (.cells cells t fr) := fun q cells t fr h a b => keep q cells t fr (blk_below (HF1.out.2.1 q cells t fr h a (by simp [Value.ownBlock])) HW2.out) a (by omega)
      have hb1w : W0.heap.size ≤ b1 := by
        rcases HF1.out.2.2 b1 (by simp [Value.ownBlock]) with e | e
        · simp [Value.ownBlock] at e
        · exact e
      have BP4 := Aside0.mk (keep _ _ _ _ BP2.out (by decide) (by omega))
      have BG4 := Aside0.mk (keep _ _ _ _ BG2.out (by decide) (by have := HGB.out; omega))
      have BS4 := Aside0.mk (kept0 _ _ _ _ HBS.out (by decide) (by have := HS0.out; omega))
      have BR4 := Aside0.mk (kept0 _ _ _ _ HBR.out (by decide) (by have := HS0.out; omega))
      have HT4 := Aside0.mk (FrT.rowk HF.out hown (Kd.R_below HT.out.row HW2.out) (by decide))
      have HR4 := Aside0.mk (FrT.rowk HF.out hown (Kd.R_below HR1.out HW2.out) (by decide))
      have HLE := Aside0.mk HT.out.len
      have HB4 := Aside0.mk HB.out
      clear keep kept0 hown HF HS HI hb1w hlt1 i1 i2 i3 hlt
      obtain ⟨W4, hW4⟩ : ∃ W4, W4 = wr := ⟨_, rfl⟩
      subst hW4
      have hlt4 : w.heap.size + 1 < W4.heap.size := blk_lt BR4.out
      refine wpIn_loop (fun a W => (∃ (ds : List Deferred) (cb : Nat) (q16 q17 q18 q54 q55 q56 q57 q58 q59 q60 q61 q62 q63 q64 q65 q66 q67 q68 q69 q70 q71 q72 q73 q74 q75 q76 q77 q78 q79 q80 q81 q82 q83 q84 q85 q86 q87 q88 q89 q90 q91 q92 q93 q94 q95 q96 q97 q98 q99 q100 q101 q102 q103 q104 q105 q106 q107 q108 q109 q110 q111 q112 q113 q114 q115 : Value), a = { tmps := #[.slice A xs.length c, .slice B ys.length cB, .int .i64 stop, undef, undef, .pointer (some ⟨w.heap.size, 0, none⟩), .pointer (some ⟨w.heap.size + 1, 0, none⟩), u7, .bool true, .pointer (some ⟨w1.heap.size, 0, none⟩), .func (.func 44) #[] #[.pointer (some ⟨gb, 0, none⟩)], .int .i64 (k : Int), u12, u13, u14, .pointer (some ⟨cb, 0, none⟩), q16, q17, q18, .tuple #[.slice (some ⟨b1, 0, none⟩) np c1, .bool true], .slice A xs.length c, .tuple #[.slice (some ⟨b1, 0, none⟩) np c1, .bool true], .slice (some ⟨b1, 0, none⟩) np c1, .bool true, .bool true, .bool false, .slice (some ⟨b1, 0, none⟩) np c1, .pointer (some ⟨b1, 0, none⟩), .agg #[.pointer (some ⟨g, 0, none⟩), .slice RA l.length rc], .pointer (some ⟨w1.heap.size, 0, none⟩), .pointer (some ⟨g, 0, none⟩), .func (.func 44) #[] #[.pointer (some ⟨gb, 0, none⟩)], .func (.func 44) #[] #[.pointer (some ⟨gb, 0, none⟩)], .bool false, .int .i64 (k : Int), .slice B ys.length cB, .int .i64 (ys.length : Int), .bool false, u38, u39, u40, u41, u42, u43, u44, u45, u46, u47, u48, u49, u50, u51, u52, u53, q54, q55, q56, q57, q58, q59, q60, q61, q62, q63, q64, q65, q66, q67, q68, q69, q70, q71, q72, q73, q74, q75, q76, q77, q78, q79, q80, q81, q82, q83, q84, q85, q86, q87, q88, q89, q90, q91, q92, q93, q94, q95, q96, q97, q98, q99, q100, q101, q102, q103, q104, q105, q106, q107, q108, q109, q110, q111, q112, q113, q114, q115], defers := ds } ∧ RW W4 W cb ds)) (fun a _ => 2 - a.defers.length) ?start ?round
      case start => exact ⟨[], W4.heap.size, _, _, _, _, _, _, _, _, _, _, _, _, _, _, _, _, _, _, _, _, _, _, _, _, _, _, _, _, _, _, _, _, _, _, _, _, _, _, _, _, _, _, _, _, _, _, _, _, _, _, _, _, _, _, _, _, _, _, _, _, _, _, _, _, _, rfl, RW.start W4⟩
      case round =>
        rintro a W ⟨ds, cb, q16, q17, q18, q54, q55, q56, q57, q58, q59, q60, q61, q62, q63, q64, q65, q66, q67, q68, q69, q70, q71, q72, q73, q74, q75, q76, q77, q78, q79, q80, q81, q82, q83, q84, q85, q86, q87, q88, q89, q90, q91, q92, q93, q94, q95, q96, q97, q98, q99, q100, q101, q102, q103, q104, q105, q106, q107, q108, q109, q110, q111, q112, q113, q114, q115, rfl, HRW⟩
        obtain ⟨kk, hkk, hk2, hcb, hcbl, hBW, hds⟩ := HRW.out
        have bp := blk_below BP4.out hBW
        have bg := blk_below BG4.out hBW
        have bs := blk_below BS4.out hBW
        have br := blk_below BR4.out hBW
        have hgbl : gb < W.heap.size := blk_lt bg
        obtain rfl | rfl | rfl : kk = 0 ∨ kk = 1 ∨ kk = 2 := by omega
        · skip
          obtain ⟨hkk', hcb'⟩ : ds.length = 0 ∧ W.heap[cb]? = some (.cells #[.int .i64 0] 3 (0, 0)) := ⟨hkk, hcb⟩
          have c0 : W.cell? ⟨cb, 0, none⟩ = some (.int .i64 0) := (blk_cell hcb' 0).trans rfl
          have d0_ := blk_frozen hcb' 0
          gi_wp2
          obtain ⟨ad, vs, hAd, hvl, hv1, hvc⟩ := rowAll (Kd.R_below HT4.out hBW)
          have hX1 : Below W.heap.size W (W.alloc (.cells #[.int .i64 0] 3)) := (Below.refl _ W).alloc (Nat.le_refl _) _
          have bgX := blk_alloc bg (.cells #[.int .i64 0] 3)
          obtain ⟨ab, hab1, hab2⟩ : ∃ ab, (0 < l.length → ad.block = ab) ∧ ab < W.heap.size := by
            by_cases hp : 0 < l.length
            · exact ⟨ad.block, fun _ => rfl, (hAd hp).2⟩
            · exact ⟨gb, fun h => absurd h hp, hgbl⟩
          refine wpIn_rangeFunc_ownG rfl (by omega) (gf := 44) (lb := #[.pointer (some ⟨gb, 0, none⟩)]) rfl trivial (enters_of Try.func44 (by kernel_rfl) rfl)
            (stops2 Fence.wide (10 - 1) trivial rfl (by omega) gb ab ad TA l.length tc (fun hp => ⟨(hAd hp).1, hab1 hp⟩) vs hvl HLE.out (W.alloc (.cells #[.int .i64 0] 3)) (by simp; omega) ((blk_cell bgX 0).trans rfl) (fun W' hW' => hvc W' (below_then hX1 hX1.size hW'))) (fun h k => KB.trans h k) (KB.put (by simp; omega) (by simp; omega)) (Below.refl _ _) (fun _ => rfl)
            (fun pre Y => Y.heap[W.heap.size]? = some (.cells #[.int .i64 (pre.length : Int)] 3 (0, 0)) ∧ Below W.heap.size W Y)
            (fun cc pre Y => SX l W W.heap.size 0 stop cc pre Y)
            ?hI ?hIx ⟨World.alloc_heap_new W _, hX1⟩
            (fun x => { tmps := #[.slice A xs.length c, .slice B ys.length cB, .int .i64 stop, undef, undef, .pointer (some ⟨w.heap.size, 0, none⟩), .pointer (some ⟨w.heap.size + 1, 0, none⟩), u7, .bool true, .pointer (some ⟨w1.heap.size, 0, none⟩), .func (.func 44) #[] #[.pointer (some ⟨gb, 0, none⟩)], .int .i64 (k : Int), u12, u13, u14, .pointer (some ⟨cb, 0, none⟩), .pointer (some ⟨W.heap.size, 0, none⟩), .int .i64 x.1, .int .i64 x.2, .tuple #[.slice (some ⟨b1, 0, none⟩) np c1, .bool true], .slice A xs.length c, .tuple #[.slice (some ⟨b1, 0, none⟩) np c1, .bool true], .slice (some ⟨b1, 0, none⟩) np c1, .bool true, .bool true, .bool false, .slice (some ⟨b1, 0, none⟩) np c1, .pointer (some ⟨b1, 0, none⟩), .agg #[.pointer (some ⟨g, 0, none⟩), .slice RA l.length rc], .pointer (some ⟨w1.heap.size, 0, none⟩), .pointer (some ⟨g, 0, none⟩), .func (.func 44) #[] #[.pointer (some ⟨gb, 0, none⟩)], .func (.func 44) #[] #[.pointer (some ⟨gb, 0, none⟩)], .bool false, .int .i64 (k : Int), .slice B ys.length cB, .int .i64 (ys.length : Int), .bool false, u38, u39, u40, u41, u42, u43, u44, u45, u46, u47, u48, u49, u50, u51, u52, u53, .int .i64 0, .bool true, q56, q57, .func (.func 44) #[] #[.pointer (some ⟨gb, 0, none⟩)], .int .i64 x.1, .int .i64 x.2, q61, q62, q63, q64, q65, q66, q67, q68, q69, q70, q71, q72, q73, q74, q75, q76, q77, q78, q79, q80, q81, q82, q83, q84, q85, q86, q87, q88, q89, q90, q91, q92, q93, q94, q95, q96, q97, q98, q99, q100, q101, q102, q103, q104, q105, q106, q107, q108, q109, q110, q111, q112, q113, q114, q115], defers := [] }) ?assign ?body ?done ?stop
          case hI =>
            exact fun s X Y row ⟨e1, e3⟩ hg hr => ⟨(grownBy_keeps_cells hg (fun r e => (hr r e).2) e1 rfl).trans e1, e3.grown hg e3.size (fun k_ e => Nat.le_trans hX1.size (hr k_ e).1)⟩
          case hIx =>
            intro cc s X Y row hs hg hr
            rcases hs.out with hs | ⟨e0, e1, e2, e3, e4⟩
            · exact ⟨.inl hs⟩
            · exact ⟨.inr ⟨e0, e1, e2, (grownBy_keeps_cells hg (fun r e => (hr r e).2) e3 rfl).trans e3, e4.grown hg e4.size (fun k_ e => Nat.le_trans hX1.size (hr k_ e).1)⟩⟩
          case assign =>
            intro l x W K hK
            obtain ⟨x0, x1⟩ := x
            simp only [it.en]
            clear hv1 hvc hvl hAd hab1 hab2 bgX hX1 c0 d0_ hcb hcb' hds bp bg bs br hBW
            gi_wp2
            exact hK
          case body =>
            rintro l_ pre x Y ⟨m1, hB⟩ hpl
            obtain ⟨x0, x1⟩ := x
            dsimp only
            obtain ⟨nn, hnn⟩ : ∃ nn, nn = pre.length := ⟨_, rfl⟩
            rw [← hnn] at m1 hpl
            obtain ⟨adR, rfl, hx0, hx1⟩ := at_T50 (Kd.R_reads' HR4.out).2.2 (nn : Int) (by omega) (by rw [List.length_map]; omega)
            rw [Int.toNat_natCast, it.rd5 hpl] at hx0 hx1
            simp only [it.r5] at hx0 hx1
            have hBY := below_then hBW hBW.size hB
            replace hx0 := (hBY.cell (World.block_lt_of_cell? W4 _ hx0)).trans hx0
            replace hx1 := (hBY.cell (World.block_lt_of_cell? W4 _ hx1)).trans hx1
            have bpY := blk_below BP4.out hBY
            have bsY := blk_below BS4.out hBY
            have brY := blk_below BR4.out hBY
            have bcY := blk_below hcb' hB
            have cN : Y.cell? ⟨W.heap.size, 0, none⟩ = some (.int .i64 (nn : Int)) := (blk_cell m1 0).trans rfl
            have dN := blk_frozen m1 0
            have c1 : Y.cell? ⟨w1.heap.size, 1, none⟩ = some (.slice (some adR) l.length rc) := (blk_cell bpY 1).trans rfl
            have cR : Y.cell? ⟨w.heap.size + 1, 0, none⟩ = some (.bool false) := (blk_cell brY 0).trans rfl
            have dR := blk_frozen brY 0
            have hcbW : cb < W.heap.size := blk_lt hcb'
            have hsbW : w.heap.size < W.heap.size := blk_lt bs
            have cC1 : (Y.setCell ⟨W.heap.size, 0, none⟩ (.int .i64 ((nn : Int) + 1))).cell? ⟨cb, 0, none⟩ = some (.int .i64 0) := (blk_cell (blk_far1 bcY (Nat.ne_of_lt hcbW) _) 0).trans rfl
            have cN1 : (Y.setCell ⟨W.heap.size, 0, none⟩ (.int .i64 ((nn : Int) + 1))).cell? ⟨W.heap.size, 0, none⟩ = some (.int .i64 ((nn : Int) + 1)) := (blk_cell (blk_put m1 0 (.int .i64 ((nn : Int) + 1)) rfl) 0).trans rfl
            have cS1 : (Y.setCell ⟨W.heap.size, 0, none⟩ (.int .i64 ((nn : Int) + 1))).cell? ⟨w.heap.size, 0, none⟩ = some (.int .i64 stop) := (blk_cell (blk_far1 bsY (Nat.ne_of_lt hsbW) _) 0).trans rfl
            have i1 : decide ((nn : Int) ≥ (l.length : Int)) = false := decide_eq_false (by omega)
            have i2 : decide (l.length ≤ nn) = false := decide_eq_false (by omega)
            have i3 : decide ((l.length : Int) ≤ (nn : Int)) = false := decide_eq_false (by omega)
            have i4 : (nn : Int) < (l.length : Int) := by omega
            have hwr : wrap64 ((nn : Int) + 1) = (nn : Int) + 1 := by have := HLE.out; unfold wrap64; omega
            have HNN := Aside0.mk hnn
            have M1 := Aside0.mk m1
            have HPL := Aside0.mk hpl
            have HBA := Aside0.mk hB
            have HGL := Aside0.mk hgbl
            have HA2 := Aside0.mk hab2
            have HE := Aside0.mk (show rd_T80 l ((0 + pre.length : Nat) : Int) = rd_T80 l (nn : Int) by rw [Nat.zero_add, hnn])
            clear hnn m1 hpl hB hv1 hvc hvl hAd hab1 bgX hX1 c0 d0_ hcb hcb' hds bp bg bs br hBW hBY bpY bsY brY bcY hcbW hsbW hgbl hab2
            generalize hEE : rd_T80 l (nn : Int) = E at *
            have fin : ∀ x : Int × Int, (Y.setCell ⟨W.heap.size, 0, none⟩ (.int .i64 ((nn : Int) + 1))).heap[W.heap.size]? = some (.cells #[.int .i64 ((pre ++ [x]).length : Int)] 3 (0, 0)) := fun x => by
              rw [List.length_append, List.length_singleton, ← HNN.out, Int.natCast_succ]
              exact blk_put M1.out 0 (.int .i64 ((nn : Int) + 1)) rfl
            have FIN := Aside0.mk fin
            clear fin
            by_cases hx : x0 = E.f0 ∧ x1 = E.f1
            · obtain ⟨rfl, rfl⟩ := hx
              by_cases hs : (nn : Int) + 1 = stop
              · have s1 : ((nn : Int) + 1 == stop) = true := beq_iff_eq.2 hs
                have s2 : decide ((nn : Int) + 1 = stop) = true := decide_eq_true hs
                have HST := Aside0.mk hs
                clear hs
                gi_wp2
                exact ⟨(KeepsOthers.setCell _ _ _).from _, ⟨.inr ⟨rfl, rfl, by rw [List.length_append, List.length_singleton, ← HNN.out, Int.natCast_succ]; exact HST.out, FIN.out _, HBA.out.setCell (p := ⟨W.heap.size, 0, none⟩) (Nat.le_refl _) _⟩⟩⟩
              · have s1 : ((nn : Int) + 1 == stop) = false := beq_eq_false_iff_ne.2 hs
                have s2 : decide ((nn : Int) + 1 = stop) = false := decide_eq_false hs
                clear hs
                gi_wp2
                exact ⟨(KeepsOthers.setCell _ _ _).from _, KB.set (Nat.ne_of_lt HGL.out) (Nat.ne_of_lt HA2.out) _ _, FIN.out _, HBA.out.setCell (p := ⟨W.heap.size, 0, none⟩) (Nat.le_refl _) _⟩
            · have HX := Aside0.mk (show ¬ ((x0, x1).1 = (rd_T80 l ((0 + pre.length : Nat) : Int)).f0 ∧ (x0, x1).2 = (rd_T80 l ((0 + pre.length : Nat) : Int)).f1) by rw [HE.out]; exact hx)
              by_cases hy : x0 = E.f0
              · have hz : ¬ x1 = E.f1 := fun e => hx ⟨hy, e⟩
                subst hy
                have j1 : (x1 == E.f1) = false := beq_eq_false_iff_ne.2 hz
                have j2 : decide (x1 = E.f1) = false := decide_eq_false hz
                clear hx hz
                gi_wp2
                exact ⟨(KeepsOthers.setCell _ _ _).from _, ⟨.inl ⟨rfl, BadF.mk1 (by have := HPL.out; have := HNN.out; omega) HX.out⟩⟩⟩
              · have j1 : (x0 == E.f0) = false := beq_eq_false_iff_ne.2 hy
                have j2 : decide (x0 = E.f0) = false := decide_eq_false hy
                clear hx hy
                gi_wp2
                exact ⟨(KeepsOthers.setCell _ _ _).from _, ⟨.inl ⟨rfl, BadF.mk1 (by have := HPL.out; have := HNN.out; omega) HX.out⟩⟩⟩
          case done =>
            rintro D ys Y hD rfl ⟨m1, hB⟩ hK
            rw [hvl] at m1
            have hBY := below_then hBW hBW.size hB
            have cN : Y.cell? ⟨W.heap.size, 0, none⟩ = some (.int .i64 (l.length : Int)) := (blk_cell m1 0).trans rfl
            have c1 : Y.cell? ⟨w1.heap.size, 1, none⟩ = some (.slice RA l.length rc) := (blk_cell (blk_below BP4.out hBY) 1).trans rfl
            have cS : Y.cell? ⟨w.heap.size, 0, none⟩ = some (.int .i64 stop) := (blk_cell (blk_below BS4.out hBY) 0).trans rfl
            have cC : Y.cell? ⟨cb, 0, none⟩ = some (.int .i64 0) := (blk_cell (blk_below hcb' hB) 0).trans rfl
            have HNX := Aside0.mk (HRW.next hkk' (by omega) hB (by simp at hD; omega) hK (0 + 1) rfl)
            have HKL := Aside0.mk hkk'
            clear m1 hB hK hv1 hvc hvl hAd hab1 bgX hX1 c0 d0_ hcb hcb' hds bp bg bs br hBW hBY
            by_cases q1 : stop ≤ 0
            · have p1 : decide (stop ≤ 0) = true := decide_eq_true q1
              clear q1
              gi_wp2
              first | (exact ⟨⟨_, _, _, _, _, _, _, _, _, _, _, _, _, _, _, _, _, _, _, _, _, _, _, _, _, _, _, _, _, _, _, _, _, _, _, _, _, _, _, _, _, _, _, _, _, _, _, _, _, _, _, _, _, _, _, _, _, _, _, _, _, _, _, _, _, _, _, rfl, HNX.out⟩, by have := HKL.out; simp; omega⟩) | exact ⟨_, _, ⟨rfl, rfl⟩, HNX.out⟩
            · have p1 : decide (stop ≤ 0) = false := decide_eq_false q1
              by_cases q2 : stop > (l.length : Int)
              · have p2 : decide (stop > (l.length : Int)) = true := decide_eq_true q2
                have p3 : decide ((l.length : Int) < stop) = true := decide_eq_true q2
                clear q1 q2
                gi_wp2
                first | (exact ⟨⟨_, _, _, _, _, _, _, _, _, _, _, _, _, _, _, _, _, _, _, _, _, _, _, _, _, _, _, _, _, _, _, _, _, _, _, _, _, _, _, _, _, _, _, _, _, _, _, _, _, _, _, _, _, _, _, _, _, _, _, _, _, _, _, _, _, _, _, rfl, HNX.out⟩, by have := HKL.out; simp; omega⟩) | exact ⟨_, _, ⟨rfl, rfl⟩, HNX.out⟩
              · have p2 : decide (stop > (l.length : Int)) = false := decide_eq_false q2
                have p3 : decide ((l.length : Int) < stop) = false := decide_eq_false q2
                clear q1 q2
                gi_wp2
                first | (exact ⟨⟨_, _, _, _, _, _, _, _, _, _, _, _, _, _, _, _, _, _, _, _, _, _, _, _, _, _, _, _, _, _, _, _, _, _, _, _, _, _, _, _, _, _, _, _, _, _, _, _, _, _, _, _, _, _, _, _, _, _, _, _, _, _, _, _, _, _, _, rfl, HNX.out⟩, by have := HKL.out; simp; omega⟩) | exact ⟨_, _, ⟨rfl, rfl⟩, HNX.out⟩
          case stop =>
            rintro D cc pre Y hD ⟨k', hk0, hk1, rfl⟩ hsx hK
            rcases hsx.out with ⟨rfl, hbad⟩ | ⟨rfl, hz0, hst, m1, hB⟩
            · exfalso
              obtain ⟨p, x, hpx, hp, hx⟩ := hbad.out
              have hl1 : (vs.take k').length = p.length + 1 := by rw [hpx]; simp
              rw [List.length_take] at hl1
              have hg : (vs.take k')[p.length]? = some x := by rw [hpx]; simp
              rw [List.getElem?_take, if_pos (by omega)] at hg
              have hv := hv1 p.length (by omega)
              rw [List.getD_eq_getElem?_getD, hg] at hv
              rw [Nat.zero_add] at hx
              exact hx hv
            · have hlk : (vs.take k').length = k' := by rw [List.length_take]; omega
              rw [hlk] at m1 hst
              have p1 : decide (stop ≤ 0) = false := decide_eq_false (by omega)
              have p2 : decide (stop > (l.length : Int)) = false := decide_eq_false (by omega)
              have p3 : decide ((l.length : Int) < stop) = false := decide_eq_false (by omega)
              have hBY := below_then hBW hBW.size hB
              have cN : Y.cell? ⟨W.heap.size, 0, none⟩ = some (.int .i64 (k' : Int)) := (blk_cell m1 0).trans rfl
              have c1 : Y.cell? ⟨w1.heap.size, 1, none⟩ = some (.slice RA l.length rc) := (blk_cell (blk_below BP4.out hBY) 1).trans rfl
              have cS : Y.cell? ⟨w.heap.size, 0, none⟩ = some (.int .i64 stop) := (blk_cell (blk_below BS4.out hBY) 0).trans rfl
              have cC : Y.cell? ⟨cb, 0, none⟩ = some (.int .i64 0) := (blk_cell (blk_below hcb' hB) 0).trans rfl
              have HNX := Aside0.mk (HRW.next hkk' (by omega) hB (by simp at hD; omega) hK (0 + 1) rfl)
              have HKL := Aside0.mk hkk'
              clear m1 hB hK hv1 hvc hvl hAd hab1 bgX hX1 c0 d0_ hcb hcb' hds bp bg bs br hBW hBY
              clear hst hlk hsx hk0 hk1
              gi_wp2
              first | (exact ⟨⟨_, _, _, _, _, _, _, _, _, _, _, _, _, _, _, _, _, _, _, _, _, _, _, _, _, _, _, _, _, _, _, _, _, _, _, _, _, _, _, _, _, _, _, _, _, _, _, _, _, _, _, _, _, _, _, _, _, _, _, _, _, _, _, _, _, _, _, rfl, HNX.out⟩, by have := HKL.out; simp; omega⟩) | exact ⟨_, _, ⟨rfl, rfl⟩, HNX.out⟩
        · skip
          obtain ⟨hkk', hcb'⟩ : ds.length = 1 ∧ W.heap[cb]? = some (.cells #[.int .i64 1] 3 (0, 0)) := ⟨hkk, hcb⟩
          have c0 : W.cell? ⟨cb, 0, none⟩ = some (.int .i64 1) := (blk_cell hcb' 0).trans rfl
          have d0_ := blk_frozen hcb' 0
          gi_wp2
          obtain ⟨ad, vs, hAd, hvl, hv1, hvc⟩ := rowAll (Kd.R_below HT4.out hBW)
          have hX1 : Below W.heap.size W (W.alloc (.cells #[.int .i64 0] 3)) := (Below.refl _ W).alloc (Nat.le_refl _) _
          have bgX := blk_alloc bg (.cells #[.int .i64 0] 3)
          obtain ⟨ab, hab1, hab2⟩ : ∃ ab, (0 < l.length → ad.block = ab) ∧ ab < W.heap.size := by
            by_cases hp : 0 < l.length
            · exact ⟨ad.block, fun _ => rfl, (hAd hp).2⟩
            · exact ⟨gb, fun h => absurd h hp, hgbl⟩
          refine wpIn_rangeFunc_ownG rfl (by omega) (gf := 44) (lb := #[.pointer (some ⟨gb, 0, none⟩)]) rfl trivial (enters_of Try.func44 (by kernel_rfl) rfl)
            (stops2 Fence.wide (10 - 1) trivial rfl (by omega) gb ab ad TA l.length tc (fun hp => ⟨(hAd hp).1, hab1 hp⟩) vs hvl HLE.out (W.alloc (.cells #[.int .i64 0] 3)) (by simp; omega) ((blk_cell bgX 0).trans rfl) (fun W' hW' => hvc W' (below_then hX1 hX1.size hW'))) (fun h k => KB.trans h k) (KB.put (by simp; omega) (by simp; omega)) (Below.refl _ _) (fun _ => rfl)
            (fun pre Y => Y.heap[W.heap.size]? = some (.cells #[.int .i64 (pre.length : Int)] 3 (0, 0)) ∧ Below W.heap.size W Y)
            (fun cc pre Y => SX l W W.heap.size 1 stop cc pre Y)
            ?hI ?hIx ⟨World.alloc_heap_new W _, hX1⟩
            (fun x => { tmps := #[.slice A xs.length c, .slice B ys.length cB, .int .i64 stop, undef, undef, .pointer (some ⟨w.heap.size, 0, none⟩), .pointer (some ⟨w.heap.size + 1, 0, none⟩), u7, .bool true, .pointer (some ⟨w1.heap.size, 0, none⟩), .func (.func 44) #[] #[.pointer (some ⟨gb, 0, none⟩)], .int .i64 (k : Int), u12, u13, u14, .pointer (some ⟨cb, 0, none⟩), .pointer (some ⟨W.heap.size, 0, none⟩), .int .i64 x.1, .int .i64 x.2, .tuple #[.slice (some ⟨b1, 0, none⟩) np c1, .bool true], .slice A xs.length c, .tuple #[.slice (some ⟨b1, 0, none⟩) np c1, .bool true], .slice (some ⟨b1, 0, none⟩) np c1, .bool true, .bool true, .bool false, .slice (some ⟨b1, 0, none⟩) np c1, .pointer (some ⟨b1, 0, none⟩), .agg #[.pointer (some ⟨g, 0, none⟩), .slice RA l.length rc], .pointer (some ⟨w1.heap.size, 0, none⟩), .pointer (some ⟨g, 0, none⟩), .func (.func 44) #[] #[.pointer (some ⟨gb, 0, none⟩)], .func (.func 44) #[] #[.pointer (some ⟨gb, 0, none⟩)], .bool false, .int .i64 (k : Int), .slice B ys.length cB, .int .i64 (ys.length : Int), .bool false, u38, u39, u40, u41, u42, u43, u44, u45, u46, u47, u48, u49, u50, u51, u52, u53, .int .i64 1, .bool true, q56, q57, .func (.func 44) #[] #[.pointer (some ⟨gb, 0, none⟩)], .int .i64 x.1, .int .i64 x.2, q61, q62, q63, q64, q65, q66, q67, q68, q69, q70, q71, q72, q73, q74, q75, q76, q77, q78, q79, q80, q81, q82, q83, q84, q85, q86, q87, q88, q89, q90, q91, q92, q93, q94, q95, q96, q97, q98, q99, q100, q101, q102, q103, q104, q105, q106, q107, q108, q109, q110, q111, q112, q113, q114, q115], defers := [] }) ?assign ?body ?done ?stop
          case hI =>
            exact fun s X Y row ⟨e1, e3⟩ hg hr => ⟨(grownBy_keeps_cells hg (fun r e => (hr r e).2) e1 rfl).trans e1, e3.grown hg e3.size (fun k_ e => Nat.le_trans hX1.size (hr k_ e).1)⟩
          case hIx =>
            intro cc s X Y row hs hg hr
            rcases hs.out with hs | ⟨e0, e1, e2, e3, e4⟩
            · exact ⟨.inl hs⟩
            · exact ⟨.inr ⟨e0, e1, e2, (grownBy_keeps_cells hg (fun r e => (hr r e).2) e3 rfl).trans e3, e4.grown hg e4.size (fun k_ e => Nat.le_trans hX1.size (hr k_ e).1)⟩⟩
          case assign =>
            intro l x W K hK
            obtain ⟨x0, x1⟩ := x
            simp only [it.en]
            clear hv1 hvc hvl hAd hab1 hab2 bgX hX1 c0 d0_ hcb hcb' hds bp bg bs br hBW
            gi_wp2
            exact hK
          case body =>
            rintro l_ pre x Y ⟨m1, hB⟩ hpl
            obtain ⟨x0, x1⟩ := x
            dsimp only
            obtain ⟨nn, hnn⟩ : ∃ nn, nn = pre.length := ⟨_, rfl⟩
            rw [← hnn] at m1 hpl
            obtain ⟨adR, rfl, hx0, hx1⟩ := at_T50 (Kd.R_reads' HR4.out).2.2 (nn : Int) (by omega) (by rw [List.length_map]; omega)
            rw [Int.toNat_natCast, it.rd5 hpl] at hx0 hx1
            simp only [it.r5] at hx0 hx1
            have hBY := below_then hBW hBW.size hB
            replace hx0 := (hBY.cell (World.block_lt_of_cell? W4 _ hx0)).trans hx0
            replace hx1 := (hBY.cell (World.block_lt_of_cell? W4 _ hx1)).trans hx1
            have bpY := blk_below BP4.out hBY
            have bsY := blk_below BS4.out hBY
            have brY := blk_below BR4.out hBY
            have bcY := blk_below hcb' hB
            have cN : Y.cell? ⟨W.heap.size, 0, none⟩ = some (.int .i64 (nn : Int)) := (blk_cell m1 0).trans rfl
            have dN := blk_frozen m1 0
            have c1 : Y.cell? ⟨w1.heap.size, 1, none⟩ = some (.slice (some adR) l.length rc) := (blk_cell bpY 1).trans rfl
            have cR : Y.cell? ⟨w.heap.size + 1, 0, none⟩ = some (.bool false) := (blk_cell brY 0).trans rfl
            have dR := blk_frozen brY 0
            have hcbW : cb < W.heap.size := blk_lt hcb'
            have hsbW : w.heap.size < W.heap.size := blk_lt bs
            have cC1 : (Y.setCell ⟨W.heap.size, 0, none⟩ (.int .i64 ((nn : Int) + 1))).cell? ⟨cb, 0, none⟩ = some (.int .i64 1) := (blk_cell (blk_far1 bcY (Nat.ne_of_lt hcbW) _) 0).trans rfl
            have cN1 : (Y.setCell ⟨W.heap.size, 0, none⟩ (.int .i64 ((nn : Int) + 1))).cell? ⟨W.heap.size, 0, none⟩ = some (.int .i64 ((nn : Int) + 1)) := (blk_cell (blk_put m1 0 (.int .i64 ((nn : Int) + 1)) rfl) 0).trans rfl
            have cS1 : (Y.setCell ⟨W.heap.size, 0, none⟩ (.int .i64 ((nn : Int) + 1))).cell? ⟨w.heap.size, 0, none⟩ = some (.int .i64 stop) := (blk_cell (blk_far1 bsY (Nat.ne_of_lt hsbW) _) 0).trans rfl
            have i1 : decide ((nn : Int) ≥ (l.length : Int)) = false := decide_eq_false (by omega)
            have i2 : decide (l.length ≤ nn) = false := decide_eq_false (by omega)
            have i3 : decide ((l.length : Int) ≤ (nn : Int)) = false := decide_eq_false (by omega)
            have i4 : (nn : Int) < (l.length : Int) := by omega
            have hwr : wrap64 ((nn : Int) + 1) = (nn : Int) + 1 := by have := HLE.out; unfold wrap64; omega
            have HNN := Aside0.mk hnn
            have M1 := Aside0.mk m1
            have HPL := Aside0.mk hpl
            have HBA := Aside0.mk hB
            have HGL := Aside0.mk hgbl
            have HA2 := Aside0.mk hab2
            have HE := Aside0.mk (show rd_T80 l ((0 + pre.length : Nat) : Int) = rd_T80 l (nn : Int) by rw [Nat.zero_add, hnn])
            clear hnn m1 hpl hB hv1 hvc hvl hAd hab1 bgX hX1 c0 d0_ hcb hcb' hds bp bg bs br hBW hBY bpY bsY brY bcY hcbW hsbW hgbl hab2
            generalize hEE : rd_T80 l (nn : Int) = E at *
            have fin : ∀ x : Int × Int, (Y.setCell ⟨W.heap.size, 0, none⟩ (.int .i64 ((nn : Int) + 1))).heap[W.heap.size]? = some (.cells #[.int .i64 ((pre ++ [x]).length : Int)] 3 (0, 0)) := fun x => by
              rw [List.length_append, List.length_singleton, ← HNN.out, Int.natCast_succ]
              exact blk_put M1.out 0 (.int .i64 ((nn : Int) + 1)) rfl
            have FIN := Aside0.mk fin
            clear fin
            by_cases hx : x0 = E.f0 ∧ x1 = E.f1
            · obtain ⟨rfl, rfl⟩ := hx
              gi_wp2
              exact ⟨(KeepsOthers.setCell _ _ _).from _, KB.set (Nat.ne_of_lt HGL.out) (Nat.ne_of_lt HA2.out) _ _, FIN.out _, HBA.out.setCell (p := ⟨W.heap.size, 0, none⟩) (Nat.le_refl _) _⟩
            · have HX := Aside0.mk (show ¬ ((x0, x1).1 = (rd_T80 l ((0 + pre.length : Nat) : Int)).f0 ∧ (x0, x1).2 = (rd_T80 l ((0 + pre.length : Nat) : Int)).f1) by rw [HE.out]; exact hx)
              by_cases hy : x0 = E.f0
              · have hz : ¬ x1 = E.f1 := fun e => hx ⟨hy, e⟩
                subst hy
                have j1 : (x1 == E.f1) = false := beq_eq_false_iff_ne.2 hz
                have j2 : decide (x1 = E.f1) = false := decide_eq_false hz
                clear hx hz
                gi_wp2
                exact ⟨(KeepsOthers.setCell _ _ _).from _, ⟨.inl ⟨rfl, BadF.mk1 (by have := HPL.out; have := HNN.out; omega) HX.out⟩⟩⟩
              · have j1 : (x0 == E.f0) = false := beq_eq_false_iff_ne.2 hy
                have j2 : decide (x0 = E.f0) = false := decide_eq_false hy
                clear hx hy
                gi_wp2
                exact ⟨(KeepsOthers.setCell _ _ _).from _, ⟨.inl ⟨rfl, BadF.mk1 (by have := HPL.out; have := HNN.out; omega) HX.out⟩⟩⟩
          case done =>
            rintro D ys Y hD rfl ⟨m1, hB⟩ hK
            rw [hvl] at m1
            have hBY := below_then hBW hBW.size hB
            have cN : Y.cell? ⟨W.heap.size, 0, none⟩ = some (.int .i64 (l.length : Int)) := (blk_cell m1 0).trans rfl
            have c1 : Y.cell? ⟨w1.heap.size, 1, none⟩ = some (.slice RA l.length rc) := (blk_cell (blk_below BP4.out hBY) 1).trans rfl
            have cS : Y.cell? ⟨w.heap.size, 0, none⟩ = some (.int .i64 stop) := (blk_cell (blk_below BS4.out hBY) 0).trans rfl
            have cC : Y.cell? ⟨cb, 0, none⟩ = some (.int .i64 1) := (blk_cell (blk_below hcb' hB) 0).trans rfl
            have HNX := Aside0.mk (HRW.next hkk' (by omega) hB (by simp at hD; omega) hK (1 + 1) rfl)
            have HKL := Aside0.mk hkk'
            clear m1 hB hK hv1 hvc hvl hAd hab1 bgX hX1 c0 d0_ hcb hcb' hds bp bg bs br hBW hBY
            gi_wp2
            first | (exact ⟨⟨_, _, _, _, _, _, _, _, _, _, _, _, _, _, _, _, _, _, _, _, _, _, _, _, _, _, _, _, _, _, _, _, _, _, _, _, _, _, _, _, _, _, _, _, _, _, _, _, _, _, _, _, _, _, _, _, _, _, _, _, _, _, _, _, _, _, _, rfl, HNX.out⟩, by have := HKL.out; simp; omega⟩) | exact ⟨_, _, ⟨rfl, rfl⟩, HNX.out⟩
          case stop =>
            rintro D cc pre Y hD ⟨k', hk0, hk1, rfl⟩ hsx hK
            rcases hsx.out with ⟨rfl, hbad⟩ | ⟨rfl, hz0, hst, m1, hB⟩
            · exfalso
              obtain ⟨p, x, hpx, hp, hx⟩ := hbad.out
              have hl1 : (vs.take k').length = p.length + 1 := by rw [hpx]; simp
              rw [List.length_take] at hl1
              have hg : (vs.take k')[p.length]? = some x := by rw [hpx]; simp
              rw [List.getElem?_take, if_pos (by omega)] at hg
              have hv := hv1 p.length (by omega)
              rw [List.getD_eq_getElem?_getD, hg] at hv
              rw [Nat.zero_add] at hx
              exact hx hv
            · exact absurd hz0 (by decide)
        · obtain ⟨Ds, rfl, hnd, hDs⟩ := hds
          rw [List.length_map] at hkk
          obtain ⟨D1, D2, rfl⟩ : ∃ D1 D2, Ds = [D1, D2] := by
            match Ds, hkk with
            | [D1, D2], _ => exact ⟨D1, D2, rfl⟩
          obtain ⟨g1, k1⟩ := hDs D1 (by simp)
          obtain ⟨g2, k2⟩ := hDs D2 (by simp)
          have hne : D1 ≠ D2 := by simpa using hnd
          have c0 : W.cell? ⟨cb, 0, none⟩ = some (.int .i64 2) := (blk_cell hcb 0).trans rfl
          have cR : W.cell? ⟨w.heap.size + 1, 0, none⟩ = some (.bool false) := (blk_cell br 0).trans rfl
          have dR := blk_frozen br 0
          simp only [List.map_cons, List.map_nil]
          have K1 := Aside0.mk k1
          have K2 := Aside0.mk k2
          have BR := Aside0.mk br
          have HBW := Aside0.mk (below_then HB4.out HB4.out.size hBW)
          clear k1 k2 br bp bg bs hcb hBW hnd hDs hkk hk2 HRW
          gi_wp2
          have hlw := hlt4
          have n1 : D1 ≠ w.heap.size + 1 := by omega
          have n2 : D2 ≠ w.heap.size + 1 := by omega
          have hl2 : D2 < W.heap.size := (Array.getElem?_eq_some_iff.1 K2.out).1
          have k1' : (W.setCell ⟨w.heap.size + 1, 0, none⟩ (.bool true)).heap[D1]? = some (.deferred (some [])) := (Below.heap_setCell W ⟨w.heap.size + 1, 0, none⟩ (.bool true) D1 n1).trans K1.out
          have k2' : (W.setCell ⟨w.heap.size + 1, 0, none⟩ (.bool true)).heap[D2]? = some (.deferred (some [])) := (Below.heap_setCell W ⟨w.heap.size + 1, 0, none⟩ (.bool true) D2 n2).trans K2.out
          have kR := blk_put BR.out 0 (.bool true) rfl
          have hb : Below w.heap.size w (W.setCell ⟨w.heap.size + 1, 0, none⟩ (.bool true)) := HBW.out.setCell (p := ⟨w.heap.size + 1, 0, none⟩) (Nat.le_succ _) _
          obtain ⟨W', hW'⟩ : ∃ W', W.setCell ⟨w.heap.size + 1, 0, none⟩ (.bool true) = W' := ⟨_, rfl⟩
          rw [hW'] at k1' k2' kR hb ⊢
          have hp1 := grownBy_putObj' W' D1 (.deferred none)
          have k2p : (W'.putObj D1 (.deferred none)).heap[D2]? = some (.deferred (some [])) := (hp1.block D2 (Array.getElem?_eq_some_iff.1 k2').1 (fun e => by injection e with e; exact hne e.symm)).trans k2'
          have z1 := cell_kept ((blk_cell kR 0).trans rfl) hp1 (fun r e => by cases e; exact ⟨_, k1', rfl⟩)
          have z2 := cell_kept z1 (grownBy_putObj' _ D2 (.deferred none)) (fun r e => by cases e; exact ⟨_, k2p, rfl⟩)
          have hbb := it.below_put hb hb.size (show w.heap.size ≤ D1 by omega) (.deferred none)
          refine ⟨by simp, .inl ⟨_, _, rfl, run_takeDeferred k1', ⟨by simp, .inl ⟨_, _, rfl, run_takeDeferred k2p, ?_⟩⟩⟩⟩
          refine ⟨.bool true, ?_, rfl, it.below_put hbb hbb.size (by omega) _⟩
          simp [results, Try.f7, go_sem, z2]
end
end Go.Proofs.Ytgpmkljklkmipaa.X
