/- Texts of the claim of WireRowUpto, one behind the other; what nothing names is left out. -/
import Derived.WalkLawsBesides
import Derived.Laws.Pointers
import Derived.Shelf.Abstract
import Derived.Deep.DeepMust
import Derived.Deep.QuietTactic
import Derived.BigQuiet
import Derived.Defers
import Derived.Recover
import Derived.Test.YtnkbobblnhaclaaZWireRowUpto3
import Derived.Test.YtnkbobblnhaclaaZWireRowUpto2
import Derived.Test.YtnkbobblnhaclaaZWireRowUpto31
import Derived.Laws.Rows
import Derived.Test.YtnkbobblnhaclaaZWireRowUpto9
import Derived.Test.YtnkbobblnhaclaaZWireRowUpto30
import Derived.Test.YtnkbobblnhaclaaZWireRowUpto23
import Derived.ArgAppend
import Derived.Test.YtnkbobblnhaclaaZWireRowUpto21
import Derived.Test.YtnkbobblnhaclaaZWireRowUpto22
import Derived.Test.YtnkbobblnhaclaaZWireRowUpto24
import Derived.ChangeArms
import Derived.Test.YtnkbobblnhaclaaZWireRowUpto25
import Derived.Test.YtnkbobblnhaclaaZWireRowUpto26
import Derived.Test.YtnkbobblnhaclaaZWireRowUpto27
set_option linter.unusedVariables false
set_option linter.unusedSimpArgs false
/- Xxwtake5: walks by hand, for the claim. -/
namespace Go.Proofs.Ytnkbobblnhaclaa.X
open Go.RowKit Go.Proofs.YtnkbobblnhaclaaW.PrintWords Go.Proofs.YtnkbobblnhaclaaW.PrintLast Go.Proofs.YtnkbobblnhaclaaW.PrintMore Go.Proofs.YtnkbobblnhaclaaW
section
set_option maxHeartbeats 4000000
set_option maxRecDepth 100000
theorem wt.arrL_all {p : S25 → Prop} {f : Int → Int → wt.R3 S25} (hf : ∀ (a l : Int) (x : S25) (a2 l2 : Int), f a l = .ok x a2 l2 → p x) : ∀ (k : Nat) (acc : List S25) (a l : Int) (vs : List S25) (a2 l2 : Int), (∀ y ∈ acc, p y) → wt.arrL f k acc a l = .ok vs a2 l2 → ∀ y ∈ vs, p y
  | 0, acc, a, l, vs, a2, l2, hb, h => by
    unfold wt.arrL at h
    injection h with e1 _ _
    subst e1; exact hb
  | k + 1, acc, a, l, vs, a2, l2, hb, h => by
    unfold wt.arrL at h
    rcases hfa : f a l with ⟨x, a1, l1⟩ | ⟨e, q⟩
    · rw [hfa] at h
      refine wt.arrL_all hf k _ a1 l1 vs a2 l2 (fun y hy => ?_) h
      rcases List.mem_append.1 hy with hy | hy
      · exact hb y hy
      · rw [List.mem_singleton.1 hy]; exact hf a l x a1 l1 hfa
    · rw [hfa] at h; cases h
theorem wt.recL_all {p : S25 → Prop} {bs : List Int} {u : Int → Int × Int × Int} {f : Int → Int → wt.R3 S25} (hf : ∀ (a l : Int) (x : S25) (a2 l2 : Int), f a l = .ok x a2 l2 → p x) : ∀ (k : Nat) (ks : List ByteArray) (acc : List S25) (a l : Int) (vs : List ByteArray × List S25) (a2 l2 : Int), (∀ y ∈ acc, p y) → wt.recL bs u f k ks acc a l = .ok vs a2 l2 → ∀ y ∈ vs.2, p y
  | 0, ks, acc, a, l, vs, a2, l2, hb, h => by
    unfold wt.recL at h
    injection h with e1 _ _
    subst e1; exact hb
  | k + 1, ks, acc, a, l, vs, a2, l2, hb, h => by
    unfold wt.recL at h
    rcases hka : wt.keyS bs u ks a l with ⟨kk, a1, l1⟩ | ⟨e, q⟩
    · rw [hka] at h
      dsimp only at h
      rcases hfa : f a1 l1 with ⟨x, a3, l3⟩ | ⟨e, q⟩
      · rw [hfa] at h
        refine wt.recL_all hf k _ _ a3 l3 vs a2 l2 (fun y hy => ?_) h
        rcases List.mem_append.1 hy with hy | hy
        · exact hb y hy
        · rw [List.mem_singleton.1 hy]; exact hf a1 l1 x a3 l3 hfa
      · rw [hfa] at h; cases h
    · rw [hka] at h; cases h
theorem wt.valS_deep {bs : List Int} {u i : Int → Int × Int × Int} : ∀ (d : Nat) (a l : Int) (x : S25) (a2 l2 : Int), wt.valS bs u i d a l = .ok x a2 l2 → wt.deepL d x.f3
  | 0, a, l, x, a2, l2, h => by
    rw [wt.valS] at h
    split at h <;> cases h
  | d + 1, a, l, x, a2, l2, h => by
    rw [wt.valS_s] at h
    have leaf : ∀ {y : S25} {b m : Int}, y.f3 = [] → wt.R3.ok y b m = .ok x a2 l2 → wt.deepL (d + 1) x.f3 := fun e h => by
      injection h with e1 _ _
      subst e1
      rw [e]
      exact wt.deepL_nil d
    have nb : ∀ {e q : Int}, wt.R3.bad e q = .ok x a2 l2 → wt.deepL (d + 1) x.f3 := fun h => by cases h
    by_cases h0 : a = (bs.length : Int) ∨ rd bs a > 6
    · rw [if_pos h0] at h; exact nb h
    rw [if_neg h0] at h
    by_cases h1 : 1 > l
    · rw [if_pos h1] at h; exact nb h
    rw [if_neg h1] at h
    by_cases k1 : rd bs a = 1
    · rw [if_pos k1] at h; exact leaf rfl h
    rw [if_neg k1] at h
    by_cases k2 : rd bs a = 2
    · rw [if_pos k2] at h; exact leaf rfl h
    rw [if_neg k2] at h
    by_cases k3 : rd bs a = 3
    · rw [if_pos k3] at h
      by_cases e1 : (i (a + 1)).2.2 ≠ 0
      · rw [if_pos e1] at h; exact nb h
      · rw [if_neg e1] at h; exact leaf rfl h
    rw [if_neg k3] at h
    by_cases k4 : rd bs a = 4
    · rw [if_pos k4] at h
      by_cases e1 : (u (a + 1)).2.2 ≠ 0
      · rw [if_pos e1] at h; exact nb h
      rw [if_neg e1] at h
      by_cases e2 : (l - 1) / 1 < (u (a + 1)).1
      · rw [if_pos e2] at h; exact nb h
      rw [if_neg e2] at h
      by_cases e3 : (bs.length : Int) - (u (a + 1)).2.1 < (u (a + 1)).1
      · rw [if_pos e3] at h; exact nb h
      · rw [if_neg e3] at h; exact leaf rfl h
    rw [if_neg k4] at h
    by_cases k5 : rd bs a = 5
    · rw [if_pos k5] at h
      by_cases e1 : (u (a + 1)).2.2 ≠ 0
      · rw [if_pos e1] at h; exact nb h
      rw [if_neg e1] at h
      by_cases e2 : (l - 1) / 1 < (u (a + 1)).1
      · rw [if_pos e2] at h; exact nb h
      rw [if_neg e2] at h
      rcases hL : wt.arrL (wt.valS bs u i d) (u (a + 1)).1.toNat [] (u (a + 1)).2.1 (l - 1) with ⟨vs, a3, l3⟩ | ⟨e, p⟩
      · rw [hL] at h
        have hp := wt.arrL_all (p := fun y => wt.deepL d y.f3) (wt.valS_deep d) _ _ _ _ _ _ _ (fun y hy => by cases hy) hL
        injection h with e1 _ _
        subst e1
        exact hp
      · rw [hL] at h; exact nb h
    rw [if_neg k5] at h
    by_cases k6 : rd bs a = 6
    · rw [if_pos k6] at h
      by_cases e1 : (u (a + 1)).2.2 ≠ 0
      · rw [if_pos e1] at h; exact nb h
      rw [if_neg e1] at h
      by_cases e2 : (l - 1) / 2 < (u (a + 1)).1
      · rw [if_pos e2] at h; exact nb h
      rw [if_neg e2] at h
      rcases hL : wt.recL bs u (wt.valS bs u i d) (u (a + 1)).1.toNat [] [] (u (a + 1)).2.1 (l - 1) with ⟨⟨ks, vs⟩, a3, l3⟩ | ⟨e, p⟩
      · rw [hL] at h
        have hp := wt.recL_all (p := fun y => wt.deepL d y.f3) (wt.valS_deep d) _ _ _ _ _ _ _ _ (fun y hy => by cases hy) hL
        injection h with e1 _ _
        subst e1
        exact hp
      · rw [hL] at h; exact nb h
    rw [if_neg k6] at h
    exact leaf rfl h
/-- What Take comes to. -/
def wt.takeS (bs : List Int) (u i : Int → Int × Int × Int) (at_ : Int) : wt.R3 S25 := if at_ < 0 ∨ at_ > (bs.length : Int) then .bad 41 0 else wt.valS bs u i 8 at_ 2048
/-- Behind Take. -/
def wt.GotT (r : wt.R3 S25) (w : World) (e : Ending) (w' : World) : Prop :=
  match r with
  | .ok x a' _ => ∃ v3 v4 : Value, e = .returned (.tuple #[.agg #[.int .i64 x.f0, .int .i64 x.f1, .string x.f2, v3, v4], .int .i64 a', .int .i64 0]) ∧ wt.VRow w' (fun k => w.heap.size ≤ k ∧ k < w'.heap.size) 8 v3 x.f3 ∧ wt.KRow w' (fun k => w.heap.size ≤ k ∧ k < w'.heap.size) v4 x.f4 ∧ Below w.heap.size w w'
  | .bad f p => e = .returned (.tuple #[.agg #[.int .i64 0, .int .i64 0, .string ⟨#[]⟩, .slice none 0 0, .slice none 0 0], .int .i64 p, .int .i64 f]) ∧ Below w.heap.size w w'
theorem wt.res22 {tmps : Array Value} {w : World} {bv bn be : Nat} (hp4 : tmps[4]? = some (.pointer (some ⟨bv, 0, none⟩))) (hp5 : tmps[5]? = some (.pointer (some ⟨bn, 0, none⟩))) (hp6 : tmps[6]? = some (.pointer (some ⟨be, 0, none⟩))) {v0 v1 v2 v3 v4 : Value} {x y : Int} (hv : w.heap[bv]? = some (.cells #[v0, v1, v2, v3, v4] 25 (0, 0))) (hn : w.heap[bn]? = some (.cells #[.int .i64 x] 3 (0, 0))) (he : w.heap[be]? = some (.cells #[.int .i64 y] 27 (0, 0))) :
    (results Try.f22 tmps).run Try.prog w = .ok (.tuple #[.agg #[v0, v1, v2, v3, v4], .int .i64 x, .int .i64 y]) w := by
  have z0 : w.cell? ⟨bv, 0, none⟩ = some v0 := (blk_cell hv 0).trans rfl
  have z1 : w.cell? ⟨bv, 1, none⟩ = some v1 := (blk_cell hv 1).trans rfl
  have z2 : w.cell? ⟨bv, 2, none⟩ = some v2 := (blk_cell hv 2).trans rfl
  have z3 : w.cell? ⟨bv, 3, none⟩ = some v3 := (blk_cell hv 3).trans rfl
  have z4 : w.cell? ⟨bv, 4, none⟩ = some v4 := (blk_cell hv 4).trans rfl
  have c1 : w.cell? ⟨bn, 0, none⟩ = some (.int .i64 x) := (blk_cell hn 0).trans rfl
  have c2 : w.cell? ⟨be, 0, none⟩ = some (.int .i64 y) := (blk_cell he 0).trans rfl
  simp [results, Try.results22, hp4, hp5, hp6, asAddr, z0, z1, z2, z3, z4, c1, c2, go_sem]
theorem wt.grp_eq {cv : Array Value} {v0 v1 v2 v3 v4 : Value} (hs : cv.size = 5) (h : wt.grp cv 0 v0 v1 v2 v3 v4) : cv = #[v0, v1, v2, v3, v4] := by
  obtain ⟨h0, h1, h2, h3, h4⟩ := h
  apply Array.ext (by simp [hs])
  intro i hi hj
  have hi5 : i < 5 := by omega
  have key : cv[i]? = #[v0, v1, v2, v3, v4][i]? := by
    match i, hi5 with
    | 0, _ => exact h0
    | 1, _ => exact h1
    | 2, _ => exact h2
    | 3, _ => exact h3
    | 4, _ => exact h4
  rw [Array.getElem?_eq_getElem hi, Array.getElem?_eq_getElem hj] at key
  exact Option.some.inj key
theorem wt.three_new (w : World) (A B C : Obj) : (((w.alloc A).alloc B).alloc C).heap[w.heap.size]? = some A ∧ (((w.alloc A).alloc B).alloc C).heap[w.heap.size + 1]? = some B ∧ (((w.alloc A).alloc B).alloc C).heap[w.heap.size + 1 + 1]? = some C ∧ (((w.alloc A).alloc B).alloc C).heap.size = w.heap.size + 1 + 1 + 1 ∧ Below w.heap.size w (((w.alloc A).alloc B).alloc C) := by
  have s1 := Deep.nblk_alloc w A
  have s2 := Deep.nblk_alloc (w.alloc A) B
  have s3 := Deep.nblk_alloc ((w.alloc A).alloc B) C
  have e1 := heap_alloc_new w A
  have e2 := heap_alloc_new (w.alloc A) B
  have e3 := heap_alloc_new ((w.alloc A).alloc B) C
  refine ⟨?_, ?_, ?_, by omega, (((Below.refl _ _).alloc (Nat.le_refl _) _).alloc (by omega) _).alloc (by omega) _⟩
  · rw [Deep.blk_alloc_lt _ _ _ (by omega), Deep.blk_alloc_lt _ _ _ (by omega)]; exact e1
  · rw [Deep.blk_alloc_lt _ _ _ (by omega), ← s1]; exact e2
  · rw [← s1, ← s2]; exact e3
theorem wt.takeA {bs : List Int} {w : World} {A : Option Addr} {c : Nat} {at_ : Int} (h : at_ < 0 ∨ at_ > (bs.length : Int)) : Calls Try.prog 22 #[.slice A bs.length c, .int .i64 at_] w (wt.GotT (.bad 41 0) w) := by
  obtain ⟨m, hm⟩ : ∃ m, bs.length = m := ⟨_, rfl⟩
  rw [hm] at h ⊢
  have fin : ∀ (tmps : Array Value), tmps[4]? = some (.pointer (some ⟨w.heap.size, 0, none⟩)) → tmps[5]? = some (.pointer (some ⟨w.heap.size + 1, 0, none⟩)) → tmps[6]? = some (.pointer (some ⟨w.heap.size + 1 + 1, 0, none⟩)) → ∃ v, (results Try.f22 tmps).run Try.prog (((w.alloc (.cells #[.int .i64 0, .int .i64 0, .string ⟨#[]⟩, .slice none 0 0, .slice none 0 0] 25)).alloc (.cells #[.int .i64 0] 3)).alloc (.cells #[.int .i64 41] 27)) = .ok v (((w.alloc (.cells #[.int .i64 0, .int .i64 0, .string ⟨#[]⟩, .slice none 0 0, .slice none 0 0] 25)).alloc (.cells #[.int .i64 0] 3)).alloc (.cells #[.int .i64 41] 27)) ∧ wt.GotT (.bad 41 0) w (.returned v) (((w.alloc (.cells #[.int .i64 0, .int .i64 0, .string ⟨#[]⟩, .slice none 0 0, .slice none 0 0] 25)).alloc (.cells #[.int .i64 0] 3)).alloc (.cells #[.int .i64 41] 27)) := fun tmps q4 q5 q6 => by
    obtain ⟨hv, hn, he, _, hb⟩ := wt.three_new w (.cells #[.int .i64 0, .int .i64 0, .string ⟨#[]⟩, .slice none 0 0, .slice none 0 0] 25) (.cells #[.int .i64 0] 3) (.cells #[.int .i64 41] 27)
    exact ⟨_, wt.res22 q4 q5 q6 hv hn he, rfl, hb⟩
  have FIN := Aside0.mk fin
  clear fin
  by_cases h1 : at_ < 0
  · have d1 : decide (at_ < 0) = true := decide_eq_true h1
    clear h
    go_enter_defers Try.func22, Try.ntmps22
    go_wp2
    exact FIN.out _ rfl rfl rfl
  · have d1 : decide (at_ < 0) = false := decide_eq_false h1
    have h2 : at_ > (m : Int) := h.resolve_left h1
    have d2 : decide (at_ > (m : Int)) = true := decide_eq_true h2
    have d3 : decide ((m : Int) < at_) = true := decide_eq_true h2
    clear h h1
    go_enter_defers Try.func22, Try.ntmps22
    go_wp2
    exact FIN.out _ rfl rfl rfl
/-- Ahead of reader.value. -/
theorem wt.takeC {bs : List Int} {u i : Int → Int × Int × Int} (hU : wt.Uin bs u i) {w : World} {A : Option Addr} {c : Nat} {at_ : Int} (hC : (Kd.int .u8).C w A bs.length bs) (hc : bs.length ≤ c) (h0 : 0 ≤ at_) (h1 : at_ ≤ (bs.length : Int)) {ee pp : Int} (hr : wt.valS bs u i 8 at_ 2048 = .bad ee pp) :
    Calls Try.prog 22 #[.slice A bs.length c, .int .i64 at_] w (wt.GotT (.bad ee pp) w) := by
  have hmf : ∀ (fn : Fn) (first cap : Array Value) (w : World), (Instr.makeFunc fn first cap).run Try.prog w = .ok (.func fn first cap) w := fun _ _ _ _ => rfl
  have d1 : decide (at_ < 0) = false := decide_eq_false (by omega)
  have d2 : decide (at_ > (bs.length : Int)) = false := decide_eq_false (by omega)
  have d3 : decide ((bs.length : Int) < at_) = false := decide_eq_false (by omega)
  have HU := Aside0.mk hU
  have HC := Aside0.mk hC
  have HCC := Aside0.mk hc
  have H0 := Aside0.mk h0
  have H1 := Aside0.mk h1
  have HR := Aside0.mk hr
  have HT := Aside0.mk (wt.three_new w (.cells #[.int .i64 0, .int .i64 0, .string ⟨#[]⟩, .slice none 0 0, .slice none 0 0] 25) (.cells #[.int .i64 0] 3) (.cells #[.int .i64 0] 27))
  clear hU hC hc h0 h1 hr
  go_enter_defers Try.func22, Try.ntmps22
  go_wp2_with (first | ((with_reducible refine gate_dst (N := 21) rfl ?_); refine box_event ?hg (N := 21) ?hd (cs := #[.slice A bs.length c, .int .i64 at_, .int .i64 2048]) (t := 58) ?hr ?_; (case hd => rfl); (case hg => rfl); (case hr => first | (go_simp; done) | (go_simp; rfl)); intro g hg w2 hbox hb1; have HB2 := Aside0.mk (below_then HT.out.2.2.2.2 HT.out.2.2.2.2.size hb1); have V2 := Aside0.mk (blk_below HT.out.1 hb1); have N2 := Aside0.mk (blk_below HT.out.2.1 hb1); have E2 := Aside0.mk (blk_below HT.out.2.2.1 hb1); have G2 := Aside0.mk hbox; have HG := Aside0.mk (hg.trans HT.out.2.2.2.1); clear hbox hb1 hg) | (go_at_call 38; refine (wt.value1 HU.out (by have := HG.out; omega) HCC.out 8 (by omega) 0 rfl w2 at_ 2048 HB2.out G2.out (Kd.C_below HC.out HB2.out) H0.out H1.out (by omega) (by omega)).mono ?_; rw [HR.out]; rintro e_ w3 ⟨rfl, hx⟩; have V3 := Aside0.mk ((hx.fr.2 _ (blk_lt V2.out) (by have := HG.out; omega)).trans V2.out); have N3 := Aside0.mk ((hx.fr.2 _ (blk_lt N2.out) (by have := HG.out; omega)).trans N2.out); have E3 := Aside0.mk ((hx.fr.2 _ (blk_lt E2.out) (by have := HG.out; omega)).trans E2.out); have HB3 := Aside0.mk hx.bel; clear hx; unfold wt.flt))
  refine leaves_cons (f := 37) (args := #[.pointer (some ⟨w.heap.size, 0, none⟩), .pointer (some ⟨w.heap.size + 1, 0, none⟩), .pointer (some ⟨w.heap.size + 1 + 1, 0, none⟩)]) (by simp) (by simp [go_sem]) ?_
  refine (wt.catch_bad _ _ _ ee pp _ _ _ (by decide) w3 V3.out N3.out E3.out (by omega) (by omega) (by omega)).mono ?_
  rintro e u' w4 ⟨rfl, rfl, ⟨cv, hv, hsz, hg⟩, hn, he, hb⟩
  have hcv := wt.grp_eq hsz hg
  subst hcv
  have hs : settle (.panicking [{ v := .iface 54 (.agg #[.int .i64 ee, .int .i64 pp]), recovered := true }]) = .returning := rfl
  show Leaves Try.prog Try.f22 _ _ [] (settle _) _
  rw [hs]
  refine ⟨_, wt.res22 rfl rfl rfl hv hn he, rfl, ?_⟩
  exact ⟨hb.1.trans HB3.out.os, hb.2.1.trans HB3.out.tape, hb.2.2.1.trans HB3.out.output, Nat.le_trans HB3.out.size hb.2.2.2.1, fun k hk => (hb.2.2.2.2 k (Nat.lt_of_lt_of_le hk HB3.out.size) (by omega) (by omega) (by omega)).trans (HB3.out.block k hk)⟩
theorem wt.leaves_congr {P : Program} {fn : Func} {t1 t2 : Array Value} {R : Ending → World → Prop} (he : results fn t1 = results fn t2) : ∀ (ds : List Deferred) {u : FrameMode} {w : World}, Leaves P fn t1 R ds u w → Leaves P fn t2 R ds u w
  | [], .returning, w, h => by
    obtain ⟨v, h1, h2⟩ := h
    exact ⟨v, he ▸ h1, h2⟩
  | [], .panicking _, w, h => h
  | [], .run, _, h => h
  | d :: ds, u, w, h => by
    obtain ⟨h1, fv, cap, f, args, h2, h3, h4⟩ := h
    refine ⟨h1, fv, cap, f, args, h2, h3, h4.mono fun e u' w' hh => ?_⟩
    cases e with
    | returned v => exact wt.leaves_congr he ds hh
    | panicked ch => exact wt.leaves_congr he ds hh
    | outgrown => exact hh
theorem wt.leaves22 {P : Program} {N : Tmp} (hN : N ≠ 4 ∧ N ≠ 5 ∧ N ≠ 6) {a : Act} {v : Value} {R : Ending → World → Prop} {u : FrameMode} {w : World} (h : Leaves P Try.f22 (a.put (some N) v).tmps R (a.put (some N) v).defers u w) : Leaves P Try.f22 a.tmps R a.defers u w := by
  refine wt.leaves_congr ?_ a.defers h
  have e : ∀ k, N ≠ k → (a.put (some N) v).tmps.getD k undef = a.tmps.getD k undef := fun k hk => by
    simp [Act.put, Array.getElem?_setIfInBounds, hk]
  simp only [results, Try.results22]
  simp [e 4 hN.1, e 5 hN.2.1, e 6 hN.2.2, Act.put, Array.getElem?_setIfInBounds, hN.1, hN.2.1, hN.2.2]
theorem wt.takeB {bs : List Int} {u i : Int → Int × Int × Int} (hU : wt.Uin bs u i) {w : World} {A : Option Addr} {c : Nat} {at_ : Int} (hC : (Kd.int .u8).C w A bs.length bs) (hc : bs.length ≤ c) (h0 : 0 ≤ at_) (h1 : at_ ≤ (bs.length : Int)) {x : S25} {a2 l2 : Int} (hr : wt.valS bs u i 8 at_ 2048 = .ok x a2 l2) :
    Calls Try.prog 22 #[.slice A bs.length c, .int .i64 at_] w (wt.GotT (.ok x a2 l2) w) := by
  have hmf : ∀ (fn : Fn) (first cap : Array Value) (w : World), (Instr.makeFunc fn first cap).run Try.prog w = .ok (.func fn first cap) w := fun _ _ _ _ => rfl
  have d1 : decide (at_ < 0) = false := decide_eq_false (by omega)
  have d2 : decide (at_ > (bs.length : Int)) = false := decide_eq_false (by omega)
  have d3 : decide ((bs.length : Int) < at_) = false := decide_eq_false (by omega)
  have HU := Aside0.mk hU
  have HC := Aside0.mk hC
  have HCC := Aside0.mk hc
  have H0 := Aside0.mk h0
  have H1 := Aside0.mk h1
  have HR := Aside0.mk hr
  have HDP := Aside0.mk (wt.valS_deep 8 _ _ _ _ _ hr)
  have HT := Aside0.mk (wt.three_new w (.cells #[.int .i64 0, .int .i64 0, .string ⟨#[]⟩, .slice none 0 0, .slice none 0 0] 25) (.cells #[.int .i64 0] 3) (.cells #[.int .i64 0] 27))
  clear hU hC hc h0 h1 hr
  go_enter_defers Try.func22, Try.ntmps22
  go_wp2_with (first | ((with_reducible refine gate_dst (N := 21) rfl ?_); refine box_event ?hg (N := 21) ?hd (cs := #[.slice A bs.length c, .int .i64 at_, .int .i64 2048]) (t := 58) ?hr ?_; (case hd => rfl); (case hg => rfl); (case hr => first | (go_simp; done) | (go_simp; rfl)); intro g hg w2 hbox hb1; have HB2 := Aside0.mk (below_then HT.out.2.2.2.2 HT.out.2.2.2.2.size hb1); have V2 := Aside0.mk (blk_below HT.out.1 hb1); have N2 := Aside0.mk (blk_below HT.out.2.1 hb1); have E2 := Aside0.mk (blk_below HT.out.2.2.1 hb1); have G2 := Aside0.mk hbox; have HG := Aside0.mk (hg.trans HT.out.2.2.2.1); clear hbox hb1 hg) | (go_at_call 38; refine (wt.value1 HU.out (by have := HG.out; omega) HCC.out 8 (by omega) 0 rfl w2 at_ 2048 HB2.out G2.out (Kd.C_below HC.out HB2.out) H0.out H1.out (by omega) (by omega)).mono ?_; rw [HR.out]; rintro e_ w3 ⟨⟨v3, v4, rfl, hr3, hr4⟩, hx⟩; have V3 := Aside0.mk ((hx.fr.2 _ (blk_lt V2.out) (by have := HG.out; omega)).trans V2.out); have N3 := Aside0.mk ((hx.fr.2 _ (blk_lt N2.out) (by have := HG.out; omega)).trans N2.out); have E3 := Aside0.mk ((hx.fr.2 _ (blk_lt E2.out) (by have := HG.out; omega)).trans E2.out); have G3 := Aside0.mk hx.blk; have HB3 := Aside0.mk hx.bel; have R3_ := Aside0.mk (wt.VRow.of_R 8 (Y := fun k => w2.heap.size ≤ k ∧ k < w3.heap.size) (Kd.R_bound hr3) (fun k hk => ⟨hk.1, hk.2.2.1⟩) HDP.out); have R4_ := Aside0.mk (wt.KRow.of_R (Y := fun k => w2.heap.size ≤ k ∧ k < w3.heap.size) (Kd.R_bound hr4) (fun k hk => ⟨hk.1, hk.2.2.1⟩)); have HSZ := Aside0.mk hx.fr.1; clear hx hr3 hr4) | ((with_reducible refine gate_store (p := 4) rfl ?_); refine wt.store_res rfl rfl 4 _ rfl w.heap.size rfl (.int .i64 x.f0) (.int .i64 x.f1) (.string x.f2) v3 v4 rfl (fun q hq => by simp at hq; rcases hq with rfl | rfl | rfl | rfl | rfl <;> first | rfl | exact (wt.one_slice (by obtain ⟨A_, c_, e_, _⟩ := wt.VRow.C 8 R3_.out; exact ⟨_, _, _, e_⟩)).1 | exact (wt.one_slice (by obtain ⟨A_, c_, e_, _⟩ := R4_.out.C; exact ⟨_, _, _, e_⟩)).1) _ rfl V3.out ?_; intro w4 hres hgr; have V4 := Aside0.mk hres; have N4 := Aside0.mk ((hgr.block _ (blk_lt N3.out) (fun e_ => by have := Option.some.inj e_; omega)).trans N3.out); have E4 := Aside0.mk ((hgr.block _ (blk_lt E3.out) (fun e_ => by have := Option.some.inj e_; omega)).trans E3.out); have G4 := Aside0.mk ((hgr.block _ (blk_lt G3.out) (fun e_ => by have := Option.some.inj e_; have := HG.out; omega)).trans G3.out); have HB4 := Aside0.mk (show Below w.heap.size w w4 from ⟨hgr.os.trans HB3.out.os, hgr.tape.trans HB3.out.tape, hgr.output.trans HB3.out.output, Nat.le_trans HB3.out.size hgr.size, fun k hk => (hgr.block k (Nat.lt_of_lt_of_le hk HB3.out.size) (fun e_ => by have := Option.some.inj e_; omega)).trans (HB3.out.block k hk)⟩); have HYW := Aside0.mk (show w.heap.size + 1 + 1 + 1 < w2.heap.size from by have := blk_lt G2.out; have := HG.out; omega); have VR4 := Aside0.mk (wt.VRow.move (w := w3) (w1 := w4) (Y := fun k => w2.heap.size ≤ k ∧ k < w3.heap.size) (fun _ h => h) (fun k hk hlt => hgr.block k hlt (fun e_ => by have := Option.some.inj e_; have := HYW.out; omega)) 8 R3_.out); have KR4 := Aside0.mk (R4_.out.move (w1 := w4) (fun _ h => h) (fun k hk hlt => hgr.block k hlt (fun e_ => by have := Option.some.inj e_; have := HYW.out; omega))); have HSZ4 := Aside0.mk (show w3.heap.size ≤ w4.heap.size from hgr.size); clear hres hgr))
  generalize hYd : (fun k => w2.heap.size ≤ k ∧ k < w3.heap.size) = Y at *
  have HYD := Aside0.mk (show ∀ k, Y k → w2.heap.size ≤ k ∧ k < w3.heap.size from fun k hk => by rw [← hYd] at hk; exact hk)
  clear hYd R3_ R4_
  refine start_ (n := 9) (S := fun w' => w'.cell? ⟨g, 1, none⟩ = some (.int .i64 a2)) (ds := []) #[false, false, false, false, false, false, false, false, false] (by kernel_rfl) rfl rfl ((blk_cell (blk_drew G4.out) 1).trans rfl) (fun hHeld => ?_)
  generalize hwd : w4.drew = wd at hHeld ⊢
  have Vd := Aside0.mk (hwd ▸ blk_drew V4.out)
  have Nd := Aside0.mk (hwd ▸ blk_drew N4.out)
  have Ed := Aside0.mk (hwd ▸ blk_drew E4.out)
  have Gd := Aside0.mk (hwd ▸ blk_drew G4.out)
  have HBd := Aside0.mk (hwd ▸ below_drew HB4.out)
  have VRd := Aside0.mk (hwd ▸ wt.VRow.move (w := w4) (w1 := w4.drew) (fun _ h => h) (fun _ _ _ => rfl) 8 VR4.out)
  have KRd := Aside0.mk (hwd ▸ KR4.out.move (w1 := w4.drew) (fun _ h => h) (fun _ _ _ => rfl))
  have HSd := Aside0.mk (show w3.heap.size ≤ wd.heap.size from hwd ▸ HSZ4.out)
  clear hwd
  refine pure_ (i := 2) (N := some 26) (v := ?_) (a' := ?_) #[false, false, true, false, false, false, false, false, false] rfl rfl (by kernel_rfl) (fun _ _ _ h => wt.leaves22 (by decide) h) (Or.inl ⟨by rfl, ?_⟩) ?_ ?_
  rotate_left
  · intro w'
    go_simp
    with_reducible rfl
  rotate_left
  · simp only [Act.put, List.setIfInBounds_toArray, List.set_cons_zero, List.set_cons_succ, i64_w, i32_w]
    rfl
  refine pure_ (i := 3) (N := some 27) (v := ?_) (a' := ?_) #[false, false, true, true, false, false, false, false, false] rfl rfl (by kernel_rfl) (fun _ _ _ h => wt.leaves22 (by decide) h) (Or.inl ⟨by rfl, ?_⟩) ?_ ?_
  rotate_left
  · intro w'
    go_simp
    with_reducible rfl
  rotate_left
  · simp only [Act.put, List.setIfInBounds_toArray, List.set_cons_zero, List.set_cons_succ, i64_w, i32_w]
    rfl
  refine pure_ (i := 4) (N := some 28) (v := ?_) (a' := ?_) #[false, false, true, true, true, false, false, false, false] rfl rfl (by kernel_rfl) (fun _ _ _ h => wt.leaves22 (by decide) h) (Or.inl ⟨by rfl, ?_⟩) ?_ ?_
  rotate_left
  · intro w'
    go_simp
    with_reducible rfl
  rotate_left
  · simp only [Act.put, List.setIfInBounds_toArray, List.set_cons_zero, List.set_cons_succ, i64_w, i32_w]
    rfl
  refine take_ (i := 5) (N := some 29) (v := ?_) (a' := ?_) #[false, false, true, true, true, true, false, false, false] rfl rfl (by kernel_rfl) (fun _ _ _ h => wt.leaves22 (by decide) h) (Or.inl ⟨by rfl, ?_⟩) hHeld ?_ ?_
  rotate_left
  · intro w' s0
    go_simp
    with_reducible rfl
  rotate_left
  · simp only [Act.put, List.setIfInBounds_toArray, List.set_cons_zero, List.set_cons_succ, i64_w, i32_w]
    rfl
  refine one_ (i := 0) (N := some 24) #[true, false, true, true, true, true, false, false, false] rfl rfl (by kernel_rfl) (by decide) (fun K hK => ?_)
  have z0 := (blk_cell Vd.out 0).trans rfl
  have z1 := (blk_cell Vd.out 1).trans rfl
  have z2 := (blk_cell Vd.out 2).trans rfl
  have z3 := (blk_cell Vd.out 3).trans rfl
  have z4 := (blk_cell Vd.out 4).trans rfl
  refine value_ (w1 := ?_) (v := ?_) (by rfl) rfl ?_ ?_
  rotate_left 2
  · go_simp
    constructor
    · rfl
    · rfl
  clear z0 z1 z2 z3 z4
  refine hK.out _ _ ((blk_cell Gd.out 1).trans rfl) (fun hHeld => ?_)
  clear hK K
  refine norm_ (a' := ?_) ?_ ?_
  rotate_left
  · show Act.put _ (some 24) _ = _
    simp only [Act.put, List.setIfInBounds_toArray, List.set_cons_zero, List.set_cons_succ, i64_w, i32_w]
    rfl
  refine one_ (i := 1) (N := some 25) #[true, true, true, true, true, true, false, false, false] rfl rfl (by kernel_rfl) (by decide) (fun K hK => ?_)
  refine goes_ Try.func39 (by kernel_rfl) rfl #[.agg #[.int .i64 x.f0, .int .i64 x.f1, .string x.f2, v3, v4]] (by rfl) rfl rfl (by (try simp only [List.map_toArray, List.map_cons, List.map_nil]); first | done | rfl) ?_
  refine (wt.tight1 8 x v3 v4 _ (fun k hk => by have := (HYD.out k hk).2; have := HSd.out; omega) VRd.out KRd.out).mono ?_
  rintro e w5 ⟨rfl, hs⟩
  refine ⟨_, rfl, ?_⟩
  have V5 := Aside0.mk ((hs.out _ (blk_lt Vd.out) (fun y => by have := (HYD.out _ y).1; have := HYW.out; have := HG.out; omega)).trans Vd.out)
  have N5 := Aside0.mk ((hs.out _ (blk_lt Nd.out) (fun y => by have := (HYD.out _ y).1; have := HYW.out; have := HG.out; omega)).trans Nd.out)
  have E5 := Aside0.mk ((hs.out _ (blk_lt Ed.out) (fun y => by have := (HYD.out _ y).1; have := HYW.out; have := HG.out; omega)).trans Ed.out)
  have G5 := Aside0.mk ((hs.out _ (blk_lt Gd.out) (fun y => by have := (HYD.out _ y).1; have := HYW.out; have := HG.out; omega)).trans Gd.out)
  have HB5 := Aside0.mk (show Below w.heap.size w w5 from ⟨hs.os.trans HBd.out.os, hs.tape.trans HBd.out.tape, hs.output.trans HBd.out.output, Nat.le_trans HBd.out.size hs.size, fun k hk => (hs.out k (Nat.lt_of_lt_of_le hk HBd.out.size) (fun y => by have := (HYD.out k y).1; have := HYW.out; omega)).trans (HBd.out.block k hk)⟩)
  have VR5 := Aside0.mk (wt.VRow.simT hs 8 VRd.out).2
  have KR5 := Aside0.mk (wt.KRow.simT hs KRd.out).2
  have HS5 := Aside0.mk (Nat.le_trans HSd.out hs.size)
  clear hs
  refine hK.out _ _ ((blk_cell G5.out 1).trans rfl) (fun hHeld => ?_)
  clear hK K
  refine norm_ (a' := ?_) ?_ ?_
  rotate_left
  · show Act.put _ (some 25) _ = _
    simp only [Act.put, List.setIfInBounds_toArray, List.set_cons_zero, List.set_cons_succ, i64_w, i32_w]
    rfl
  refine one_ (i := 6) (N := none) #[true, true, true, true, true, true, true, false, false] rfl rfl (by kernel_rfl) (by decide) (fun K hK => ?_)
  refine wt.st25 25 (by rfl) rfl 4 (.tmp 25) rfl (by kernel_rfl) w.heap.size 0 rfl (.int .i64 x.f0) (.int .i64 x.f1) (.string x.f2) (wt.clipv v3) (wt.clipv v4) rfl ?hone _ 25 (Nat.le_refl _) V5.out ?_
  (case hone => intro q hq; simp at hq; rcases hq with rfl | rfl | rfl | rfl | rfl <;> first | rfl | exact (wt.one_slice (by obtain ⟨A_, c_, e_, _⟩ := wt.VRow.C 8 VRd.out; exact ⟨_, _, _, e_⟩)).2 | exact (wt.one_slice (by obtain ⟨A_, c_, e_, _⟩ := KRd.out.C; exact ⟨_, _, _, e_⟩)).2)
  intro w6 cv' q1 q2 q3 q4 q5
  have V6 := Aside0.mk q1
  have SZ6 := Aside0.mk q2
  have GR6 := Aside0.mk q3
  have N6 := Aside0.mk ((q5.block _ (blk_lt N5.out) (fun e_ => by have := Option.some.inj e_; omega)).trans N5.out)
  have E6 := Aside0.mk ((q5.block _ (blk_lt E5.out) (fun e_ => by have := Option.some.inj e_; omega)).trans E5.out)
  have G6 := Aside0.mk ((q5.block _ (blk_lt G5.out) (fun e_ => by have := Option.some.inj e_; have := HG.out; omega)).trans G5.out)
  have HB6 := Aside0.mk (show Below w.heap.size w w6 from ⟨q5.os.trans HB5.out.os, q5.tape.trans HB5.out.tape, q5.output.trans HB5.out.output, Nat.le_trans HB5.out.size q5.size, fun k hk => (q5.block k (Nat.lt_of_lt_of_le hk HB5.out.size) (fun e_ => by have := Option.some.inj e_; omega)).trans (HB5.out.block k hk)⟩)
  have VR6 := Aside0.mk (wt.VRow.move (w := w5) (w1 := w6) (fun _ h => h) (fun k hk hlt => q5.block k hlt (fun e_ => by have := Option.some.inj e_; have := (HYD.out k hk).1; have := HYW.out; omega)) 8 VR5.out)
  have KR6 := Aside0.mk (KR5.out.move (w1 := w6) (fun _ h => h) (fun k hk hlt => q5.block k hlt (fun e_ => by have := Option.some.inj e_; have := (HYD.out k hk).1; have := HYW.out; omega)))
  have HS6 := Aside0.mk (Nat.le_trans HS5.out q5.size)
  clear q1 q2 q3 q4 q5
  have hcn := (blk_cell N6.out 0).trans rfl
  have fvn := blk_frozen N6.out 0
  refine hK.out _ _ ((blk_cell G6.out 1).trans rfl) (fun hHeld => ?_)
  clear hK K
  refine one_ (i := 7) (N := none) #[true, true, true, true, true, true, true, true, false] rfl rfl (by kernel_rfl) (by decide) (fun K hK => ?_)
  refine skip_ (w1 := ?_) (by rfl) rfl ?_ ?_
  rotate_left
  · go_simp
    rfl
  clear hcn fvn
  have N7 := Aside0.mk (blk_put N6.out 0 (.int .i64 a2) rfl)
  have V7 := Aside0.mk ((Below.heap_setCell _ ⟨w.heap.size + 1, 0, none⟩ (.int .i64 a2) w.heap.size (show w.heap.size ≠ w.heap.size + 1 by omega)).trans V6.out)
  have E7 := Aside0.mk ((Below.heap_setCell _ ⟨w.heap.size + 1, 0, none⟩ (.int .i64 a2) (w.heap.size + 1 + 1) (show w.heap.size + 1 + 1 ≠ w.heap.size + 1 by omega)).trans E6.out)
  have G7 := Aside0.mk ((Below.heap_setCell _ ⟨w.heap.size + 1, 0, none⟩ (.int .i64 a2) g (show g ≠ w.heap.size + 1 by have := HG.out; omega)).trans G6.out)
  have HB7 := Aside0.mk (HB6.out.setCell (show w.heap.size ≤ (⟨w.heap.size + 1, 0, none⟩ : Addr).block from Nat.le_succ _) (.int .i64 a2))
  have VR7 := Aside0.mk (wt.VRow.move (w := w6) (w1 := w6.setCell ⟨w.heap.size + 1, 0, none⟩ (.int .i64 a2)) (fun _ h => h) (fun k hk hlt => Below.heap_setCell _ ⟨w.heap.size + 1, 0, none⟩ (.int .i64 a2) k (show k ≠ w.heap.size + 1 by have := (HYD.out k hk).1; have := HYW.out; omega)) 8 VR6.out)
  have KR7 := Aside0.mk (KR6.out.move (w1 := w6.setCell ⟨w.heap.size + 1, 0, none⟩ (.int .i64 a2)) (fun _ h => h) (fun k hk hlt => Below.heap_setCell _ ⟨w.heap.size + 1, 0, none⟩ (.int .i64 a2) k (show k ≠ w.heap.size + 1 by have := (HYD.out k hk).1; have := HYW.out; omega)))
  have HS7 := Aside0.mk (show w3.heap.size ≤ (w6.setCell ⟨w.heap.size + 1, 0, none⟩ (.int .i64 a2)).heap.size by rw [Deep.nblk_setCell]; exact HS6.out)
  generalize w6.setCell ⟨w.heap.size + 1, 0, none⟩ (.int .i64 a2) = w7 at *
  have hce := (blk_cell E7.out 0).trans rfl
  have fve := blk_frozen E7.out 0
  refine hK.out _ _ ((blk_cell G7.out 1).trans rfl) (fun hHeld => ?_)
  clear hK K
  refine one_ (i := 8) (N := none) #[true, true, true, true, true, true, true, true, true] rfl rfl (by kernel_rfl) (by decide) (fun K hK => ?_)
  refine skip_ (w1 := ?_) (by rfl) rfl ?_ ?_
  rotate_left
  · go_simp
    rfl
  clear hce fve
  have E8 := Aside0.mk (blk_put E7.out 0 (.int .i64 0) rfl)
  have V8 := Aside0.mk ((Below.heap_setCell _ ⟨w.heap.size + 1 + 1, 0, none⟩ (.int .i64 0) w.heap.size (show w.heap.size ≠ w.heap.size + 1 + 1 by omega)).trans V7.out)
  have N8 := Aside0.mk ((Below.heap_setCell _ ⟨w.heap.size + 1 + 1, 0, none⟩ (.int .i64 0) (w.heap.size + 1) (show w.heap.size + 1 ≠ w.heap.size + 1 + 1 by omega)).trans N7.out)
  have G8 := Aside0.mk ((Below.heap_setCell _ ⟨w.heap.size + 1 + 1, 0, none⟩ (.int .i64 0) g (show g ≠ w.heap.size + 1 + 1 by have := HG.out; omega)).trans G7.out)
  have HB8 := Aside0.mk (HB7.out.setCell (show w.heap.size ≤ (⟨w.heap.size + 1 + 1, 0, none⟩ : Addr).block by show w.heap.size ≤ w.heap.size + 1 + 1; omega) (.int .i64 0))
  have VR8 := Aside0.mk (wt.VRow.move (w := w7) (w1 := w7.setCell ⟨w.heap.size + 1 + 1, 0, none⟩ (.int .i64 0)) (fun _ h => h) (fun k hk hlt => Below.heap_setCell _ ⟨w.heap.size + 1 + 1, 0, none⟩ (.int .i64 0) k (show k ≠ w.heap.size + 1 + 1 by have := (HYD.out k hk).1; have := HYW.out; omega)) 8 VR7.out)
  have KR8 := Aside0.mk (KR7.out.move (w1 := w7.setCell ⟨w.heap.size + 1 + 1, 0, none⟩ (.int .i64 0)) (fun _ h => h) (fun k hk hlt => Below.heap_setCell _ ⟨w.heap.size + 1 + 1, 0, none⟩ (.int .i64 0) k (show k ≠ w.heap.size + 1 + 1 by have := (HYD.out k hk).1; have := HYW.out; omega)))
  have LT8 := Aside0.mk (show w3.heap.size ≤ (w7.setCell ⟨w.heap.size + 1 + 1, 0, none⟩ (.int .i64 0)).heap.size by rw [Deep.nblk_setCell]; exact HS7.out)
  generalize w7.setCell ⟨w.heap.size + 1 + 1, 0, none⟩ (.int .i64 0) = w8 at *
  refine hK.out _ _ ((blk_cell G8.out 1).trans rfl) (fun hHeld => ?_)
  clear hK K
  refine done_ (by kernel_rfl) ?_
  go_wp2
  refine leaves_cons (f := 37) (args := #[.pointer (some ⟨w.heap.size, 0, none⟩), .pointer (some ⟨w.heap.size + 1, 0, none⟩), .pointer (some ⟨w.heap.size + 1 + 1, 0, none⟩)]) (by simp) (by simp [go_sem]) ?_
  refine (wt.catch_idle _ _ _ _).mono ?_
  rintro e u' w9 ⟨rfl, rfl, hb⟩
  have hcv := wt.grp_eq SZ6.out GR6.out
  have V9 := blk_below V8.out hb
  rw [hcv] at V9
  show Leaves Try.prog Try.f22 _ _ [] .returning _
  refine ⟨_, wt.res22 rfl rfl rfl V9 (blk_below N8.out hb) (blk_below E8.out hb), _, _, rfl, ?_, ?_, below_then HB8.out HB8.out.size hb⟩
  · exact wt.VRow.move (fun k hk => ⟨by have := HYD.out k hk; have := HB2.out.size; omega, by have := HYD.out k hk; have := LT8.out; have := hb.size; omega⟩) (fun k hk hlt => hb.block k hlt) 8 VR8.out
  · exact KR8.out.move (fun k hk => ⟨by have := HYD.out k hk; have := HB2.out.size; omega, by have := HYD.out k hk; have := LT8.out; have := hb.size; omega⟩) (fun k hk hlt => hb.block k hlt)
/-- wire.Take. -/
theorem wt.take1 {bs : List Int} {u i : Int → Int × Int × Int} (hU : wt.Uin bs u i) {w : World} {A : Option Addr} {c : Nat} (at_ : Int) (hC : (Kd.int .u8).C w A bs.length bs) (hc : bs.length ≤ c) : Calls Try.prog 22 #[.slice A bs.length c, .int .i64 at_] w (wt.GotT (wt.takeS bs u i at_) w) := by
  unfold wt.takeS
  by_cases h : at_ < 0 ∨ at_ > (bs.length : Int)
  · rw [if_pos h]; exact wt.takeA h
  · rw [if_neg h]
    have h0 : 0 ≤ at_ := by
      have : ¬ at_ < 0 := fun e => h (Or.inl e)
      omega
    have h1 : at_ ≤ (bs.length : Int) := by
      have : ¬ at_ > (bs.length : Int) := fun e => h (Or.inr e)
      omega
    rcases hr : wt.valS bs u i 8 at_ 2048 with ⟨x, a2, l2⟩ | ⟨ee, pp⟩
    · exact wt.takeB hU hC hc h0 h1 hr
    · exact wt.takeC hU hC hc h0 h1 hr
end
end Go.Proofs.Ytnkbobblnhaclaa.X
/- Xxwread2: walks by hand, for the claim. -/
namespace Go.Proofs.Ytnkbobblnhaclaa.X
open Go.RowKit Go.Proofs.YtnkbobblnhaclaaW.PrintWords Go.Proofs.YtnkbobblnhaclaaW.PrintLast Go.Proofs.YtnkbobblnhaclaaW.PrintMore Go.Proofs.YtnkbobblnhaclaaW
section
set_option maxRecDepth 100000
/-- Keys that may be: short, and each behind the one before. -/
def wt.kOk (ks : List ByteArray) : Prop := (∀ s ∈ ks, s.size ≤ 32) ∧ ∀ i : Nat, i + 1 < ks.length → Op.bytesLess (rdOf ByteArray.empty ks (i : Int)).toList (rdOf ByteArray.empty ks ((i + 1 : Nat) : Int)).toList = true
/-- A value that may be, so many deep. -/
def wt.okV : Nat → S25 → Prop
  | 0, _ => False
  | d + 1, x => value_form.b x.f0 x.f1 x.f2 x.f3.length x.f4.length = true ∧ (x.f0 = 5 → wt.kOk x.f4) ∧ ∀ y ∈ x.f3, wt.okV d y
theorem wt.okV.mk {d : Nat} {f0 f1 : Int} {f2 : ByteArray} {f3 : List S25} {f4 : List ByteArray} (h : value_form.b f0 f1 f2 f3.length f4.length = true) (k : f0 = 5 → wt.kOk f4) (s : ∀ y ∈ f3, wt.okV d y) : wt.okV (d + 1) ⟨f0, f1, f2, f3, f4⟩ := ⟨h, k, s⟩
theorem wt.rdOf_lt (ks : List ByteArray) (k : ByteArray) (i : Nat) (h : i < ks.length) : rdOf ByteArray.empty (ks ++ [k]) (i : Int) = rdOf ByteArray.empty ks (i : Int) := by
  unfold rdOf
  rw [Int.toNat_natCast, List.getD_eq_getElem?_getD, List.getD_eq_getElem?_getD, List.getElem?_append_left h]
theorem wt.rdOf_end (ks : List ByteArray) (k : ByteArray) : rdOf ByteArray.empty (ks ++ [k]) ((ks.length : Nat) : Int) = k := by
  unfold rdOf
  rw [Int.toNat_natCast, List.getD_eq_getElem?_getD, List.getElem?_append_right (Nat.le_refl _), Nat.sub_self]
  rfl
theorem wt.kOk.snoc {ks : List ByteArray} {k : ByteArray} (h : wt.kOk ks) (hk : k.size ≤ 32) (hl : 0 < ks.length → Op.bytesLess (rdOf ByteArray.empty ks ((ks.length : Int) - 1)).toList k.toList = true) : wt.kOk (ks ++ [k]) := by
  refine ⟨fun s hs => ?_, fun i hi => ?_⟩
  · rcases List.mem_append.1 hs with hs | hs
    · exact h.1 s hs
    · rw [List.mem_singleton.1 hs]; exact hk
  · rw [List.length_append, List.length_singleton] at hi
    rw [wt.rdOf_lt ks k i (by omega)]
    by_cases he : i + 1 < ks.length
    · rw [wt.rdOf_lt ks k (i + 1) he]
      exact h.2 i he
    · have e : i + 1 = ks.length := by omega
      rw [e, wt.rdOf_end]
      have := hl (by omega)
      rw [← e, show ((i + 1 : Nat) : Int) - 1 = (i : Int) by omega] at this
      exact this
theorem wt.e_nil : (⟨#[]⟩ : ByteArray).toList = [] := by
  first | rfl | (unfold ByteArray.toList; unfold ByteArray.toList.loop; rfl) | simp
end
end Go.Proofs.Ytnkbobblnhaclaa.X
/- Xxwread3: walks by hand, for the claim. -/
namespace Go.Proofs.Ytnkbobblnhaclaa.X
open Go.RowKit Go.Proofs.YtnkbobblnhaclaaW.PrintWords Go.Proofs.YtnkbobblnhaclaaW.PrintLast Go.Proofs.YtnkbobblnhaclaaW.PrintMore Go.Proofs.YtnkbobblnhaclaaW
section
set_option maxRecDepth 100000
theorem wt.mx_b {D a : Int} (h0 : 0 ≤ D) (h1 : D ≤ 8) (h2 : a ≤ 8) : 0 ≤ mx D a ∧ mx D a ≤ 8 := by
  rw [mx_eq]; split <;> omega
theorem wt.meas_l {d : Nat} (ih : ∀ x : S25, wt.okV d x → ∀ ar D W : Int, 0 ≤ ar → ar + d ≤ 8 → 0 ≤ D → D ≤ 8 → 0 ≤ W → W + (wt x : Int) ≤ 2048 → ∃ D', 0 ≤ D' ∧ D' ≤ 8 ∧ Ev (fun k => value_measure.w k x.f0 x.f1 x.f2 x.f3 x.f4 ar D W) (true, D', W + (wt x : Int)))
    (f0 f1 : Int) (f2 : ByteArray) (f3 : List S25) (f4 : List ByteArray) (hl : f3.length ≤ 9223372036854775000) (h45 : f0 = 5 → f4.length = f3.length) (hk : f0 = 5 → wt.kOk f4) (hs : ∀ y ∈ f3, wt.okV d y) (ar : Int) (ha : 0 ≤ ar) (hb : ar + 1 + d ≤ 8) :
    ∀ (rem i : Nat), i + rem = f3.length → ∀ D W : Int, 0 ≤ D → D ≤ 8 → 0 ≤ W → W + (wrest f0 f3 f4 i : Int) ≤ 2048 → ∃ D', 0 ≤ D' ∧ D' ≤ 8 ∧ Ev (fun k => value_measure.l k f0 f1 f2 f3 f4 ar D W (i : Int)) (true, D', W + (wrest f0 f3 f4 i : Int)) := by
  intro rem
  induction rem with
  | zero =>
    intro i hi D W h0 h1 h2 h3
    have c : ¬ ((i : Int) < (f3.length : Int)) := by omega
    have hz := wrest_end f0 f3 f4 i (by omega) h45
    rw [hz] at h3 ⊢
    refine ⟨D, h0, h1, Ev.step Ev.const (fun k => ?_)⟩
    rw [value_measure.l, if_neg c, decide_eq_true (by omega)]
    simp
  | succ rem ihr =>
    intro i hi D W h0 h1 h2 h3
    have c : (i : Int) < (f3.length : Int) := by omega
    have p : (0 : Int) ≤ (i : Int) := by omega
    have ei : wrap64 ((i : Int) + 1) = ((i + 1 : Nat) : Int) := by rw [X.w64 _ (by omega) (by omega)]; omega
    have ea : wrap64 (ar + 1) = ar + 1 := X.w64 _ (by omega) (by omega)
    have hrs := wrest_succ f0 f3 f4 i (by omega) h45
    have hmem : rd_T25 f3 (i : Int) ∈ f3 := by
      have hl : i < f3.length := by omega
      unfold rd_T25
      rw [show ((i : Int)).toNat = i from by omega, List.getD_eq_getElem?_getD, List.getElem?_eq_getElem hl]
      exact List.getElem_mem hl
    have hox := hs _ hmem
    generalize hx : rd_T25 f3 (i : Int) = x at hrs hox
    have child : ∀ V : Int, 0 ≤ V → V + (wt x : Int) + (wrest f0 f3 f4 (i + 1) : Int) ≤ 2048 → ∃ D', 0 ≤ D' ∧ D' ≤ 8 ∧ Ev (fun k => (value_measure.w k x.f0 x.f1 x.f2 x.f3 x.f4 (ar + 1) D V).bind fun r => if r.1 = true then value_measure.l k f0 f1 f2 f3 f4 ar r.2.1 r.2.2 ((i + 1 : Nat) : Int) else some (false, r.2.1, r.2.2)) (true, D', V + (wt x : Int) + (wrest f0 f3 f4 (i + 1) : Int)) := by
      intro V hV0 hV
      obtain ⟨D1, d0, d1, m1⟩ := ih x hox (ar + 1) D V (by omega) (by omega) h0 h1 hV0 (by omega)
      obtain ⟨D2, e0, e1, m2⟩ := ihr (i + 1) (by omega) D1 (V + (wt x : Int)) d0 d1 (by omega) hV
      exact ⟨D2, e0, e1, Ev.bind m1 (by simpa using m2)⟩
    by_cases k5 : f0 = 5
    · rw [if_pos k5] at hrs
      have q4 : (i : Int) < (f4.length : Int) := by have := h45 k5; omega
      have hko := hk k5
      have hki : rdOf ByteArray.empty f4 (i : Int) ∈ f4 := by
        have hl : i < f4.length := by omega
        unfold rdOf
        rw [show ((i : Int)).toNat = i from by omega, List.getD_eq_getElem?_getD, List.getElem?_eq_getElem hl]
        exact List.getElem_mem hl
      have hsz := hko.1 _ hki
      have g1 : ¬ 32 < ((rdOf ByteArray.empty f4 (i : Int)).size : Int) := by omega
      have g2 : ¬ (0 < (i : Int) ∧ (Op.bytesLess ((rdOf ByteArray.empty f4 ((i : Int) - 1)).toList) ((rdOf ByteArray.empty f4 (i : Int)).toList)) = false) := by
        rintro ⟨q1, q2⟩
        have := hko.2 (i - 1) (by omega)
        rw [show i - 1 + 1 = i by omega, show ((i - 1 : Nat) : Int) = (i : Int) - 1 by omega] at this
        rw [this] at q2
        cases q2
      have et : wrap64 (W + wrap64 (1 + ((rdOf ByteArray.empty f4 (i : Int)).size : Int))) = W + 1 + ((rdOf ByteArray.empty f4 (i : Int)).size : Int) := by
        rw [X.w64 (1 + ((rdOf ByteArray.empty f4 (i : Int)).size : Int)) (by omega) (by omega), X.w64 _ (by omega) (by omega)]
        omega
      obtain ⟨D', e0, e1, m⟩ := child (W + 1 + ((rdOf ByteArray.empty f4 (i : Int)).size : Int)) (by omega) (by omega)
      refine ⟨D', e0, e1, ?_⟩
      rw [show W + (wrest f0 f3 f4 i : Int) = W + 1 + ((rdOf ByteArray.empty f4 (i : Int)).size : Int) + (wt x : Int) + (wrest f0 f3 f4 (i + 1) : Int) by omega]
      exact Ev.step m (fun k => by rw [value_measure.l, if_pos c, if_pos p, if_pos k5, if_pos q4, if_neg g1, if_neg g2, hx, ea, et, ei])
    · rw [if_neg k5] at hrs
      obtain ⟨D', e0, e1, m⟩ := child W h2 (by omega)
      refine ⟨D', e0, e1, ?_⟩
      rw [show W + (wrest f0 f3 f4 i : Int) = W + (wt x : Int) + (wrest f0 f3 f4 (i + 1) : Int) by omega]
      exact Ev.step m (fun k => by rw [value_measure.l, if_pos c, if_pos p, if_neg k5, hx, ea, ei])
theorem wt.len_wt : ∀ l : List S25, l.length ≤ (l.map wt).sum
  | [] => Nat.zero_le _
  | a :: l => by
    have h1 : 1 ≤ wt a := by rw [wt_eq]; omega
    have := wt.len_wt l
    simp only [List.length_cons, List.map_cons, List.sum_cons]
    omega
theorem wt.len_ks : ∀ l : List ByteArray, l.length ≤ (l.map fun s => 1 + s.size).sum
  | [] => Nat.zero_le _
  | a :: l => by
    have := wt.len_ks l
    simp only [List.length_cons, List.map_cons, List.sum_cons]
    omega
theorem wt.meas_ok : ∀ (d : Nat) (x : S25), wt.okV d x → ∀ ar D W : Int, 0 ≤ ar → ar + d ≤ 8 → 0 ≤ D → D ≤ 8 → 0 ≤ W → W + (wt x : Int) ≤ 2048 → ∃ D', 0 ≤ D' ∧ D' ≤ 8 ∧ Ev (fun k => value_measure.w k x.f0 x.f1 x.f2 x.f3 x.f4 ar D W) (true, D', W + (wt x : Int))
  | 0, x, h => h.elim
  | d + 1, x, h => by
    intro ar D W h0 h1 h2 h3 h4 h5
    obtain ⟨hf, hk, hs⟩ := h
    have e0 := wt_eq x
    have l3 := wt.len_wt x.f3
    have l4 := wt.len_ks x.f4
    have hlen := form_len (by omega) (by omega) hf
    have hkeys : ((x.f4.map fun s => 1 + s.size).sum : Nat) = if x.f0 = 5 then ((x.f4.drop 0).map fun s => 1 + s.size).sum else 0 := by
      split
      · simp
      · rename_i k5
        have h40 : x.f4 = [] := by
          rcases form_all (by omega) (by omega) hf with z | z | z | z | z | z
          all_goals first | exact List.eq_nil_of_length_eq_zero z.2.2.2.2 | exact List.eq_nil_of_length_eq_zero z.2.2.2 | exact absurd z.1 k5
        rw [h40]; rfl
    have e1 : (wt x : Int) = 1 + (x.f2.size : Int) + (wrest x.f0 x.f3 x.f4 0 : Int) := by
      rw [e0, hkeys]
      unfold wrest
      simp only [List.drop_zero]
      omega
    have ea : wrap64 (ar + 1) = ar + 1 := X.w64 _ (by omega) (by omega)
    have em : mn (x.f2.size : Int) 2048 = (x.f2.size : Int) := by rw [mn_eq, if_neg (by omega)]
    have ew : wrap64 (W + wrap64 (1 + mn (x.f2.size : Int) 2048)) = W + 1 + (x.f2.size : Int) := by
      rw [em, X.w64 (1 + (x.f2.size : Int)) (by omega) (by omega), X.w64 _ (by omega) (by omega)]; omega
    have hm := wt.mx_b (a := ar + 1) h2 h3 (by omega)
    obtain ⟨D', d0, d1, hl⟩ := wt.meas_l (wt.meas_ok d) x.f0 x.f1 x.f2 x.f3 x.f4 (by omega) hlen.1 hk hs ar h0 (by omega) x.f3.length 0 (by omega) (mx D (ar + 1)) (W + 1 + (x.f2.size : Int)) hm.1 hm.2 (by omega) (by omega)
    refine ⟨D', d0, d1, ?_⟩
    rw [show W + (wt x : Int) = W + 1 + (x.f2.size : Int) + (wrest x.f0 x.f3 x.f4 0 : Int) by omega]
    refine Ev.step hl (fun k => ?_)
    rw [value_measure.w, ea, ew, if_neg (by omega), if_neg (by omega), value_form.f, hf]
    rfl
end
end Go.Proofs.Ytnkbobblnhaclaa.X
/- Xxwback: walks by hand, for the claim. -/
namespace Go.Proofs.Ytnkbobblnhaclaa.X
open Go.RowKit Go.Proofs.YtnkbobblnhaclaaW.PrintWords Go.Proofs.YtnkbobblnhaclaaW.PrintLast Go.Proofs.YtnkbobblnhaclaaW.PrintMore Go.Proofs.YtnkbobblnhaclaaW
section
set_option maxRecDepth 100000
open Go.Proofs.Ytnkbobblnhaclaa
theorem wt.at_app {bs l r : List Int} {a : Int} (h0 : 0 ≤ a) (h : wt.at_ bs a = l ++ r) : wt.at_ bs (a + (l.length : Int)) = r := by
  unfold wt.at_ at *
  rw [show (a + (l.length : Int)).toNat = a.toNat + l.length by omega, ← List.drop_drop, h, List.drop_left]
theorem wt.at_len {bs l r : List Int} {a : Int} (h0 : 0 ≤ a) (h : wt.at_ bs a = l ++ r) (hl : 0 < l.length) : a + (l.length : Int) + (r.length : Int) = (bs.length : Int) := by
  have := congrArg List.length h
  unfold wt.at_ at this
  rw [List.length_drop, List.length_append] at this
  omega
/-- A number that was laid is read. -/
theorem wt.uint_back {bs rest : List Int} {a v : Int} (h0 : 0 ≤ a) (v0 : 0 ≤ v) (v1 : v < 18446744073709551616) (h : wt.at_ bs a = Pl.putU v ++ rest) : Pl.uintAt bs a = (v, a + ((Pl.putU v).length : Int), 0) := by
  have hp : 0 < (Pl.putU v).length := (Pl.puts_len 10 v).2 (by omega)
  have hl := wt.at_len h0 h hp
  unfold Pl.uintAt
  rw [if_neg (by omega)]
  unfold wt.at_ at h
  rw [h, Pl.putU_read v rest v0 v1]
  simp [Pl.fin]
theorem wt.byte_back {bs rest : List Int} {a c : Int} (h0 : 0 ≤ a) (h : wt.at_ bs a = c :: rest) : a < (bs.length : Int) ∧ rd bs a = c ∧ wt.at_ bs (a + 1) = rest := by
  have hl := wt.at_len (l := [c]) (r := rest) h0 h (by simp)
  simp only [List.length_singleton] at hl
  have hlt : a < (bs.length : Int) := by omega
  have hc := wt.at_cons h0 hlt
  rw [h] at hc
  injection hc with e1 e2
  exact ⟨hlt, e1.symm, e2.symm⟩
/-- A value that was laid is read. -/
def wt.Bk (bs : List Int) (f : Int → Int → wt.R3 S25) (x : S25) : Prop := ∀ (a l : Int) (rest : List Int), 0 ≤ a → wt.at_ bs a = en x ++ rest → (wt x : Int) ≤ l → l ≤ 2048 → f a l = .ok x (a + ((en x).length : Int)) (l - (wt x : Int))
theorem wt.arr_back {bs : List Int} {f : Int → Int → wt.R3 S25} : ∀ (xs : List S25), (∀ x ∈ xs, wt.Bk bs f x) → ∀ (acc : List S25) (a l : Int) (rest : List Int), 0 ≤ a → wt.at_ bs a = (xs.map en).flatten ++ rest → ((xs.map wt).sum : Int) ≤ l → l ≤ 2048 →
    wt.arrL f xs.length acc a l = .ok (acc ++ xs) (a + (((xs.map en).flatten).length : Int)) (l - ((xs.map wt).sum : Int))
  | [], hf, acc, a, l, rest, h0, h, hw, hl => by
    unfold wt.arrL
    simp
  | x :: xs, hf, acc, a, l, rest, h0, h, hw, hl => by
    simp only [List.map_cons, List.flatten_cons, List.append_assoc] at h
    have hw' : ((wt x + (xs.map wt).sum : Nat) : Int) ≤ l := by simpa only [List.map_cons, List.sum_cons] using hw
    have hx := hf x List.mem_cons_self a l _ h0 h (by omega) hl
    have h2 := wt.at_app h0 h
    have ih := wt.arr_back xs (fun y hy => hf y (List.mem_cons_of_mem _ hy)) (acc ++ [x]) (a + ((en x).length : Int)) (l - (wt x : Int)) rest (by omega) h2 (by omega) (by omega)
    rw [List.length_cons, wt.arrL, hx]
    dsimp only
    rw [ih]
    simp only [List.map_cons, List.flatten_cons, List.sum_cons, List.length_append, List.append_assoc, List.cons_append, List.nil_append]
    congr 1 <;> omega
theorem wt.rdOf_app (ks qs : List ByteArray) (i : Nat) (h : i < ks.length) : rdOf ByteArray.empty (ks ++ qs) (i : Int) = rdOf ByteArray.empty ks (i : Int) := by
  unfold rdOf
  rw [Int.toNat_natCast, List.getD_eq_getElem?_getD, List.getD_eq_getElem?_getD, List.getElem?_append_left h]
theorem wt.rdOf_mid (ks qs : List ByteArray) (k : ByteArray) : rdOf ByteArray.empty (ks ++ k :: qs) ((ks.length : Nat) : Int) = k := by
  unfold rdOf
  rw [Int.toNat_natCast, List.getD_eq_getElem?_getD, List.getElem?_append_right (Nat.le_refl _), Nat.sub_self]
  rfl
theorem wt.key_back {bs rest : List Int} {ks qs : List ByteArray} {k : ByteArray} {a l : Int} (hk : wt.kOk (ks ++ k :: qs)) (h0 : 0 ≤ a) (h : wt.at_ bs a = Pl.putU (k.size : Int) ++ (bytesOf k ++ rest)) (hl : 1 + (k.size : Int) ≤ l) :
    wt.keyS bs (Pl.uintAt bs) ks a l = .ok k (a + ((Pl.putU (k.size : Int)).length : Int) + (k.size : Int)) (l - (1 + (k.size : Int))) := by
  have hsz := hk.1 k (List.mem_append_right _ List.mem_cons_self)
  have hu := wt.uint_back h0 (by omega) (by omega) h
  have hp : 0 < (Pl.putU (k.size : Int)).length := (Pl.puts_len 10 _).2 (by omega)
  have hlen := wt.at_len h0 h hp
  have h2 := wt.at_app h0 h
  rw [List.length_append, Pl.bytesOf_len] at hlen
  have hs : strOfNums ((bs.drop (a + ((Pl.putU (k.size : Int)).length : Int)).toNat).take ((k.size : Int)).toNat) = k := by
    unfold wt.at_ at h2
    rw [h2, Int.toNat_natCast, List.take_append_of_le_length (by rw [Pl.bytesOf_len]; exact Nat.le_refl _), List.take_of_length_le (by rw [Pl.bytesOf_len]; exact Nat.le_refl _), Pl.str_bytesOf]
  unfold wt.keyS
  rw [hu]
  dsimp only
  rw [if_neg (by decide), if_neg (by omega), if_neg (by omega), hs, if_neg ?_, if_neg (by omega)]
  rintro ⟨q1, q2⟩
  refine q2 ?_
  have := hk.2 (ks.length - 1) (by rw [List.length_append, List.length_cons]; omega)
  rw [wt.rdOf_app ks _ _ (by omega), show ks.length - 1 + 1 = ks.length by omega, wt.rdOf_mid, show ((ks.length - 1 : Nat) : Int) = (ks.length : Int) - 1 by omega] at this
  exact this
theorem wt.rec_back {bs : List Int} {f : Int → Int → wt.R3 S25} : ∀ (xs : List S25) (qs : List ByteArray), qs.length = xs.length → (∀ x ∈ xs, wt.Bk bs f x) → ∀ (ks : List ByteArray) (acc : List S25) (a l : Int) (rest : List Int), wt.kOk (ks ++ qs) → 0 ≤ a → wt.at_ bs a = recs (xs.map en) qs ++ rest → (((xs.map wt).sum + (qs.map fun s => 1 + s.size).sum : Nat) : Int) ≤ l → l ≤ 2048 →
    wt.recL bs (Pl.uintAt bs) f xs.length ks acc a l = .ok (ks ++ qs, acc ++ xs) (a + ((recs (xs.map en) qs).length : Int)) (l - (((xs.map wt).sum + (qs.map fun s => 1 + s.size).sum : Nat) : Int))
  | [], [], hq, hf, ks, acc, a, l, rest, hk, h0, h, hw, hl => by
    unfold wt.recL
    simp [recs]
  | [], _ :: _, hq, hf, ks, acc, a, l, rest, hk, h0, h, hw, hl => by simp at hq
  | _ :: _, [], hq, hf, ks, acc, a, l, rest, hk, h0, h, hw, hl => by simp at hq
  | x :: xs, k :: qs, hq, hf, ks, acc, a, l, rest, hk, h0, h, hw, hl => by
    simp only [List.map_cons, recs, List.append_assoc] at h
    have hw' : ((wt x + (xs.map wt).sum + (1 + k.size + (qs.map fun s => 1 + s.size).sum) : Nat) : Int) ≤ l := by simpa only [List.map_cons, List.sum_cons] using hw
    have hkk := wt.key_back (l := l) hk h0 h (by omega)
    have hsz := hk.1 k (List.mem_append_right _ List.mem_cons_self)
    have h2 := wt.at_app h0 h
    have h3 := wt.at_app (by omega) h2
    rw [Pl.bytesOf_len] at h3
    have hx := hf x List.mem_cons_self (a + ((Pl.putU (k.size : Int)).length : Int) + (k.size : Int)) (l - (1 + (k.size : Int))) _ (by omega) h3 (by omega) (by omega)
    have h4 := wt.at_app (by omega) h3
    have ih := wt.rec_back xs qs (by simpa using hq) (fun y hy => hf y (List.mem_cons_of_mem _ hy)) (ks ++ [k]) (acc ++ [x]) (a + ((Pl.putU (k.size : Int)).length : Int) + (k.size : Int) + ((en x).length : Int)) (l - (1 + (k.size : Int)) - (wt x : Int)) rest (by rw [List.append_assoc]; exact hk) (by omega) h4 (by omega) (by omega)
    rw [List.length_cons, wt.recL, hkk]
    dsimp only
    rw [hx]
    dsimp only
    rw [ih]
    simp only [List.map_cons, recs, List.sum_cons, List.length_append, List.append_assoc, List.cons_append, List.nil_append, Pl.bytesOf_len]
    congr 1 <;> omega
theorem wt.nil_str {f : ByteArray} (h : f.toList = []) : f = ⟨#[]⟩ := Pl.toList_inj (by rw [h, wt.e_nil])
/-- A value that may be is read from its bytes, whatever stands behind. -/
theorem wt.valS_back {bs : List Int} : ∀ (d : Nat) (x : S25), Val x → wt.okV d x → wt.Bk bs (wt.valS bs (Pl.uintAt bs) (Pl.intAt bs) d) x
  | 0, x, hv, h => h.elim
  | d + 1, x, hv, h => by
    intro a l rest h0 hat hw hl
    obtain ⟨hf, hk, hs⟩ := h
    obtain ⟨_, a0, b0, a1, b1, h2, h3, h4, k4, k3⟩ := hv
    have hwx := wt_eq x
    have hch : ∀ y ∈ x.f3, wt.Bk bs (wt.valS bs (Pl.uintAt bs) (Pl.intAt bs) d) y := fun y hy => wt.valS_back d y (k3 y hy) (hs y hy)
    have l3 := wt.len_wt x.f3
    have l4 := wt.len_ks x.f4
    obtain ⟨f0, f1, f2, f3, f4⟩ := x
    dsimp only at *
    rw [wt.valS_s]
    rcases form_all h3 h4 hf with ⟨z, z1, z2, z3, z4⟩ | ⟨z, z1, z2, z3, z4⟩ | ⟨z, z2, z3, z4⟩ | ⟨z, z1, z3, z4⟩ | ⟨z, z1, z2, z4⟩ | ⟨z, z1, z2, z4⟩
    · subst z; subst z1
      obtain rfl := wt.nil_str z2
      obtain rfl := List.eq_nil_of_length_eq_zero z3
      obtain rfl := List.eq_nil_of_length_eq_zero z4
      rw [wt.wt_leaf] at hw ⊢
      have hz : (⟨#[]⟩ : ByteArray).size = 0 := rfl
      rw [en0 rfl] at hat ⊢
      obtain ⟨hlt, hr, hat2⟩ := wt.byte_back h0 hat
      rw [hr, if_neg (by omega), if_neg (by omega), if_neg (by omega), if_neg (by omega), if_neg (by omega), if_neg (by omega), if_neg (by omega), if_neg (by omega)]
      rfl
    · subst z
      obtain rfl := wt.nil_str z2
      obtain rfl := List.eq_nil_of_length_eq_zero z3
      obtain rfl := List.eq_nil_of_length_eq_zero z4
      rw [wt.wt_leaf] at hw ⊢
      have hz : (⟨#[]⟩ : ByteArray).size = 0 := rfl
      rw [en1 rfl] at hat ⊢
      obtain ⟨hlt, hr, hat2⟩ := wt.byte_back h0 hat
      dsimp only at hr
      rw [hr, if_neg (by omega), if_neg (by omega)]
      rcases z1 with z1 | z1
      · subst z1
        rw [if_pos (by omega)]; rfl
      · subst z1
        rw [if_neg (by omega), if_pos (by omega)]; rfl
    · subst z
      obtain rfl := wt.nil_str z2
      obtain rfl := List.eq_nil_of_length_eq_zero z3
      obtain rfl := List.eq_nil_of_length_eq_zero z4
      rw [wt.wt_leaf] at hw ⊢
      have hz : (⟨#[]⟩ : ByteArray).size = 0 := rfl
      rw [en2 rfl] at hat ⊢
      obtain ⟨hlt, hr, hat2⟩ := wt.byte_back h0 hat
      dsimp only at hat2
      have hzz := Pl.zz_range f1 a1 b1
      have hu := wt.uint_back (by omega) hzz.1 hzz.2 hat2
      have hi : Pl.intAt bs (a + 1) = (f1, a + 1 + ((Pl.putU (Pl.zz f1)).length : Int), 0) := by
        unfold Pl.intAt
        rw [hu]
        dsimp only
        rw [Pl.unzz_zz]
      rw [hr, if_neg (by omega), if_neg (by omega), if_neg (by omega), if_neg (by omega), if_pos (by omega), hi]
      dsimp only
      rw [if_neg (by decide)]
      simp only [List.length_cons]
      congr 1 <;> omega
    · subst z; subst z1
      obtain rfl := List.eq_nil_of_length_eq_zero z3
      obtain rfl := List.eq_nil_of_length_eq_zero z4
      rw [wt.wt_leaf] at hw ⊢
      rw [en3 rfl] at hat ⊢
      obtain ⟨hlt, hr, hat2⟩ := wt.byte_back h0 hat
      dsimp only at hat2
      replace hat2 := hat2.trans (List.append_assoc _ _ _)
      have hu := wt.uint_back (by omega) (by omega) (by omega) hat2
      have hp : 0 < (Pl.putU (f2.size : Int)).length := (Pl.puts_len 10 _).2 (by omega)
      have hlen := wt.at_len (by omega) hat2 hp
      have h3 := wt.at_app (by omega) hat2
      rw [List.length_append, Pl.bytesOf_len] at hlen
      have hs : strOfNums ((bs.drop (a + 1 + ((Pl.putU (f2.size : Int)).length : Int)).toNat).take ((f2.size : Int)).toNat) = f2 := by
        unfold wt.at_ at h3
        rw [h3, Int.toNat_natCast, List.take_append_of_le_length (by rw [Pl.bytesOf_len]; exact Nat.le_refl _), List.take_of_length_le (by rw [Pl.bytesOf_len]; exact Nat.le_refl _), Pl.str_bytesOf]
      rw [hr, if_neg (by omega), if_neg (by omega), if_neg (by omega), if_neg (by omega), if_neg (by omega), if_pos (by omega), hu]
      dsimp only
      rw [if_neg (by decide), Int.ediv_one, if_neg (by omega), if_neg (by omega), hs]
      simp only [List.length_cons, List.length_append, Pl.bytesOf_len]
      congr 1 <;> omega
    · subst z; subst z1
      obtain rfl := wt.nil_str z2
      obtain rfl := List.eq_nil_of_length_eq_zero z4
      have hz : (⟨#[]⟩ : ByteArray).size = 0 := rfl
      simp only [List.map_nil, List.sum_nil] at hwx
      rw [en4 rfl] at hat ⊢
      obtain ⟨hlt, hr, hat2⟩ := wt.byte_back h0 hat
      dsimp only at hat2
      replace hat2 := hat2.trans (List.append_assoc _ _ _)
      have hu := wt.uint_back (by omega) (by omega) (by omega) hat2
      have h3 := wt.at_app (by omega) hat2
      have hA := wt.arr_back f3 hch [] (a + 1 + ((Pl.putU (f3.length : Int)).length : Int)) (l - 1) rest (by omega) h3 (by omega) (by omega)
      rw [hr, if_neg (by omega), if_neg (by omega), if_neg (by omega), if_neg (by omega), if_neg (by omega), if_neg (by omega), if_pos (by omega), hu]
      dsimp only
      rw [if_neg (by decide), Int.ediv_one, if_neg (by omega), Int.toNat_natCast, hA]
      unfold wt.arrV
      simp only [List.nil_append, List.length_cons, List.length_append]
      congr 1 <;> omega
    · subst z; subst z1
      obtain rfl := wt.nil_str z2
      have hz : (⟨#[]⟩ : ByteArray).size = 0 := rfl
      rw [en5 rfl] at hat ⊢
      obtain ⟨hlt, hr, hat2⟩ := wt.byte_back h0 hat
      dsimp only at hat2
      replace hat2 := hat2.trans (List.append_assoc _ _ _)
      have hu := wt.uint_back (by omega) (by omega) (by omega) hat2
      have h3 := wt.at_app (by omega) hat2
      have hA := wt.rec_back f3 f4 z4 hch [] [] (a + 1 + ((Pl.putU (f3.length : Int)).length : Int)) (l - 1) rest (hk rfl) (by omega) h3 (by omega) (by omega)
      rw [hr, if_neg (by omega), if_neg (by omega), if_neg (by omega), if_neg (by omega), if_neg (by omega), if_neg (by omega), if_neg (by omega), if_pos (by omega), hu]
      dsimp only
      rw [if_neg (by decide), if_neg (by omega), Int.toNat_natCast, hA]
      unfold wt.recV
      simp only [List.nil_append, List.length_cons, List.length_append]
      congr 1 <;> omega
end
end Go.Proofs.Ytnkbobblnhaclaa.X
/- Xxwback2: walks by hand, for the claim. -/
namespace Go.Proofs.Ytnkbobblnhaclaa.X
open Go.RowKit Go.Proofs.YtnkbobblnhaclaaW.PrintWords Go.Proofs.YtnkbobblnhaclaaW.PrintLast Go.Proofs.YtnkbobblnhaclaaW.PrintMore Go.Proofs.YtnkbobblnhaclaaW
section
set_option maxRecDepth 100000
open Go.Proofs.Ytnkbobblnhaclaa
theorem wt.mn_le {s : Nat} {W : Int} (h : ¬ 2048 < W + 1 + mn (s : Int) 2048) (hW : 0 ≤ W) : mn (s : Int) 2048 = (s : Int) ∧ s ≤ 2048 := by
  rw [mn_eq] at h ⊢
  split at h
  · omega
  · rename_i hn; rw [if_neg hn]; omega
def wt.MW (K : Nat) : Prop := ∀ (x : S25) (ar D W D' W' : Int), Val x → 0 ≤ ar → ar ≤ 8 → 0 ≤ D → 0 ≤ W → W ≤ 4096 → value_measure.w K x.f0 x.f1 x.f2 x.f3 x.f4 ar D W = some (true, D', W') → wt.okV (8 - ar).toNat x ∧ W + (wt x : Int) = W' ∧ W' ≤ 2048 ∧ 0 ≤ D'
def wt.ML (K : Nat) : Prop := ∀ (f0 f1 : Int) (f2 : ByteArray) (f3 : List S25) (f4 : List ByteArray) (ar D W D' W' : Int) (i : Nat), (∀ y ∈ f3, Val y) → f3.length ≤ 9223372036854775807 → (f0 = 5 → f4.length = f3.length) → (∀ s ∈ f4, s.size ≤ 9223372036854775807) → 0 ≤ ar → ar ≤ 7 → 0 ≤ D → 0 ≤ W → W ≤ 2048 → i ≤ f3.length → value_measure.l K f0 f1 f2 f3 f4 ar D W (i : Int) = some (true, D', W') →
      (∀ y ∈ f3.drop i, wt.okV (7 - ar).toNat y) ∧ (f0 = 5 → ∀ j : Nat, i ≤ j → j < f4.length → (rdOf ByteArray.empty f4 (j : Int)).size ≤ 32 ∧ (0 < j → Op.bytesLess (rdOf ByteArray.empty f4 ((j : Int) - 1)).toList (rdOf ByteArray.empty f4 (j : Int)).toList = true)) ∧ W + (wrest f0 f3 f4 i : Int) = W' ∧ W' ≤ 2048 ∧ 0 ≤ D'
set_option maxHeartbeats 2000000 in
theorem wt.meas_w {K : Nat} (ihl : wt.ML K) : wt.MW (K + 1) := by
  intro x ar D W D' W' hv h0 h1 h2 h3 h4 h
  obtain ⟨_, a0, b0, a1, b1, l2, l3, l4, k4, k3⟩ := hv
  have ea : wrap64 (ar + 1) = ar + 1 := X.w64 _ (by omega) (by omega)
  have hm : 0 ≤ mn (x.f2.size : Int) 2048 ∧ mn (x.f2.size : Int) 2048 ≤ 2048 := by rw [mn_eq]; split <;> omega
  have ew : wrap64 (W + wrap64 (1 + mn (x.f2.size : Int) 2048)) = W + 1 + mn (x.f2.size : Int) 2048 := by
    rw [X.w64 (1 + mn (x.f2.size : Int) 2048) (by omega) (by omega), X.w64 _ (by omega) (by omega)]; omega
  rw [value_measure.w, ea, ew] at h
  by_cases c1 : 8 < mx D (ar + 1)
  · rw [if_pos c1] at h; cases h
  rw [if_neg c1] at h
  have ha : ar ≤ 7 := by rw [mx_eq] at c1; split at c1 <;> omega
  have hm0 : 0 ≤ mx D (ar + 1) := by rw [mx_eq]; split <;> omega
  by_cases c2 : 2048 < W + 1 + mn (x.f2.size : Int) 2048
  · rw [if_pos c2] at h; cases h
  rw [if_neg c2] at h
  obtain ⟨e2, s2⟩ := wt.mn_le c2 h3
  rw [e2] at h c2
  rw [value_form.f, Option.bind_some] at h
  cases hf : value_form.b x.f0 x.f1 x.f2 x.f3.length x.f4.length with
  | false => rw [hf, if_neg (by decide)] at h; cases h
  | true =>
    rw [hf, if_pos rfl] at h
    have hlen := form_len l3 l4 hf
    obtain ⟨g1, g2, g3, g4, g5⟩ := ihl x.f0 x.f1 x.f2 x.f3 x.f4 ar (mx D (ar + 1)) (W + 1 + (x.f2.size : Int)) D' W' 0 k3 l3 hlen.1 k4 h0 ha hm0 (by omega) (by omega) (Nat.zero_le _) h
    have hkeys : ((x.f4.map fun s => 1 + s.size).sum : Nat) = if x.f0 = 5 then ((x.f4.drop 0).map fun s => 1 + s.size).sum else 0 := by
      split
      · simp
      · rename_i k5
        have h40 : x.f4 = [] := by
          rcases form_all l3 l4 hf with z | z | z | z | z | z
          all_goals first | exact List.eq_nil_of_length_eq_zero z.2.2.2.2 | exact List.eq_nil_of_length_eq_zero z.2.2.2 | exact absurd z.1 k5
        rw [h40]; rfl
    have e1 : (wt x : Int) = 1 + (x.f2.size : Int) + (wrest x.f0 x.f3 x.f4 0 : Int) := by
      rw [wt_eq, hkeys]
      unfold wrest
      simp only [List.drop_zero]
      omega
    refine ⟨?_, by omega, g4, g5⟩
    rw [show (8 - ar).toNat = (7 - ar).toNat + 1 by omega]
    refine ⟨hf, fun h5 => ⟨fun s hs => ?_, fun i hi => ?_⟩, fun y hy => g1 y (by rw [List.drop_zero]; exact hy)⟩
    · obtain ⟨j, hj, rfl⟩ := List.getElem_of_mem hs
      have := (g2 h5 j (Nat.zero_le _) hj).1
      unfold rdOf at this
      rw [Int.toNat_natCast, List.getD_eq_getElem?_getD, List.getElem?_eq_getElem hj] at this
      exact this
    · have := (g2 h5 (i + 1) (Nat.zero_le _) hi).2 (by omega)
      rw [show ((i + 1 : Nat) : Int) - 1 = (i : Int) by omega] at this
      exact this
set_option maxHeartbeats 2000000 in
theorem wt.meas_l2 {K : Nat} (ihw : wt.MW K) (ihl : wt.ML K) : wt.ML (K + 1) := by
  intro f0 f1 f2 f3 f4 ar D W D' W' i hv hl h45 hs h0 h1 h2 h3 h4 hi h
  rw [value_measure.l] at h
  by_cases c : (i : Int) < (f3.length : Int)
  · rw [if_pos c, if_pos (by omega)] at h
    have ei : wrap64 ((i : Int) + 1) = ((i + 1 : Nat) : Int) := by rw [X.w64 _ (by omega) (by omega)]; omega
    have ea : wrap64 (ar + 1) = ar + 1 := X.w64 _ (by omega) (by omega)
    have hrs := wrest_succ f0 f3 f4 i (by omega) h45
    have hd := at_drop f3 i (by omega)
    have hvx := hv _ (at_mem f3 i (by omega))
    rw [hd]
    generalize hx : rd_T25 f3 (i : Int) = x at hrs h hvx ⊢
    have key : ∀ V : Int, 0 ≤ V → V ≤ 4096 → ((value_measure.w K x.f0 x.f1 x.f2 x.f3 x.f4 (ar + 1) D V).bind fun r => if r.1 = true then value_measure.l K f0 f1 f2 f3 f4 ar r.2.1 r.2.2 ((i + 1 : Nat) : Int) else some (false, r.2.1, r.2.2)) = some (true, D', W') →
        (∀ y ∈ x :: f3.drop (i + 1), wt.okV (7 - ar).toNat y) ∧ (f0 = 5 → ∀ j : Nat, i + 1 ≤ j → j < f4.length → (rdOf ByteArray.empty f4 (j : Int)).size ≤ 32 ∧ (0 < j → Op.bytesLess (rdOf ByteArray.empty f4 ((j : Int) - 1)).toList (rdOf ByteArray.empty f4 (j : Int)).toList = true)) ∧ V + (wt x : Int) + (wrest f0 f3 f4 (i + 1) : Int) = W' ∧ W' ≤ 2048 ∧ 0 ≤ D' := by
      intro V v0 v1 hh
      obtain ⟨r, hr, hh⟩ := Option.bind_eq_some_iff.1 hh
      obtain ⟨t, D1, W1⟩ := r
      dsimp only at hh
      cases t with
      | false => rw [if_neg (by decide)] at hh; cases hh
      | true =>
        rw [if_pos rfl] at hh
        obtain ⟨q1, q2, q3, q4⟩ := ihw x (ar + 1) D V D1 W1 hvx (by omega) (by omega) h2 v0 v1 hr
        obtain ⟨g1, g2, g3, g4, g5⟩ := ihl f0 f1 f2 f3 f4 ar D1 W1 D' W' (i + 1) hv hl h45 hs h0 h1 q4 (by omega) q3 (by omega) hh
        refine ⟨fun y hy => ?_, g2, by omega, g4, g5⟩
        rcases List.mem_cons.1 hy with rfl | hy
        · rw [show (8 - (ar + 1)).toNat = (7 - ar).toNat by omega] at q1; exact q1
        · exact g1 y hy
    by_cases k5 : f0 = 5
    · have q4 : (i : Int) < (f4.length : Int) := by have := h45 k5; omega
      rw [if_pos k5, if_pos q4] at h
      by_cases g1 : 32 < ((rdOf ByteArray.empty f4 (i : Int)).size : Int)
      · rw [if_pos g1] at h; cases h
      rw [if_neg g1] at h
      by_cases g2 : 0 < (i : Int) ∧ (Op.bytesLess ((rdOf ByteArray.empty f4 ((i : Int) - 1)).toList) ((rdOf ByteArray.empty f4 (i : Int)).toList)) = false
      · rw [if_pos g2] at h; cases h
      rw [if_neg g2] at h
      have et : wrap64 (W + wrap64 (1 + ((rdOf ByteArray.empty f4 (i : Int)).size : Int))) = W + 1 + ((rdOf ByteArray.empty f4 (i : Int)).size : Int) := by
        rw [X.w64 (1 + ((rdOf ByteArray.empty f4 (i : Int)).size : Int)) (by omega) (by omega), X.w64 _ (by omega) (by omega)]
        omega
      rw [et, ea, ei] at h
      obtain ⟨p1, p2, p3, p4, p5⟩ := key _ (by omega) (by omega) h
      rw [if_pos k5] at hrs
      refine ⟨p1, fun h5 j hj1 hj2 => ?_, by omega, p4, p5⟩
      by_cases hj : i + 1 ≤ j
      · exact p2 h5 j hj hj2
      · obtain rfl : j = i := by omega
        refine ⟨by omega, fun hp => ?_⟩
        cases hb : Op.bytesLess ((rdOf ByteArray.empty f4 ((j : Int) - 1)).toList) ((rdOf ByteArray.empty f4 (j : Int)).toList) with
        | true => rfl
        | false =>
            have hp2 : (0 : Int) < (j : Int) := Int.natCast_pos.2 hp
            exact (g2 ⟨hp2, hb⟩).elim
    · rw [if_neg k5, ea, ei] at h
      obtain ⟨p1, p2, p3, p4, p5⟩ := key W h3 (by omega) h
      rw [if_neg k5] at hrs
      exact ⟨p1, fun h5 => absurd h5 k5, by omega, p4, p5⟩
  · rw [if_neg c] at h
    injection h with h
    injection h with e1 e2
    injection e2 with e2 e3
    subst e2; subst e3
    have hi2 : f3.length ≤ i := by omega
    rw [List.drop_eq_nil_of_le hi2, wrest_end f0 f3 f4 i hi2 h45]
    exact ⟨fun y hy => (by cases hy), fun h5 j hj1 hj2 => absurd (h45 h5) (by omega), by omega, h4, h2⟩
/-- What the measure lets pass may be, and its weight is told. -/
theorem wt.meas_inv : ∀ K : Nat, wt.MW K ∧ wt.ML K
  | 0 => by
    constructor
    · intro x ar D W D' W' hv h0 h1 h2 h3 h4 h
      rw [value_measure.w] at h
      cases h
    · intro f0 f1 f2 f3 f4 ar D W D' W' i hv hl h45 hs h0 h1 h2 h3 h4 hi h
      rw [value_measure.l] at h
      cases h
  | K + 1 => ⟨wt.meas_w (wt.meas_inv K).2, wt.meas_l2 (wt.meas_inv K).1 (wt.meas_inv K).2⟩
theorem Ev.uniq {α : Type} {g : Nat → Option α} {r s : α} (h : Ev g r) (k : Ev g s) : r = s := by
  obtain ⟨K, hK⟩ := h
  obtain ⟨L, hL⟩ := k
  have h1 := hK (K + L) (by omega)
  have h2 := hL (K + L) (by omega)
  rw [h1] at h2
  exact Option.some.inj h2
/-- A value that is right: of eight parts in one another at most, 2048 heavy at most. -/
def wt.Rt (x : S25) : Prop := wt.okV 8 x ∧ wt x ≤ 2048
theorem wt.okV_frm : ∀ (d : Nat) (x : S25), wt.okV d x → Frm x
  | 0, x, h => h.elim
  | d + 1, x, h => .mk x h.1 (fun y hy => wt.okV_frm d y (h.2.2 y hy))
/-- What the program's Right, the document's and Encode tell of a value. -/
theorem wt.told3 (x : S25) (hv : Val x) : (wt.Rt x ∧ Ev (fun k => value_Right.f k x.f0 x.f1 x.f2 x.f3 x.f4) true ∧ Ev (fun k => scrupleref03_Right.f k x.f0 x.f1 x.f2 x.f3 x.f4) true ∧ Ev (fun k => wire_Encode.f k x.f0 x.f1 x.f2 x.f3 x.f4) (en x, 0)) ∨
    (¬ wt.Rt x ∧ Ev (fun k => value_Right.f k x.f0 x.f1 x.f2 x.f3 x.f4) false ∧ Ev (fun k => scrupleref03_Right.f k x.f0 x.f1 x.f2 x.f3 x.f4) false ∧ Ev (fun k => wire_Encode.f k x.f0 x.f1 x.f2 x.f3 x.f4) ([], 40)) := by
  rcases good x hv 0 0 0 (by omega) (by omega) (by omega) (by omega) (by omega) (by omega) with ⟨D', W', d, m, r, q, hD, hd, hD8, hW0, hW1, hF, hw⟩ | ⟨D', W', m, r⟩
  · left
    have hm : Ev (fun k => value_measure.f k x.f0 x.f1 x.f2 x.f3 x.f4) (W', D') := Ev.bind m (by simpa using Ev.const)
    have hW : Ev (fun k => value_Weight.f k x.f0 x.f1 x.f2 x.f3 x.f4) W' := Ev.bind hm Ev.const
    have hrR : Ev (fun k => scrupleref03_Right.f k x.f0 x.f1 x.f2 x.f3 x.f4) true := Ev.bind r (by rw [decide_eq_true hW1]; exact Ev.const)
    have hR : Ev (fun k => value_Right.f k x.f0 x.f1 x.f2 x.f3 x.f4) true := Ev.bind hW (by rw [decide_eq_true (by omega)]; exact Ev.const)
    obtain ⟨K, hK⟩ := m
    have hi := (wt.meas_inv K).1 x 0 0 0 D' W' hv (by omega) (by omega) (by omega) (by omega) (by omega) (hK K (Nat.le_refl _))
    refine ⟨⟨hi.1, by have := hi.2.1; omega⟩, hR, hrR, ?_⟩
    obtain ⟨b, p, e, g1, g2, g3, g4⟩ := encode_ev x hv
    obtain rfl := g1.uniq hrR
    have he : e = 0 := of_decide_eq_true g3.symm
    obtain ⟨_, _, rfl⟩ := g4 he
    subst he
    exact g2
  · right
    have hm : Ev (fun k => value_measure.f k x.f0 x.f1 x.f2 x.f3 x.f4) (0, 0) := Ev.bind m (by simpa using Ev.const)
    have hW : Ev (fun k => value_Weight.f k x.f0 x.f1 x.f2 x.f3 x.f4) 0 := Ev.bind hm Ev.const
    have hrR : Ev (fun k => scrupleref03_Right.f k x.f0 x.f1 x.f2 x.f3 x.f4) false := Ev.bind r (by rw [decide_eq_false (by omega)]; exact Ev.const)
    have hR : Ev (fun k => value_Right.f k x.f0 x.f1 x.f2 x.f3 x.f4) false := Ev.bind hW (by rw [decide_eq_false (by omega)]; exact Ev.const)
    refine ⟨fun hc => ?_, hR, hrR, ?_⟩
    · obtain ⟨D2, _, _, hm2⟩ := wt.meas_ok 8 x hc.1 0 0 0 (by omega) (by omega) (by omega) (by omega) (by omega) (by have := hc.2; omega)
      have := m.uniq hm2
      injection this with e1 _
      cases e1
    · refine Ev.bind (F := fun k ok => if ok = true then (slices_Clone_byte_byte.f []).bind fun b => (wire_put.f k b x.f0 x.f1 x.f2 x.f3 x.f4).bind fun r => some (r, 0) else some ([], 40)) hR ?_
      exact Ev.congr Ev.const (fun k => by rw [if_neg (by simp)])
end
end Go.Proofs.Ytnkbobblnhaclaa.X
/- Xxwref0: walks by hand, for the claim. -/
namespace Go.Proofs.Ytnkbobblnhaclaa.X
open Go.RowKit Go.Proofs.YtnkbobblnhaclaaW.PrintWords Go.Proofs.YtnkbobblnhaclaaW.PrintLast Go.Proofs.YtnkbobblnhaclaaW.PrintMore Go.Proofs.YtnkbobblnhaclaaW
section
set_option maxHeartbeats 4000000
set_option maxRecDepth 100000
/-- The reference's reader. -/
def wt.RB (w : World) (g : Nat) (A : Option Addr) (n c : Nat) (a wq f p : Int) : Prop := w.heap[g]? = some (.cells #[.slice A n c, .int .i64 a, .int .i64 wq, .int .i64 f, .int .i64 p] 62 (0, 0))
section
variable {w w1 : World} {g : Nat} {A : Option Addr} {n c : Nat} {a wq f p : Int}
theorem wt.RB.c0 (h : wt.RB w g A n c a wq f p) : w.cell? ⟨g, 0, none⟩ = some (.slice A n c) := (blk_cell h 0).trans rfl
theorem wt.RB.c1 (h : wt.RB w g A n c a wq f p) : w.cell? ⟨g, 1, none⟩ = some (.int .i64 a) := (blk_cell h 1).trans rfl
theorem wt.RB.c2 (h : wt.RB w g A n c a wq f p) : w.cell? ⟨g, 2, none⟩ = some (.int .i64 wq) := (blk_cell h 2).trans rfl
theorem wt.RB.c3 (h : wt.RB w g A n c a wq f p) : w.cell? ⟨g, 3, none⟩ = some (.int .i64 f) := (blk_cell h 3).trans rfl
theorem wt.RB.c4 (h : wt.RB w g A n c a wq f p) : w.cell? ⟨g, 4, none⟩ = some (.int .i64 p) := (blk_cell h 4).trans rfl
theorem wt.RB.fz (h : wt.RB w g A n c a wq f p) (o : Nat) : w.frozen? ⟨g, o, none⟩ = false := blk_frozen h o
theorem wt.RB.set1 (h : wt.RB w g A n c a wq f p) (x : Int) : wt.RB (w.setCell ⟨g, 1, none⟩ (.int .i64 x)) g A n c x wq f p := blk_put h 1 (.int .i64 x) rfl
theorem wt.RB.set2 (h : wt.RB w g A n c a wq f p) (x : Int) : wt.RB (w.setCell ⟨g, 2, none⟩ (.int .i64 x)) g A n c a x f p := blk_put h 2 (.int .i64 x) rfl
theorem wt.RB.below (h : wt.RB w g A n c a wq f p) (hb : Below w.heap.size w w1) : wt.RB w1 g A n c a wq f p := blk_below h hb
end
/-- Behind a step of the reference's reader. -/
structure wt.RNx (w0 w w' : World) (g : Nat) (A : Option Addr) (m c : Nat) (a wq f p : Int) : Prop where
  blk : wt.RB w' g A m c a wq f p
  fr : wt.Fr g w w'
  bel : Below w0.heap.size w0 w'
/-- Behind a fault. -/
def wt.RNb (w0 w w' : World) (g : Nat) (A : Option Addr) (m c : Nat) (f p : Int) : Prop := ∃ a wq, wt.RNx w0 w w' g A m c a wq f p
/-- What the reference's walk knows of the numbers that stand in bytes. -/
structure wt.Rin (bs : List Int) (u i : Int → Int × Int × Int) : Prop where
  U : ∃ K, ∀ a, scrupleref01_Uint.f K bs a = some (u a)
  I : ∃ K, ∀ a, scrupleref01_Int.f K bs a = some (i a)
end
end Go.Proofs.Ytnkbobblnhaclaa.X
/- Xxwref1: walks by hand, for the claim. -/
namespace Go.Proofs.Ytnkbobblnhaclaa.X
open Go.RowKit Go.Proofs.YtnkbobblnhaclaaW.PrintWords Go.Proofs.YtnkbobblnhaclaaW.PrintLast Go.Proofs.YtnkbobblnhaclaaW.PrintMore Go.Proofs.YtnkbobblnhaclaaW
section
set_option maxHeartbeats 4000000
set_option maxRecDepth 100000
/-- Behind a reading of a value by the reference. -/
def wt.RGotV (r : wt.R3 S25) (w0 w : World) (g : Nat) (A : Option Addr) (m c : Nat) (p : Int) (e : Ending) (w' : World) : Prop :=
  match r with
  | .ok x a' l' => (∃ v3 v4 : Value, e = .returned (.agg #[.int .i64 x.f0, .int .i64 x.f1, .string x.f2, v3, v4]) ∧ k25.R 25 w' w0.heap.size (fun k => w.heap.size ≤ k) v3 x.f3 ∧ Kd.string.R 9 w' w0.heap.size (fun k => w.heap.size ≤ k) v4 x.f4) ∧ wt.RNx w0 w w' g A m c a' (2048 - l') 0 p
  | .bad f q => (∃ (x : S25) (v3 v4 : Value), e = .returned (.agg #[.int .i64 x.f0, .int .i64 x.f1, .string x.f2, v3, v4]) ∧ k25.R 25 w' w0.heap.size (fun k => w.heap.size ≤ k) v3 x.f3 ∧ Kd.string.R 9 w' w0.heap.size (fun k => w.heap.size ≤ k) v4 x.f4) ∧ f ≠ 0 ∧ wt.RNb w0 w w' g A m c f q
structure wt.RLy (W : World) (g : Nat) (A : Option Addr) (m c : Nat) (a wq f p : Int) (pa : Addr) (b : Int) (rb : Nat) (cs : Array Value) : Prop where
  blk : wt.RB W g A m c a wq f p
  byt : W.cell? pa = some (.int .u8 b)
  res : W.heap[rb]? = some (.cells cs 25 (0, 0))
section
variable {W W1 : World} {g : Nat} {A : Option Addr} {m c : Nat} {a wq f p a' wq' f' p' : Int} {pa : Addr} {b : Int} {rb : Nat} {cs : Array Value}
theorem wt.RLy.below (h : wt.RLy W g A m c a wq f p pa b rb cs) (hb : Below W.heap.size W W1) : wt.RLy W1 g A m c a wq f p pa b rb cs :=
  ⟨h.blk.below hb, (hb.cell (World.block_lt_of_cell? W _ h.byt)).trans h.byt, blk_below h.res hb⟩
theorem wt.RB.res_ne (hB : wt.RB W g A m c a wq f p) (hr : W.heap[rb]? = some (.cells cs 25 (0, 0))) : rb ≠ g := by
  rintro rfl
  have hB' : W.heap[rb]? = some (.cells #[.slice A m c, .int .i64 a, .int .i64 wq, .int .i64 f, .int .i64 p] 62 (0, 0)) := hB
  rw [hB'] at hr
  injection hr with hr
  injection hr with _ hr
  exact absurd hr (by decide)
theorem wt.RLy.ne (h : wt.RLy W g A m c a wq f p pa b rb cs) : pa.block ≠ g ∧ rb ≠ g := by
  refine ⟨fun e1 => ?_, h.blk.res_ne h.res⟩
  have h4 := h.byt
  unfold World.cell? at h4
  rw [e1] at h4
  have hB' : W.heap[g]? = some (.cells #[.slice A m c, .int .i64 a, .int .i64 wq, .int .i64 f, .int .i64 p] 62 (0, 0)) := h.blk
  rw [hB'] at h4
  simp only at h4
  split at h4
  · cases h4
  · generalize pa.off = o at h4
    match o, h4 with
    | 0, h4 => simp at h4
    | 1, h4 => simp at h4
    | 2, h4 => simp at h4
    | 3, h4 => simp at h4
    | 4, h4 => simp at h4
    | o + 5, h4 => simp at h4
theorem wt.RLy.fr (h : wt.RLy W g A m c a wq f p pa b rb cs) (hF : wt.Fr g W W1) (hB : wt.RB W1 g A m c a' wq' f' p') : wt.RLy W1 g A m c a' wq' f' p' pa b rb cs := by
  have hlt := World.block_lt_of_cell? W _ h.byt
  have h6 := hF.2 _ hlt h.ne.1
  exact ⟨hB, by rw [← h.byt]; simp [World.cell?, h6], (hF.2 _ (blk_lt h.res) h.ne.2).trans h.res⟩
end
end
end Go.Proofs.Ytnkbobblnhaclaa.X
/- Xxwref2: walks by hand, for the claim. -/
namespace Go.Proofs.Ytnkbobblnhaclaa.X
open Go.RowKit Go.Proofs.YtnkbobblnhaclaaW.PrintWords Go.Proofs.YtnkbobblnhaclaaW.PrintLast Go.Proofs.YtnkbobblnhaclaaW.PrintMore Go.Proofs.YtnkbobblnhaclaaW
section
set_option maxHeartbeats 4000000
set_option maxRecDepth 100000
end
end Go.Proofs.Ytnkbobblnhaclaa.X
/- Xxwref3: walks by hand, for the claim. -/
namespace Go.Proofs.Ytnkbobblnhaclaa.X
open Go.RowKit Go.Proofs.YtnkbobblnhaclaaW.PrintWords Go.Proofs.YtnkbobblnhaclaaW.PrintLast Go.Proofs.YtnkbobblnhaclaaW.PrintMore Go.Proofs.YtnkbobblnhaclaaW
section
set_option maxHeartbeats 4000000
set_option maxRecDepth 100000
/-- What stands in memory while the parts of a list are read: kd the kind, v3 and v4 the rows so far. -/
structure wt.LR (w0 w W : World) (g : Nat) (A : Option Addr) (m c : Nat) (vb : Nat) (a wq f p kd : Int) (v3 v4 : Value) (acc : List S25) (ks : List ByteArray) : Prop where
  blk : wt.RB W g A m c a wq f p
  fr : wt.Fr g w W
  bel : Below w0.heap.size w0 W
  box : W.heap[vb]? = some (.cells #[.int .i64 kd, .int .i64 0, .string ⟨#[]⟩, v3, v4] 25 (0, 0))
  res : W.heap[w.heap.size]? = some (.cells #[.int .i64 0, .int .i64 0, .string ⟨#[]⟩, .slice none 0 0, .slice none 0 0] 25 (0, 0))
  row : k25.R 25 W w0.heap.size (fun k => vb < k ∧ some k ≠ v4.ownBlock) v3 acc
  keys : Kd.string.R 9 W w0.heap.size (fun k => vb < k) v4 ks
  hvb : w.heap.size < vb
  hgl : g < w.heap.size
  hg : w0.heap.size ≤ g
section
variable {w0 w W W1 : World} {g : Nat} {A : Option Addr} {m c : Nat} {vb : Nat} {a wq f p a1 wq1 f1 p1 kd : Int} {v3 v4 : Value} {acc : List S25} {ks : List ByteArray}
theorem wt.LR.lt (h : wt.LR w0 w W g A m c vb a wq f p kd v3 v4 acc ks) : vb < W.heap.size := blk_lt h.box
theorem wt.LR.below (h : wt.LR w0 w W g A m c vb a wq f p kd v3 v4 acc ks) (hb : Below W.heap.size W W1) : wt.LR w0 w W1 g A m c vb a wq f p kd v3 v4 acc ks :=
  ⟨h.blk.below hb, h.fr.trans (wt.Fr.of_below hb), below_then h.bel h.bel.size hb, blk_below h.box hb, blk_below h.res hb, Kd.R_below h.row hb, Kd.R_below h.keys hb, h.hvb, h.hgl, h.hg⟩
theorem wt.LR.step (h : wt.LR w0 w W g A m c vb a wq f p kd v3 v4 acc ks) (hn : wt.RNx w0 W W1 g A m c a1 wq1 f1 p1) : wt.LR w0 w W1 g A m c vb a1 wq1 f1 p1 kd v3 v4 acc ks :=
  have h1 := h.hgl
  have h2 := h.hvb
  ⟨hn.blk, h.fr.trans hn.fr, hn.bel, (hn.fr.2 vb h.lt (by omega)).trans h.box, (hn.fr.2 _ (blk_lt h.res) (by omega)).trans h.res, Kd.R_step h.row (fun k hk hlt => hn.fr.2 k hlt (by have := hk.1; omega)), Kd.R_step h.keys (fun k hk hlt => hn.fr.2 k hlt (by omega)), h2, h1, h.hg⟩
/-- Behind an append to the values' row. -/
theorem wt.LR.app3 {v5 : Value} {acc2 : List S25} (h : wt.LR w0 w W g A m c vb a wq f p kd v3 v4 acc ks) (ho : k25.R 25 W1 w0.heap.size (fun k => vb < k ∧ some k ≠ v4.ownBlock) v5 acc2) (hb : Below w0.heap.size w0 W1) (hg : W.grownBy W1 v3.ownBlock) : wt.LR w0 w (W1.setCell ⟨vb, 3, none⟩ v5) g A m c vb a wq f p kd v5 v4 acc2 ks := by
  have h1 := h.hgl
  have h2 := h.hvb
  have h3 := h.hg
  have hne : ∀ b, b ≤ vb → some b ≠ v3.ownBlock := fun b hb2 e => by have := (h.row.1 b e.symm).1; omega
  have hsz : w.heap.size ≤ W.heap.size := h.fr.1
  have fr1 : wt.Fr g w W1 := ⟨Nat.le_trans hsz hg.size, fun k hk hkg => (hg.block k (by omega) (hne k (by omega))).trans (h.fr.2 k hk hkg)⟩
  have box1 := blk_grown h.box hg (hne vb (Nat.le_refl _))
  exact ⟨(Below.heap_setCell W1 ⟨vb, 3, none⟩ v5 g (show g ≠ vb by omega)).trans (blk_grown h.blk hg (hne g (by omega))),
    ⟨Nat.le_trans fr1.1 (by simp [World.setCell]), fun k hk hkg => (Below.heap_setCell W1 ⟨vb, 3, none⟩ v5 k (show k ≠ vb by omega)).trans (fr1.2 k hk hkg)⟩,
    hb.setCell (show w0.heap.size ≤ vb by omega) v5,
    blk_put box1 3 v5 rfl,
    (Below.heap_setCell W1 ⟨vb, 3, none⟩ v5 _ (show w.heap.size ≠ vb by omega)).trans (blk_grown h.res hg (hne _ (by omega))),
    Kd.R_far ho (fun k hk => by show k ≠ vb; have := hk.1; omega) v5,
    Kd.R_far (Kd.R_over' h.keys (Kd.R_typed h.row) (by decide) hg) (fun k hk => by show k ≠ vb; omega) v5, h2, h1, h3⟩
/-- Behind an append to the keys' row. -/
theorem wt.LR.app4 {v5 : Value} {ks2 : List ByteArray} (h : wt.LR w0 w W g A m c vb a wq f p kd v3 v4 acc ks) (ho : Kd.string.R 9 W1 w0.heap.size (fun k => vb < k) v5 ks2) (hb : Below w0.heap.size w0 W1) (hg : W.grownBy W1 v4.ownBlock) (hat : v5.ownBlock = v4.ownBlock ∨ ∃ b, v5.ownBlock = some b ∧ W.heap.size ≤ b) : wt.LR w0 w (W1.setCell ⟨vb, 4, none⟩ v5) g A m c vb a wq f p kd v3 v5 acc ks2 := by
  have h1 := h.hgl
  have h2 := h.hvb
  have h3 := h.hg
  have hne : ∀ b, b ≤ vb → some b ≠ v4.ownBlock := fun b hb2 e => by have := h.keys.1 b e.symm; omega
  have hsz : w.heap.size ≤ W.heap.size := h.fr.1
  have fr1 : wt.Fr g w W1 := ⟨Nat.le_trans hsz hg.size, fun k hk hkg => (hg.block k (by omega) (hne k (by omega))).trans (h.fr.2 k hk hkg)⟩
  have box1 := blk_grown h.box hg (hne vb (Nat.le_refl _))
  exact ⟨(Below.heap_setCell W1 ⟨vb, 4, none⟩ v5 g (show g ≠ vb by omega)).trans (blk_grown h.blk hg (hne g (by omega))),
    ⟨Nat.le_trans fr1.1 (by simp [World.setCell]), fun k hk hkg => (Below.heap_setCell W1 ⟨vb, 4, none⟩ v5 k (show k ≠ vb by omega)).trans (fr1.2 k hk hkg)⟩,
    hb.setCell (show w0.heap.size ≤ vb by omega) v5,
    blk_put box1 4 v5 rfl,
    (Below.heap_setCell W1 ⟨vb, 4, none⟩ v5 _ (show w.heap.size ≠ vb by omega)).trans (blk_grown h.res hg (hne _ (by omega))),
    Kd.R_far (Kd.R_after h.row hg hat) (fun k hk => by show k ≠ vb; have := hk.1; omega) v5,
    Kd.R_far ho (fun k hk => by show k ≠ vb; omega) v5, h2, h1, h3⟩
end
theorem wt.RGotV.open {r : wt.R3 S25} {w0 w w' : World} {g : Nat} {A : Option Addr} {m c : Nat} {p : Int} {e : Ending} (h : wt.RGotV r w0 w g A m c p e w') : ∃ (x : S25) (v3 v4 : Value) (a2 wq2 f2 p2 : Int), e = .returned (.agg #[.int .i64 x.f0, .int .i64 x.f1, .string x.f2, v3, v4]) ∧ k25.R 25 w' w0.heap.size (fun k => w.heap.size ≤ k) v3 x.f3 ∧ Kd.string.R 9 w' w0.heap.size (fun k => w.heap.size ≤ k) v4 x.f4 ∧ wt.RNx w0 w w' g A m c a2 wq2 f2 p2 ∧ ((f2 = 0 ∧ p2 = p ∧ r = .ok x a2 (2048 - wq2)) ∨ (f2 ≠ 0 ∧ r = .bad f2 p2)) := by
  cases r with
  | ok x a2 l2 =>
    obtain ⟨⟨v3, v4, h1, h2, h3⟩, h4⟩ := h
    exact ⟨x, v3, v4, _, _, _, _, h1, h2, h3, h4, Or.inl ⟨rfl, rfl, by rw [show 2048 - (2048 - l2) = l2 by omega]⟩⟩
  | bad f q =>
    obtain ⟨⟨x, v3, v4, h1, h2, h3⟩, hf, a2, wq2, h4⟩ := h
    exact ⟨x, v3, v4, _, _, _, _, h1, h2, h3, h4, Or.inr ⟨hf, rfl⟩⟩
end
end Go.Proofs.Ytnkbobblnhaclaa.X
/- Xxwref4: walks by hand, for the claim. -/
namespace Go.Proofs.Ytnkbobblnhaclaa.X
open Go.RowKit Go.Proofs.YtnkbobblnhaclaaW.PrintWords Go.Proofs.YtnkbobblnhaclaaW.PrintLast Go.Proofs.YtnkbobblnhaclaaW.PrintMore Go.Proofs.YtnkbobblnhaclaaW
section
set_option maxHeartbeats 4000000
set_option maxRecDepth 100000
end
end Go.Proofs.Ytnkbobblnhaclaa.X
/- Xxwwipe0: walks by hand, for the claim. -/
namespace Go.Proofs.Ytnkbobblnhaclaa.X
open Go.RowKit Go.Proofs.YtnkbobblnhaclaaW.PrintWords Go.Proofs.YtnkbobblnhaclaaW.PrintLast Go.Proofs.YtnkbobblnhaclaaW.PrintMore Go.Proofs.YtnkbobblnhaclaaW
section
set_option maxHeartbeats 4000000
set_option maxRecDepth 100000
/-- Cells that are as they were, or wiped. -/
def wt.Gm (t : Nat) (mark : ByteArray) (cs cs' : Array Value) : Prop := (t = 25 → ∀ i : Nat, (∀ j, j < 5 → cs'[i * 5 + j]? = cs[i * 5 + j]?) ∨ wt.grp cs' (i * 5) (.int .i64 3) (.int .i64 0) (.string mark) (.slice none 0 0) (.slice none 0 0)) ∧ (t = 9 → ∀ i : Nat, cs'[i]? = cs[i]? ∨ cs'[i]? = some (.string mark))
theorem wt.Gm.refl (t : Nat) (mark : ByteArray) (cs : Array Value) : wt.Gm t mark cs cs := ⟨fun _ i => Or.inl fun _ _ => rfl, fun _ i => Or.inl rfl⟩
theorem wt.Gm.trans {t : Nat} {mark : ByteArray} {c1 c2 c3 : Array Value} (h : wt.Gm t mark c1 c2) (k : wt.Gm t mark c2 c3) : wt.Gm t mark c1 c3 := by
  refine ⟨fun ht i => ?_, fun ht i => ?_⟩
  · rcases k.1 ht i with e | e
    · rcases h.1 ht i with f | ⟨f0, f1, f2, f3, f4⟩
      · exact Or.inl fun j hj => (e j hj).trans (f j hj)
      · exact Or.inr ⟨(e 0 (by omega)).trans f0, (e 1 (by omega)).trans f1, (e 2 (by omega)).trans f2, (e 3 (by omega)).trans f3, (e 4 (by omega)).trans f4⟩
    · exact Or.inr e
  · rcases k.2 ht i with e | e
    · rcases h.2 ht i with f | f
      · exact Or.inl (e.trans f)
      · exact Or.inr (e.trans f)
    · exact Or.inr e
/-- What wiping does: blocks of Y are wiped in parts, no other block that was there is written. -/
structure wt.SimW (Y : Nat → Prop) (mark : ByteArray) (w w1 : World) : Prop where
  os : w1.os = w.os
  tape : w1.tape = w.tape
  output : w1.output = w.output
  size : w.heap.size ≤ w1.heap.size
  out : ∀ k, k < w.heap.size → ¬ Y k → w1.heap[k]? = w.heap[k]?
  ins : ∀ k, Y k → ∀ (cs : Array Value) (t : Nat), w.heap[k]? = some (.cells cs t (0, 0)) → ∃ cs' : Array Value, w1.heap[k]? = some (.cells cs' t (0, 0)) ∧ cs'.size = cs.size ∧ wt.Gm t mark cs cs'
section
variable {Y : Nat → Prop} {mark : ByteArray} {w w1 w2 : World}
theorem wt.SimW.of_below (h : Below w.heap.size w w1) : wt.SimW Y mark w w1 := ⟨h.os, h.tape, h.output, h.size, fun k hk _ => h.block k hk, fun k _ cs t hc => ⟨cs, blk_below hc h, rfl, wt.Gm.refl _ _ _⟩⟩
theorem wt.SimW.refl (Y : Nat → Prop) (mark : ByteArray) (w : World) : wt.SimW Y mark w w := wt.SimW.of_below (Below.refl _ _)
theorem wt.SimW.trans (h : wt.SimW Y mark w w1) (k : wt.SimW Y mark w1 w2) : wt.SimW Y mark w w2 := by
  refine ⟨k.os.trans h.os, k.tape.trans h.tape, k.output.trans h.output, Nat.le_trans h.size k.size, fun i hi hy => (k.out i (Nat.lt_of_lt_of_le hi h.size) hy).trans (h.out i hi hy), fun i hy cs t hc => ?_⟩
  obtain ⟨c1, e1, e2, e3⟩ := h.ins i hy cs t hc
  obtain ⟨c2, f1, f2, f3⟩ := k.ins i hy c1 t e1
  exact ⟨c2, f1, f2.trans e2, e3.trans f3⟩
theorem wt.SimW.blocks (h : wt.SimW Y mark w w1) (hs : w1.heap.size ≤ w2.heap.size) (ho : w2.os = w1.os) (ht : w2.tape = w1.tape) (hp : w2.output = w1.output) (hb : ∀ i, i < w.heap.size → w2.heap[i]? = w1.heap[i]?) : wt.SimW Y mark w w2 :=
  ⟨ho.trans h.os, ht.trans h.tape, hp.trans h.output, Nat.le_trans h.size hs, fun i hi hy => (hb i hi).trans (h.out i hi hy), fun i hy cs t hc => by
    obtain ⟨c1, e1, e2, e3⟩ := h.ins i hy cs t hc
    exact ⟨c1, (hb i (blk_lt hc)).trans e1, e2, e3⟩⟩
theorem wt.SimW.grown (h : wt.SimW Y mark w w1) {row : Option Nat} (hg : w1.grownBy w2 row) (hr : ∀ k, row = some k → w.heap.size ≤ k) : wt.SimW Y mark w w2 :=
  h.blocks hg.size hg.os hg.tape hg.output (fun i hi => hg.block i (Nat.lt_of_lt_of_le hi h.size) (fun e => by have := hr i e.symm; omega))
end
/-- A slice of so many elements, in a block of Z, whatever they are. -/
def wt.Row (w : World) (t size : Nat) (Z : Nat → Prop) (v : Value) (n : Nat) : Prop :=
  (v = .slice none 0 0 ∧ n = 0) ∨ ∃ b c cs, v = .slice (some ⟨b, 0, none⟩) n c ∧ Z b ∧ w.heap[b]? = some (.cells cs t (0, 0)) ∧ n ≤ c ∧ c * size ≤ cs.size
theorem wt.VRow.row {w : World} {Y Z : Nat → Prop} (hZ : ∀ k, Y k → Z k) : ∀ {d : Nat} {v : Value} {xs : List S25}, wt.VRow w Y d v xs → wt.Row w 25 5 Z v xs.length
  | 0, v, xs, h => h.elim
  | d + 1, v, xs, h => by
    rcases h with ⟨rfl, rfl⟩ | ⟨b, c, cs, rfl, hy, hh, hl, hsz, hmx, hc⟩
    · exact Or.inl ⟨rfl, rfl⟩
    · exact Or.inr ⟨b, c, cs, rfl, hZ b hy, hh, hl, hsz⟩
theorem wt.KRow.row {w : World} {Y Z : Nat → Prop} (hZ : ∀ k, Y k → Z k) {v : Value} {ks : List ByteArray} (h : wt.KRow w Y v ks) : wt.Row w 9 1 Z v ks.length := by
  rcases h with ⟨rfl, rfl⟩ | ⟨b, c, cs, rfl, hy, hh, hl, hsz, hmx, hc⟩
  · exact Or.inl ⟨rfl, rfl⟩
  · exact Or.inr ⟨b, c, cs, rfl, hZ b hy, hh, hl, by omega⟩
section
variable {P : Program} {ops : Array Oper} {rest : List Oper} {Q : Exit → Act → World → Prop}
end
end
end Go.Proofs.Ytnkbobblnhaclaa.X
/- Xxwwipe1: walks by hand, for the claim. -/
namespace Go.Proofs.Ytnkbobblnhaclaa.X
open Go.RowKit Go.Proofs.YtnkbobblnhaclaaW.PrintWords Go.Proofs.YtnkbobblnhaclaaW.PrintLast Go.Proofs.YtnkbobblnhaclaaW.PrintMore Go.Proofs.YtnkbobblnhaclaaW
section
set_option maxHeartbeats 4000000
set_option maxRecDepth 100000
section
variable {Y : Nat → Prop} {mark : ByteArray} {w W W1 : World} {b n : Nat} {cs cs' : Array Value} {O : Obj}
theorem wt.Row.keep {t t' size : Nat} {Z : Nat → Prop} {v : Value} (h : wt.Row W t size Z v n) (hg : (W.alloc O).grownBy W1 (some b)) (hb : W.heap[b]? = some (.cells cs t' (0, 0))) (ht : t ≠ t') : wt.Row W1 t size Z v n := by
  rcases h with ⟨rfl, rfl⟩ | ⟨b', c, cs', rfl, hZ, hh, hle, hcs⟩
  · exact Or.inl ⟨rfl, rfl⟩
  · refine Or.inr ⟨b', c, cs', rfl, hZ, (hg.block b' (by rw [Deep.nblk_alloc]; have := blk_lt hh; omega) (fun e => ?_)).trans (blk_alloc hh O), hle, hcs⟩
    have e2 := Option.some.inj e
    subst e2
    rw [hb] at hh
    injection hh with hh
    injection hh with _ hh
    exact ht hh.symm
end
section
variable {ops : Array Oper} {rest : List Oper} {Q : Exit → Act → World → Prop} {Y : Nat → Prop} {mark : ByteArray} {w W : World} {o : Oper} {a : Act} {v v2 : Value} {n m : Nat}
end
theorem wt.KRow.elem {w : World} {Y : Nat → Prop} {n c : Nat} {A : Option Addr} {ks : List ByteArray} (h : wt.KRow w Y (.slice A n c) ks) {j : Nat} (hj : j < n) (hn : ks.length = n) : ∃ b cs k, A = some ⟨b, 0, none⟩ ∧ Y b ∧ w.heap[b]? = some (.cells cs 9 (0, 0)) ∧ cs[j]? = some (.string k) := by
  rcases h with ⟨_, rfl⟩ | ⟨b, c', cs, e, hy, hh, hl, hsz, hm, hc⟩
  · simp at hn; omega
  · injection e with e1 e2 e3
    exact ⟨b, cs, _, e1, hy, hh, hc j _ (List.getElem?_eq_getElem (by omega))⟩
end
end Go.Proofs.Ytnkbobblnhaclaa.X
/- Xxwover: walks by hand, for the claim. -/
namespace Go.Proofs.Ytnkbobblnhaclaa.X
open Go.RowKit Go.Proofs.YtnkbobblnhaclaaW.PrintWords Go.Proofs.YtnkbobblnhaclaaW.PrintLast Go.Proofs.YtnkbobblnhaclaaW.PrintMore Go.Proofs.YtnkbobblnhaclaaW
section
set_option maxHeartbeats 4000000
set_option maxRecDepth 100000
end
end Go.Proofs.Ytnkbobblnhaclaa.X
/- Xxwsmall: walks by hand, for the claim. -/
namespace Go.Proofs.Ytnkbobblnhaclaa.X
open Go.RowKit Go.Proofs.YtnkbobblnhaclaaW.PrintWords Go.Proofs.YtnkbobblnhaclaaW.PrintLast Go.Proofs.YtnkbobblnhaclaaW.PrintMore Go.Proofs.YtnkbobblnhaclaaW
section
set_option maxRecDepth 100000
open Go.Proofs.Ytnkbobblnhaclaa
theorem wt.uin_of {bs : List Int} (hb : Pl.Bytes bs) (hl : bs.length ≤ 140737488351232) : wt.Uin bs (Pl.uintAt bs) (Pl.intAt bs) where
  U := ⟨24, fun a => Pl.Uint_eq 24 (Nat.le_refl _) bs hb (by omega) a⟩
  I := ⟨24, fun a => Pl.Int_eq 24 (Nat.le_refl _) bs hb (by omega) a⟩
  R := fun a => Pl.uintAt_range bs hb a
  N := fun a h => by have := Pl.uintAt_ok bs hb a h; omega
  M := fun a h => by have := Pl.uintAt_ok bs hb a h; show 0 ≤ a ∧ a < (Pl.uintAt bs a).2.1 ∧ (Pl.uintAt bs a).2.1 ≤ bs.length; omega
  V := fun a => Pl.unzz_range _ (Pl.uintAt_range bs hb a).1 (Pl.uintAt_range bs hb a).2
  L := hl
  B := hb
/-- A value whose parts are small, so many deep. -/
def wt.sm : Nat → S25 → Prop
  | 0, _ => False
  | d + 1, x => (0 ≤ x.f0 ∧ x.f0 ≤ 5) ∧ (-9223372036854775808 ≤ x.f1 ∧ x.f1 ≤ 9223372036854775807) ∧ x.f2.size ≤ 2048 ∧ x.f3.length ≤ 2048 ∧ x.f4.length ≤ 2048 ∧ (∀ s ∈ x.f4, s.size ≤ 2048) ∧ ∀ y ∈ x.f3, wt.sm d y
theorem wt.sm.mk {d : Nat} {f0 f1 : Int} {f2 : ByteArray} {f3 : List S25} {f4 : List ByteArray} (h0 : 0 ≤ f0 ∧ f0 ≤ 5) (h1 : -9223372036854775808 ≤ f1 ∧ f1 ≤ 9223372036854775807) (h2 : f2.size ≤ 2048) (h3 : f3.length ≤ 2048) (h4 : f4.length ≤ 2048) (k4 : ∀ s ∈ f4, s.size ≤ 2048) (k3 : ∀ y ∈ f3, wt.sm d y) : wt.sm (d + 1) ⟨f0, f1, f2, f3, f4⟩ := ⟨h0, h1, h2, h3, h4, k4, k3⟩
end
end Go.Proofs.Ytnkbobblnhaclaa.X
/- Xxwlent: walks by hand, for the claim. -/
namespace Go.Proofs.Ytnkbobblnhaclaa.X
open Go.RowKit Go.Proofs.YtnkbobblnhaclaaW.PrintWords Go.Proofs.YtnkbobblnhaclaaW.PrintLast Go.Proofs.YtnkbobblnhaclaaW.PrintMore Go.Proofs.YtnkbobblnhaclaaW
section
set_option maxHeartbeats 4000000
set_option maxRecDepth 100000
/-- What is behind lent bytes. -/
def wt.pad (i : Nat) : Int := ((100 + i % 50 : Nat) : Int)
/-- Lent bytes. -/
structure wt.LentL (bs xs : List Int) : Prop where
  len : xs.length = bs.length + 40
  lo : ∀ q, q < bs.length → xs[q]? = bs[q]?
  hi : ∀ q, bs.length ≤ q → q < bs.length + 40 → xs[q]? = some (wt.pad q)
theorem wt.LentL.take {bs xs : List Int} (h : wt.LentL bs xs) : xs.take bs.length = bs := by
  apply List.ext_getElem?
  intro i
  rw [List.getElem?_take]
  split
  next hi => exact h.lo i hi
  next hi => exact (List.getElem?_eq_none (by omega)).symm
end
end Go.Proofs.Ytnkbobblnhaclaa.X
/- XTakes: walks by hand, for the claim. -/
namespace Go.Proofs.Ytnkbobblnhaclaa.X
open Go.RowKit Go.Proofs.YtnkbobblnhaclaaW.PrintWords Go.Proofs.YtnkbobblnhaclaaW.PrintLast Go.Proofs.YtnkbobblnhaclaaW.PrintMore Go.Proofs.YtnkbobblnhaclaaW
section
set_option maxHeartbeats 4000000
set_option maxRecDepth 100000
open Go.Proofs.Ytnkbobblnhaclaa
open Go.ChangeShapes Go.WideShapes Go.ChangeAt in
theorem el_int {H : Type} {enc : TypeId × Value → H} {P : Program} {w : World} {held : Bool} {spare : Nat → Bool} {k : IntKind} {e : TypeId} (he : P.underlying e = some (.int k)) : ∀ n cs (y : DataW H × List MemPlace), DataW.trod enc P w 0 spare held n e cs = some y → ∃ x, (Kd.int k).K w x cs ∧ (Lit.int k x).wf = true := fun n cs y hy => by
  obtain ⟨x, q, _, z⟩ := DataW.trod_int he hy
  exact ⟨x, q, z⟩
theorem wt.VRow.CC {w : World} {Y : Nat → Prop} {d n c : Nat} {A : Option Addr} {xs : List S25} (h : wt.VRow w Y d (.slice A n c) xs) : n = xs.length ∧ xs.length ≤ c ∧ k25.C w A xs.length xs := by
  obtain ⟨A', c', e, h1, h2⟩ := wt.VRow.C d h
  injection e with e1 e2 e3
  subst e1; subst e2; subst e3
  exact ⟨rfl, h1, h2⟩
theorem wt.KRow.CC {w : World} {Y : Nat → Prop} {n c : Nat} {A : Option Addr} {xs : List ByteArray} (h : wt.KRow w Y (.slice A n c) xs) : n = xs.length ∧ xs.length ≤ c ∧ Kd.string.C w A xs.length xs := by
  obtain ⟨A', c', e, h1, h2⟩ := h.C
  injection e with e1 e2 e3
  subst e1; subst e2; subst e3
  exact ⟨rfl, h1, h2⟩
/-- A value as it stands in memory. -/
def wt.vl (x : S25) (A3 : Option Addr) (c3 : Nat) (A4 : Option Addr) (c4 : Nat) : Value := .agg #[.int .i64 x.f0, .int .i64 x.f1, .string x.f2, .slice A3 x.f3.length c3, .slice A4 x.f4.length c4]
/-- Its rows. -/
structure wt.Tr (W : World) (lo hi : Nat) (x : S25) (A3 : Option Addr) (c3 : Nat) (A4 : Option Addr) (c4 : Nat) : Prop where
  v : wt.VRow W (fun k => lo ≤ k ∧ k < hi) 8 (.slice A3 x.f3.length c3) x.f3
  k : wt.KRow W (fun k => lo ≤ k ∧ k < hi) (.slice A4 x.f4.length c4) x.f4
section
variable {W W1 : World} {lo hi : Nat} {x : S25} {A3 : Option Addr} {c3 : Nat} {A4 : Option Addr} {c4 : Nat}
theorem wt.Tr.move (h : wt.Tr W lo hi x A3 c3 A4 c4) (hm : ∀ k, lo ≤ k → k < hi → W1.heap[k]? = W.heap[k]?) : wt.Tr W1 lo hi x A3 c3 A4 c4 :=
  ⟨wt.VRow.move (fun _ q => q) (fun k hk _ => hm k hk.1 hk.2) 8 h.v, h.k.move (fun _ q => q) (fun k hk _ => hm k hk.1 hk.2)⟩
theorem wt.Tr.below (h : wt.Tr W lo hi x A3 c3 A4 c4) (hb : Below W.heap.size W W1) (hh : hi ≤ W.heap.size) : wt.Tr W1 lo hi x A3 c3 A4 c4 := h.move (fun k _ hk => hb.block k (Nat.lt_of_lt_of_le hk hh))
end
/-- What Take tells: a value, a place, a fault. -/
def wt.tk (r : wt.R3 S25) : S25 × Int × Int := match r with
  | .ok x a _ => (x, a, 0)
  | .bad e p => (z25, p, e)
theorem wt.take22 {bs : List Int} {u i : Int → Int × Int × Int} (hU : wt.Uin bs u i) {W : World} {A : Option Addr} {c : Nat} (at_ : Int) {x : S25} {n0 e0 : Int} (hx : wt.tk (wt.takeS bs u i at_) = (x, n0, e0)) (hC : (Kd.int .u8).C W A bs.length bs) (hc : bs.length ≤ c) :
    Calls Try.prog 22 #[.slice A bs.length c, .int .i64 at_] W fun e w' => ∃ A3 c3 A4 c4, e = .returned (.tuple #[wt.vl x A3 c3 A4 c4, .int .i64 n0, .int .i64 e0]) ∧ wt.Tr w' W.heap.size w'.heap.size x A3 c3 A4 c4 ∧ Below W.heap.size W w' := by
  refine (wt.take1 hU at_ hC hc).mono ?_
  intro e w' h
  cases hr : wt.takeS bs u i at_ with
  | ok y a l =>
    rw [hr] at h hx
    injection hx with e1 e2
    injection e2 with e2 e3
    subst e1; subst e2; subst e3
    obtain ⟨v3, v4, h1, h2, h3, h4⟩ := h
    obtain ⟨A3, c3, e3, _⟩ := wt.VRow.C 8 h2
    obtain ⟨A4, c4, e4, _⟩ := h3.C
    subst e3; subst e4
    exact ⟨A3, c3, A4, c4, h1, ⟨h2, h3⟩, h4⟩
  | bad f p =>
    rw [hr] at h hx
    injection hx with e1 e2
    injection e2 with e2 e3
    subst e1; subst e2; subst e3
    exact ⟨none, 0, none, 0, h.1, ⟨Or.inl ⟨rfl, rfl⟩, Or.inl ⟨rfl, rfl⟩⟩, h.2⟩
/-- What stands while the lent bytes are wiped: the second value, the reference's, and the bytes. -/
structure wt.MM (w wr : World) (n1 n3 n4 n5 n6 : Nat) (W : World) (x : S25) (A23 : Option Addr) (c23 : Nat) (A24 : Option Addr) (c24 : Nat) (A33 : Option Addr) (c33 : Nat) (A34 : Option Addr) (c34 : Nat) (b n cap : Nat) : Prop where
  t2 : wt.Tr W n3 n4 x A23 c23 A24 c24
  t3 : wt.Tr W n5 n6 x A33 c33 A34 c34
  x2 : W.heap[n4]? = some (.cells #[.int .i64 x.f0, .int .i64 x.f1, .string x.f2, .slice A23 x.f3.length c23, .slice A24 x.f4.length c24] 25 (0, 0))
  x3 : W.heap[n6]? = some (.cells #[.int .i64 x.f0, .int .i64 x.f1, .string x.f2, .slice A33 x.f3.length c33, .slice A34 x.f4.length c34] 25 (0, 0))
  bel : Below w.heap.size w W
  row : ∃ xs, Kd.R (Kd.int .u8) 5 W w.heap.size (fun _ => True) (.slice (some ⟨b, 0, none⟩) n cap) xs
  bn : w.heap.size ≤ b ∧ b < n3 ∧ n3 ≤ n4 ∧ n4 < n5 ∧ n5 ≤ n6 ∧ n6 < W.heap.size
/-- Ahead of the wiping. -/
structure wt.M7 (w wr : World) (bs : List Int) (xs : List Int) (n1 n2 n3 n4 n5 n6 : Nat) (W : World) (x : S25) (A13 : Option Addr) (c13 : Nat) (A14 : Option Addr) (c14 : Nat) (A23 : Option Addr) (c23 : Nat) (A24 : Option Addr) (c24 : Nat) (A33 : Option Addr) (c33 : Nat) (A34 : Option Addr) (c34 : Nat) (b n cap : Nat) : Prop where
  t1 : wt.Tr W n1 n2 x A13 c13 A14 c14
  t2 : wt.Tr W n3 n4 x A23 c23 A24 c24
  t3 : wt.Tr W n5 n6 x A33 c33 A34 c34
  x1 : W.heap[n2]? = some (.cells #[.int .i64 x.f0, .int .i64 x.f1, .string x.f2, .slice A13 x.f3.length c13, .slice A14 x.f4.length c14] 25 (0, 0))
  x2 : W.heap[n4]? = some (.cells #[.int .i64 x.f0, .int .i64 x.f1, .string x.f2, .slice A23 x.f3.length c23, .slice A24 x.f4.length c24] 25 (0, 0))
  x3 : W.heap[n6]? = some (.cells #[.int .i64 x.f0, .int .i64 x.f1, .string x.f2, .slice A33 x.f3.length c33, .slice A34 x.f4.length c34] 25 (0, 0))
  bel : Below w.heap.size w W
  row : Kd.R (Kd.int .u8) 5 W w.heap.size (fun _ => True) (.slice (some ⟨b, 0, none⟩) n cap) xs
  bn : w.heap.size ≤ b ∧ b < n1 ∧ n1 ≤ n2 ∧ n2 < n3 ∧ n3 ≤ n4 ∧ n4 < n5 ∧ n5 ≤ n6 ∧ n6 < W.heap.size
section
variable {w wr W W1 : World} {bs xs : List Int} {n1 n2 n3 n4 n5 n6 : Nat} {x : S25} {A13 : Option Addr} {c13 : Nat} {A14 : Option Addr} {c14 : Nat} {A23 : Option Addr} {c23 : Nat} {A24 : Option Addr} {c24 : Nat} {A33 : Option Addr} {c33 : Nat} {A34 : Option Addr} {c34 : Nat} {b n cap : Nat}
theorem wt.M7.h1 (h : wt.M7 w wr bs xs n1 n2 n3 n4 n5 n6 W x A13 c13 A14 c14 A23 c23 A24 c24 A33 c33 A34 c34 b n cap) : n2 ≤ W.heap.size := by have := h.bn; omega
theorem wt.M7.below (h : wt.M7 w wr bs xs n1 n2 n3 n4 n5 n6 W x A13 c13 A14 c14 A23 c23 A24 c24 A33 c33 A34 c34 b n cap) (hb : Below W.heap.size W W1) : wt.M7 w wr bs xs n1 n2 n3 n4 n5 n6 W1 x A13 c13 A14 c14 A23 c23 A24 c24 A33 c33 A34 c34 b n cap :=
  have q := h.bn
  have s := hb.size
  ⟨h.t1.below hb (by omega), h.t2.below hb (by omega), h.t3.below hb (by omega), blk_below h.x1 hb, blk_below h.x2 hb, blk_below h.x3 hb, below_then h.bel h.bel.size hb, Kd.R_below h.row hb, by omega⟩
theorem wt.MM.cell (h : wt.MM w wr n1 n3 n4 n5 n6 W x A23 c23 A24 c24 A33 c33 A34 c34 b n cap) {k : Nat} (hk : k < n) : ∃ old, W.cell? ⟨b, k, none⟩ = some (.int .u8 old) ∧ W.frozen? ⟨b, k, none⟩ = false := by
  obtain ⟨xs, hr⟩ := h.row
  have hx := Kd.R_reads' hr
  obtain ⟨ad, ea, hz⟩ := Kd.at_int hx.2.2 (k : Int) (by omega) (by omega)
  have ea := Option.some.inj ea
  rw [← ea, Int.toNat_natCast, Addr.add_lit, Nat.zero_add] at hz
  obtain ⟨g, cap', e1, _, _, cells, hcl⟩ := Kd.R_form hr (by omega)
  injection e1 with e1
  injection e1 with e1
  injection e1 with e1
  exact ⟨_, hz, by rw [e1]; exact blk_frozen hcl k⟩
theorem wt.MM.put (h : wt.MM w wr n1 n3 n4 n5 n6 W x A23 c23 A24 c24 A33 c33 A34 c34 b n cap) (k : Nat) : wt.MM w wr n1 n3 n4 n5 n6 (W.setCell ⟨b, k, none⟩ (.int .u8 9)) x A23 c23 A24 c24 A33 c33 A34 c34 b n cap := by
  have q := h.bn
  have same : ∀ i, i ≠ b → (W.setCell ⟨b, k, none⟩ (.int .u8 9)).heap[i]? = W.heap[i]? := fun i hi => Below.heap_setCell W ⟨b, k, none⟩ (.int .u8 9) i hi
  obtain ⟨xs, hr⟩ := h.row
  have hp := (Kd.R_putg hr (k : Int) 9).1
  rw [Int.toNat_natCast] at hp
  exact ⟨h.t2.move (fun i h1 h2 => same i (by omega)), h.t3.move (fun i h1 h2 => same i (by omega)), (same _ (by omega)).trans h.x2, (same _ (by omega)).trans h.x3, h.bel.setCell (show w.heap.size ≤ b from q.1) _, ⟨_, hp⟩, by rw [Deep.nblk_setCell]; omega⟩
theorem wt.MM.all (h : wt.MM w wr n1 n3 n4 n5 n6 W x A23 c23 A24 c24 A33 c33 A34 c34 b n cap) (hb : Below W.heap.size W W1) : Below w.heap.size w W1 := below_then h.bel h.bel.size hb
end
end
end Go.Proofs.Ytnkbobblnhaclaa.X
/- Xxwdecode: walks by hand, for the claim. -/
namespace Go.Proofs.Ytnkbobblnhaclaa.X
open Go.RowKit Go.Proofs.YtnkbobblnhaclaaW.PrintWords Go.Proofs.YtnkbobblnhaclaaW.PrintLast Go.Proofs.YtnkbobblnhaclaaW.PrintMore Go.Proofs.YtnkbobblnhaclaaW
section
set_option maxHeartbeats 4000000
set_option maxRecDepth 100000
end
end Go.Proofs.Ytnkbobblnhaclaa.X
/- Xxwone0: walks by hand, for the claim. -/
namespace Go.Proofs.Ytnkbobblnhaclaa.X
open Go.RowKit Go.Proofs.YtnkbobblnhaclaaW.PrintWords Go.Proofs.YtnkbobblnhaclaaW.PrintLast Go.Proofs.YtnkbobblnhaclaaW.PrintMore Go.Proofs.YtnkbobblnhaclaaW
section
set_option maxRecDepth 100000
open Go.Proofs.Ytnkbobblnhaclaa
/-- Its bytes are few. -/
theorem wt.en_few (x : S25) (hv : Val x) (hr : wt.Rt x) : (en x).length ≤ 24576 := by
  have := (en_len x hv).1
  have := hr.2
  omega
/-- A whole number as a value. -/
def wt.li (n : Int) : S25 := ⟨2, n, ⟨#[]⟩, [], []⟩
end
end Go.Proofs.Ytnkbobblnhaclaa.X
/- Xxwback3: walks by hand, for the claim. -/
namespace Go.Proofs.Ytnkbobblnhaclaa.X
open Go.RowKit Go.Proofs.YtnkbobblnhaclaaW.PrintWords Go.Proofs.YtnkbobblnhaclaaW.PrintLast Go.Proofs.YtnkbobblnhaclaaW.PrintMore Go.Proofs.YtnkbobblnhaclaaW
section
set_option maxHeartbeats 4000000
set_option maxRecDepth 100000
open Go.Proofs.Ytnkbobblnhaclaa
/-- What Put tells of a value, whatever stands ahead. -/
theorem wt.put_told (x : S25) (hv : Val x) : (wt.Rt x ∧ Ev (fun k => scrupleref03_Right.f k x.f0 x.f1 x.f2 x.f3 x.f4) true ∧ Ev (fun k => wire_Length.f k x.f0 x.f1 x.f2 x.f3 x.f4) ((en x).length : Int) ∧ ∀ b : List Int, b.length ≤ 140737488300000 → Ev (fun k => wire_Put.f k b x.f0 x.f1 x.f2 x.f3 x.f4) (b ++ en x, 0)) ∨
    (¬ wt.Rt x ∧ Ev (fun k => scrupleref03_Right.f k x.f0 x.f1 x.f2 x.f3 x.f4) false ∧ Ev (fun k => wire_Length.f k x.f0 x.f1 x.f2 x.f3 x.f4) 0 ∧ ∀ b : List Int, Ev (fun k => wire_Put.f k b x.f0 x.f1 x.f2 x.f3 x.f4) ([], 40)) := by
  rcases wt.told3 x hv with ⟨hr, h1, h2, h3⟩ | ⟨hr, h1, h2, h3⟩
  · have hL : Ev (fun k => (wire_Encode.f k x.f0 x.f1 x.f2 x.f3 x.f4).bind fun r => some (r.1.length : Int)) ((en x).length : Int) := Ev.bind (F := fun _ (r : List Int × Int) => some (r.1.length : Int)) h3 Ev.const
    refine Or.inl ⟨hr, h2, hL, fun b hb => ?_⟩
    have hl := wt.en_few x hv hr
    have hp := put_ev x hv (wt.okV_frm 8 x hr.1) b (by omega)
    refine Ev.bind (F := fun k ok => if ok = true then (slices_Clone_byte_byte.f b).bind fun b => (wire_put.f k b x.f0 x.f1 x.f2 x.f3 x.f4).bind fun r => some (r, 0) else some ([], 40)) h1 ?_
    refine Ev.congr (h := fun k => (wire_put.w k b x.f0 x.f1 x.f2 x.f3 x.f4).bind fun r => some (r, 0)) (Ev.bind (F := fun k r => some (r, 0)) hp Ev.const) (fun k => ?_)
    rw [if_pos rfl]
    unfold slices_Clone_byte_byte.f
    rw [if_pos (by omega)]
    rfl
  · have hL : Ev (fun k => (wire_Encode.f k x.f0 x.f1 x.f2 x.f3 x.f4).bind fun r => some (r.1.length : Int)) 0 := Ev.bind (F := fun _ (r : List Int × Int) => some (r.1.length : Int)) h3 Ev.const
    refine Or.inr ⟨hr, h2, hL, fun b => ?_⟩
    refine Ev.bind (F := fun k ok => if ok = true then (slices_Clone_byte_byte.f b).bind fun b => (wire_put.f k b x.f0 x.f1 x.f2 x.f3 x.f4).bind fun r => some (r, 0) else some ([], 40)) h1 ?_
    exact Ev.congr Ev.const (fun k => by rw [if_neg (by simp)])
/-- A right value behind some bytes and ahead of others is read. -/
theorem wt.tk_put (x : S25) (hv : Val x) (hr : wt.Rt x) (es ys zs : List Int) (h : es ++ (en x ++ ys) = zs) : wt.tk (wt.takeS zs (Pl.uintAt zs) (Pl.intAt zs) (es.length : Int)) = (x, (es.length : Int) + ((en x).length : Int), 0) := by
  have hq := wt.valS_back (bs := zs) 8 x hv hr.1 (es.length : Int) 2048 ys (Int.natCast_nonneg _) (by unfold wt.at_; rw [Int.toNat_natCast, ← h, List.drop_left']; rfl) (by have := hr.2; omega) (by omega)
  have hl : es.length ≤ zs.length := by rw [← h, List.length_append]; omega
  unfold wt.takeS
  rw [if_neg (by omega), hq]
  rfl
theorem wt.same_ok2 {x : S25} (hv : Val x) (hs : Siz x) : ∃ K, scruplelaw04_same.f K x.f0 x.f1 x.f2 x.f3 x.f4 x.f0 x.f1 x.f2 x.f3 x.f4 = some true := by
  obtain ⟨t, ⟨K1, h1⟩, _⟩ := few_ev x hv hs
  obtain ⟨b, ⟨K2, h2⟩, hb⟩ := alike_ev x hv hs x hv
  have hb1 : b = true := hb.2 rfl
  subst hb1
  refine ⟨max K1 K2, ?_⟩
  unfold scruplelaw04_same.f
  have e1 := h1 (max K1 K2) (Nat.le_max_left _ _)
  have e2 := h2 (max K1 K2) (Nat.le_max_right _ _)
  dsimp only at e1 e2
  rw [e1, Option.bind_some]
  cases t with
  | true => rw [if_pos rfl, e2]; rfl
  | false => rw [if_neg (by decide)]
end
end Go.Proofs.Ytnkbobblnhaclaa.X
/- Xxwrow0: walks by hand, for the claim. -/
namespace Go.Proofs.Ytnkbobblnhaclaa.X
open Go.RowKit Go.Proofs.YtnkbobblnhaclaaW.PrintWords Go.Proofs.YtnkbobblnhaclaaW.PrintLast Go.Proofs.YtnkbobblnhaclaaW.PrintMore Go.Proofs.YtnkbobblnhaclaaW
section
set_option maxHeartbeats 4000000
set_option maxRecDepth 100000
open Go.Proofs.Ytnkbobblnhaclaa
/-- Values as they stood in a world, in rows that are new since. -/
def wt.kv (w : World) : Kd S25 where
  sz := 5
  E := []
  K := fun _ x cs => k25.K w x cs
  M := fun _ _ _ x cs => k25.K w x cs
  K_len := fun h => k25.K_len h
  K_one := fun h => k25.K_one h
  K_below := fun _ h => h
  K_of_M := fun h => h
  M_mono := fun _ h => h
  M_bound := fun h => h
  M_move := fun _ h => h
  M_lower := fun _ h => h
/-- Values' bytes, one behind the other. -/
def wt.fl (ls : List S25) : List Int := (ls.map en).flatten
theorem wt.fl_snoc (ls : List S25) (x : S25) : wt.fl (ls ++ [x]) = wt.fl ls ++ en x := by unfold wt.fl; simp
theorem wt.fl_app (ls ms : List S25) : wt.fl (ls ++ ms) = wt.fl ls ++ wt.fl ms := by unfold wt.fl; simp
theorem wt.fl_cons (x : S25) (ls : List S25) : wt.fl (x :: ls) = en x ++ wt.fl ls := by unfold wt.fl; simp
/-- Right values, all of whose parts are small. -/
def wt.Gd (x : S25) : Prop := Val x ∧ Siz x ∧ wt.Rt x
theorem wt.fl_len : ∀ (ls : List S25), (∀ x ∈ ls, wt.Gd x) → (wt.fl ls).length ≤ 24576 * ls.length
  | [], _ => by simp [wt.fl]
  | x :: ls, h => by
    have h1 := wt.fl_len ls (fun y hy => h y (List.mem_cons_of_mem _ hy))
    have hx := h x List.mem_cons_self
    have h2 := wt.en_few x hx.1 hx.2.2
    rw [wt.fl_cons, List.length_append, List.length_cons]
    omega
theorem wt.fl_bytes : ∀ (ls : List S25), (∀ x ∈ ls, wt.Gd x) → Pl.Bytes (wt.fl ls)
  | [], _ => fun c hc => by cases hc
  | x :: ls, h => by
    have h1 := wt.fl_bytes ls (fun y hy => h y (List.mem_cons_of_mem _ hy))
    have hx := h x List.mem_cons_self
    have h2 := en_bytes x hx.1 (wt.okV_frm 8 x hx.2.2.1)
    rw [wt.fl_cons]
    exact fun c hc => (List.mem_append.1 hc).elim (h2 c) (h1 c)
theorem wt.take_succ (ls : List S25) (j : Nat) (hj : j < ls.length) : ls.take (j + 1) = ls.take j ++ [rd_T25 ls (j : Int)] := by
  have h := at_drop ls j hj
  have e : ls.take j ++ ls.drop j = ls := List.take_append_drop j ls
  have e2 : ls.take (j + 1) = (ls.take j ++ ls.drop j).take (j + 1) := by rw [e]
  have hl : (ls.take j).length = j := by rw [List.length_take]; omega
  rw [e2, h, List.take_append, hl, show j + 1 - j = 1 by omega, List.take_of_length_le (by omega)]
  rfl
/-- Value j of values one behind the other is read from its place. -/
theorem wt.tk_row (ls : List S25) (h : ∀ x ∈ ls, wt.Gd x) (j : Nat) (hj : j < ls.length) {bs : List Int} (hb : wt.fl ls = bs) :
    wt.tk (wt.takeS bs (Pl.uintAt bs) (Pl.intAt bs) ((wt.fl (ls.take j)).length : Int)) = (rd_T25 ls (j : Int), ((wt.fl (ls.take (j + 1))).length : Int), 0) ∧ (wt.fl (ls.take j)).length < (wt.fl (ls.take (j + 1))).length := by
  have hx := h _ (at_mem ls j hj)
  have hd := at_drop ls j hj
  have hs := wt.take_succ ls j hj
  generalize rd_T25 ls (j : Int) = x at hx hd hs
  have he : wt.fl (ls.take j) ++ (en x ++ wt.fl (ls.drop (j + 1))) = bs := by
    rw [← wt.fl_cons, ← hd, ← wt.fl_app, List.take_append_drop, hb]
  have hl : (wt.fl (ls.take (j + 1))).length = (wt.fl (ls.take j)).length + (en x).length := by rw [hs, wt.fl_snoc, List.length_append]
  refine ⟨?_, by have := en_pos x; omega⟩
  rw [wt.tk_put x hx.1 hx.2.2 _ _ bs he, hl, Int.natCast_add]
/-- Behind the last there is nothing to be read. -/
theorem wt.tk_end (bs : List Int) : wt.tk (wt.takeS bs (Pl.uintAt bs) (Pl.intAt bs) (bs.length : Int)) = (z25, (bs.length : Int), 41) := by
  unfold wt.takeS
  rw [if_neg (by omega)]
  unfold wt.valS
  rw [if_pos (Or.inl rfl)]
  rfl
end
end Go.Proofs.Ytnkbobblnhaclaa.X
/- Xxwcopied: walks by hand, for the claim. -/
namespace Go.Proofs.Ytnkbobblnhaclaa.X
open Go.RowKit Go.Proofs.YtnkbobblnhaclaaW.PrintWords Go.Proofs.YtnkbobblnhaclaaW.PrintLast Go.Proofs.YtnkbobblnhaclaaW.PrintMore Go.Proofs.YtnkbobblnhaclaaW
section
set_option maxHeartbeats 16000000
set_option maxRecDepth 100000
open Go.Proofs.Ytnkbobblnhaclaa
theorem wt.copied (k : Nat) (f0 f1 : Int) (f2 : ByteArray) (A3 : Option Addr) (c3 : Nat) (f3 : List S25) (A4 : Option Addr) (c4 : Nat) (f4 : List ByteArray) (t : Bool) (w : World) (hr3 : Kd.C k25 w A3 f3.length f3) (hc3 : f3.length ≤ c3) (hr4 : Kd.C Kd.string w A4 f4.length f4) (hc4 : f4.length ≤ c4) (hf : scruplelaw04_few.f k f0 f1 f2 f3 f4 = some t) (hd : t = true → scruplelaw04_deep.f k f0 f1 f2 f3 f4 = some (f0, f1, f2, f3, f4)) :
    Calls Try.prog 11 #[.agg #[.int .i64 f0, .int .i64 f1, .string f2, .slice A3 f3.length c3, .slice A4 f4.length c4]] w fun e w' => ∃ (A5 : Option Addr) (c5 : Nat) (A6 : Option Addr) (c6 : Nat), e = .returned (.agg #[.int .i64 f0, .int .i64 f1, .string f2, .slice A5 f3.length c5, .slice A6 f4.length c6]) ∧ Kd.C k25 w' A5 f3.length f3 ∧ f3.length ≤ c5 ∧ Kd.C Kd.string w' A6 f4.length f4 ∧ f4.length ≤ c6 ∧ Below w.heap.size w w' := by
  have hu25 := Try.underlying25
  have HR3 := Aside0.mk hr3
  have HC3 := Aside0.mk hc3
  have HR4 := Aside0.mk hr4
  have HC4 := Aside0.mk hc4
  have HF := Aside0.mk hf
  clear hr3 hc3 hr4 hc4 hf
  by_cases c : t = true
  · subst c
    have HD := Aside0.mk (hd rfl)
    clear hd
    go_enter Try.func11, Try.ntmps11
    go_wp2_with (first | ((with_reducible refine gate_dst (N := 1) rfl ?_); refine box_event ?hg (N := 1) ?hd (cs := #[.int .i64 f0, .int .i64 f1, .string f2, .slice A3 f3.length c3, .slice A4 f4.length c4]) (t := 25) ?hr ?_; (case hd => rfl); (case hg => rfl); (case hr => first | (go_simp; done) | (go_simp; rfl)); intro g1 hg w1 hbox hb1; have BX1 := Aside0.mk hbox; have HB1 := Aside0.mk hb1; have GE1 := Aside0.mk (show w.heap.size ≤ g1 from by omega); clear hb1 hbox hg) | ((with_reducible refine gate_dst (N := 2) rfl ?_); refine box_event ?hg (N := 2) ?hd (cs := #[.int .i64 0, .int .i64 0, .string (⟨#[]⟩ : ByteArray), .slice none 0 0, .slice none 0 0]) (t := 25) ?hr ?_; (case hd => rfl); (case hg => rfl); (case hr => first | (go_simp; done) | (go_simp; rfl)); intro g2 hg w2 hbox hb1; have BY2 := Aside0.mk hbox; have BX2 := Aside0.mk (blk_below BX1.out hb1); have HB2 := Aside0.mk (below_step HB1.out hb1); have GE2 := Aside0.mk (show w.heap.size ≤ g2 from by rw [hg]; exact HB1.out.size); have NE := Aside0.mk (show g1 ≠ g2 from by have := blk_lt BX1.out; omega); have GW := Aside0.mk (show g2 < w2.heap.size from blk_lt hbox); clear hb1 hbox hg; have o0 : w2.cell? ⟨g1, 0, none⟩ = some (.int .i64 f0) := (blk_cell BX2.out 0).trans rfl; have of0 := blk_frozen BX2.out 0; have o1 : w2.cell? ⟨g1, 1, none⟩ = some (.int .i64 f1) := (blk_cell BX2.out 1).trans rfl; have of1 := blk_frozen BX2.out 1; have o2 : w2.cell? ⟨g1, 2, none⟩ = some (.string f2) := (blk_cell BX2.out 2).trans rfl; have of2 := blk_frozen BX2.out 2; have o3 : w2.cell? ⟨g1, 3, none⟩ = some (.slice A3 f3.length c3) := (blk_cell BX2.out 3).trans rfl; have of3 := blk_frozen BX2.out 3; have o4 : w2.cell? ⟨g1, 4, none⟩ = some (.slice A4 f4.length c4) := (blk_cell BX2.out 4).trans rfl; have of4 := blk_frozen BX2.out 4) | (go_at_call 27; refine (scruplelaw04_few.calls k f0 f1 f2 A3 c3 f3 A4 c4 f4 true _ ?s1 HC3.out ?s2 HC4.out HF.out).mono ?_; (case s1 => exact Kd.C_below HR3.out HB2.out); (case s2 => exact Kd.C_below HR4.out HB2.out); rintro e w3 ⟨rfl, hb3⟩; have HB3 := Aside0.mk (below_step HB2.out hb3); have BX3 := Aside0.mk (blk_below BX2.out hb3); have BY3 := Aside0.mk (blk_below BY2.out hb3); clear hb3; have p0 : w3.cell? ⟨g1, 0, none⟩ = some (.int .i64 f0) := (blk_cell BX3.out 0).trans rfl; have pf0 := blk_frozen BX3.out 0; have p1 : w3.cell? ⟨g1, 1, none⟩ = some (.int .i64 f1) := (blk_cell BX3.out 1).trans rfl; have pf1 := blk_frozen BX3.out 1; have p2 : w3.cell? ⟨g1, 2, none⟩ = some (.string f2) := (blk_cell BX3.out 2).trans rfl; have pf2 := blk_frozen BX3.out 2; have p3 : w3.cell? ⟨g1, 3, none⟩ = some (.slice A3 f3.length c3) := (blk_cell BX3.out 3).trans rfl; have pf3 := blk_frozen BX3.out 3; have p4 : w3.cell? ⟨g1, 4, none⟩ = some (.slice A4 f4.length c4) := (blk_cell BX3.out 4).trans rfl; have pf4 := blk_frozen BX3.out 4; have q0 : w3.cell? ⟨g2, 0, none⟩ = some (.int .i64 0) := (blk_cell BY3.out 0).trans rfl; have qf0 := blk_frozen BY3.out 0; have q1 : w3.cell? ⟨g2, 1, none⟩ = some (.int .i64 0) := (blk_cell BY3.out 1).trans rfl; have qf1 := blk_frozen BY3.out 1; have q2 : w3.cell? ⟨g2, 2, none⟩ = some (.string (⟨#[]⟩ : ByteArray)) := (blk_cell BY3.out 2).trans rfl; have qf2 := blk_frozen BY3.out 2; have q3 : w3.cell? ⟨g2, 3, none⟩ = some (.slice none 0 0) := (blk_cell BY3.out 3).trans rfl; have qf3 := blk_frozen BY3.out 3; have q4 : w3.cell? ⟨g2, 4, none⟩ = some (.slice none 0 0) := (blk_cell BY3.out 4).trans rfl; have qf4 := blk_frozen BY3.out 4) | (go_at_call 28; refine (scruplelaw04_deep.calls k f0 f1 f2 A3 c3 f3 A4 c4 f4 f0 f1 f2 f3 f4 _ ?t1 HC3.out ?t2 HC4.out HD.out).mono ?_; (case t1 => exact Kd.C_below HR3.out HB3.out); (case t2 => exact Kd.C_below HR4.out HB3.out); rintro e w4 ⟨v3, v4, rfl, ho3, ho4, hb4⟩; obtain ⟨Ad, cd, ed⟩ := Kd.R_slice ho3; subst ed; obtain ⟨Ae, ce, ee⟩ := Kd.R_slice ho4; subst ee; have HB4 := Aside0.mk (below_step HB3.out hb4); have BY4 := Aside0.mk (blk_below BY3.out hb4); have HO3 := Aside0.mk (Kd.R_mono (Kd.R_bound ho3) (fun k_ hk => (show k_ ≠ g2 from fun e_ => by have := hk.2.1; have := blk_lt BY3.out; omega))); have HO4 := Aside0.mk (Kd.R_mono (Kd.R_bound ho4) (fun k_ hk => (show k_ ≠ g2 from fun e_ => by have := hk.2.1; have := blk_lt BY3.out; omega))); clear hb4 ho3 ho4; have r0 : w4.cell? ⟨g2, 0, none⟩ = some (.int .i64 0) := (blk_cell BY4.out 0).trans rfl; have rf0 := blk_frozen BY4.out 0; have r1 : w4.cell? ⟨g2, 1, none⟩ = some (.int .i64 0) := (blk_cell BY4.out 1).trans rfl; have rf1 := blk_frozen BY4.out 1; have r2 : w4.cell? ⟨g2, 2, none⟩ = some (.string (⟨#[]⟩ : ByteArray)) := (blk_cell BY4.out 2).trans rfl; have rf2 := blk_frozen BY4.out 2; have r3 : w4.cell? ⟨g2, 3, none⟩ = some (.slice none 0 0) := (blk_cell BY4.out 3).trans rfl; have rf3 := blk_frozen BY4.out 3; have r4 : w4.cell? ⟨g2, 4, none⟩ = some (.slice none 0 0) := (blk_cell BY4.out 4).trans rfl; have rf4 := blk_frozen BY4.out 4))
    refine bodyPost_ret (results_cell_row rfl _ _ g2 25 #[.int .i64 f0, .int .i64 f1, .string f2, .slice Ad f3.length cd, .slice Ae f4.length ce] (0, 0) _ rfl (by refine blk_put (cs := #[.int .i64 f0, .int .i64 f1, .string f2, .slice Ad f3.length cd, .slice none 0 0]) ?_ 4 _ rfl; refine blk_put (cs := #[.int .i64 f0, .int .i64 f1, .string f2, .slice none 0 0, .slice none 0 0]) ?_ 3 _ rfl; refine blk_put (cs := #[.int .i64 f0, .int .i64 f1, .string (⟨#[]⟩ : ByteArray), .slice none 0 0, .slice none 0 0]) ?_ 2 _ rfl; refine blk_put (cs := #[.int .i64 f0, .int .i64 0, .string (⟨#[]⟩ : ByteArray), .slice none 0 0, .slice none 0 0]) ?_ 1 _ rfl; refine blk_put (cs := #[.int .i64 0, .int .i64 0, .string (⟨#[]⟩ : ByteArray), .slice none 0 0, .slice none 0 0]) ?_ 0 _ rfl;  exact BY4.out) Try.underlying25 rfl (by kernel_rfl)) rfl ?_
    exact ⟨Ad, cd, Ae, ce, rfl, (Kd.R_reads' (Kd.R_far (p := ⟨g2, 4, none⟩) (Kd.R_far (p := ⟨g2, 3, none⟩) (Kd.R_far (p := ⟨g2, 2, none⟩) (Kd.R_far (p := ⟨g2, 1, none⟩) (Kd.R_far (p := ⟨g2, 0, none⟩) HO3.out (fun _ hk => hk) _) (fun _ hk => hk) _) (fun _ hk => hk) _) (fun _ hk => hk) _) (fun _ hk => hk) _)).2.2, (Kd.R_reads' HO3.out).2.1, (Kd.R_reads' (Kd.R_far (p := ⟨g2, 4, none⟩) (Kd.R_far (p := ⟨g2, 3, none⟩) (Kd.R_far (p := ⟨g2, 2, none⟩) (Kd.R_far (p := ⟨g2, 1, none⟩) (Kd.R_far (p := ⟨g2, 0, none⟩) HO4.out (fun _ hk => hk) _) (fun _ hk => hk) _) (fun _ hk => hk) _) (fun _ hk => hk) _) (fun _ hk => hk) _)).2.2, (Kd.R_reads' HO4.out).2.1, below_set (below_set (below_set (below_set (below_set HB4.out GE2.out) GE2.out) GE2.out) GE2.out) GE2.out⟩
  · obtain rfl : t = false := by simpa using c
    clear hd c
    go_enter Try.func11, Try.ntmps11
    go_wp2_with (first | ((with_reducible refine gate_dst (N := 1) rfl ?_); refine box_event ?hg (N := 1) ?hd (cs := #[.int .i64 f0, .int .i64 f1, .string f2, .slice A3 f3.length c3, .slice A4 f4.length c4]) (t := 25) ?hr ?_; (case hd => rfl); (case hg => rfl); (case hr => first | (go_simp; done) | (go_simp; rfl)); intro g1 hg w1 hbox hb1; have BX1 := Aside0.mk hbox; have HB1 := Aside0.mk hb1; have GE1 := Aside0.mk (show w.heap.size ≤ g1 from by omega); clear hb1 hbox hg) | ((with_reducible refine gate_dst (N := 2) rfl ?_); refine box_event ?hg (N := 2) ?hd (cs := #[.int .i64 0, .int .i64 0, .string (⟨#[]⟩ : ByteArray), .slice none 0 0, .slice none 0 0]) (t := 25) ?hr ?_; (case hd => rfl); (case hg => rfl); (case hr => first | (go_simp; done) | (go_simp; rfl)); intro g2 hg w2 hbox hb1; have BY2 := Aside0.mk hbox; have BX2 := Aside0.mk (blk_below BX1.out hb1); have HB2 := Aside0.mk (below_step HB1.out hb1); have GE2 := Aside0.mk (show w.heap.size ≤ g2 from by rw [hg]; exact HB1.out.size); have NE := Aside0.mk (show g1 ≠ g2 from by have := blk_lt BX1.out; omega); have GW := Aside0.mk (show g2 < w2.heap.size from blk_lt hbox); clear hb1 hbox hg; have o0 : w2.cell? ⟨g1, 0, none⟩ = some (.int .i64 f0) := (blk_cell BX2.out 0).trans rfl; have of0 := blk_frozen BX2.out 0; have o1 : w2.cell? ⟨g1, 1, none⟩ = some (.int .i64 f1) := (blk_cell BX2.out 1).trans rfl; have of1 := blk_frozen BX2.out 1; have o2 : w2.cell? ⟨g1, 2, none⟩ = some (.string f2) := (blk_cell BX2.out 2).trans rfl; have of2 := blk_frozen BX2.out 2; have o3 : w2.cell? ⟨g1, 3, none⟩ = some (.slice A3 f3.length c3) := (blk_cell BX2.out 3).trans rfl; have of3 := blk_frozen BX2.out 3; have o4 : w2.cell? ⟨g1, 4, none⟩ = some (.slice A4 f4.length c4) := (blk_cell BX2.out 4).trans rfl; have of4 := blk_frozen BX2.out 4) | (go_at_call 27; refine (scruplelaw04_few.calls k f0 f1 f2 A3 c3 f3 A4 c4 f4 false _ ?s1 HC3.out ?s2 HC4.out HF.out).mono ?_; (case s1 => exact Kd.C_below HR3.out HB2.out); (case s2 => exact Kd.C_below HR4.out HB2.out); rintro e w3 ⟨rfl, hb3⟩; have HB3 := Aside0.mk (below_step HB2.out hb3); have BX3 := Aside0.mk (blk_below BX2.out hb3); have BY3 := Aside0.mk (blk_below BY2.out hb3); clear hb3; have p0 : w3.cell? ⟨g1, 0, none⟩ = some (.int .i64 f0) := (blk_cell BX3.out 0).trans rfl; have pf0 := blk_frozen BX3.out 0; have p1 : w3.cell? ⟨g1, 1, none⟩ = some (.int .i64 f1) := (blk_cell BX3.out 1).trans rfl; have pf1 := blk_frozen BX3.out 1; have p2 : w3.cell? ⟨g1, 2, none⟩ = some (.string f2) := (blk_cell BX3.out 2).trans rfl; have pf2 := blk_frozen BX3.out 2; have p3 : w3.cell? ⟨g1, 3, none⟩ = some (.slice A3 f3.length c3) := (blk_cell BX3.out 3).trans rfl; have pf3 := blk_frozen BX3.out 3; have p4 : w3.cell? ⟨g1, 4, none⟩ = some (.slice A4 f4.length c4) := (blk_cell BX3.out 4).trans rfl; have pf4 := blk_frozen BX3.out 4; have q0 : w3.cell? ⟨g2, 0, none⟩ = some (.int .i64 0) := (blk_cell BY3.out 0).trans rfl; have qf0 := blk_frozen BY3.out 0; have q1 : w3.cell? ⟨g2, 1, none⟩ = some (.int .i64 0) := (blk_cell BY3.out 1).trans rfl; have qf1 := blk_frozen BY3.out 1; have q2 : w3.cell? ⟨g2, 2, none⟩ = some (.string (⟨#[]⟩ : ByteArray)) := (blk_cell BY3.out 2).trans rfl; have qf2 := blk_frozen BY3.out 2; have q3 : w3.cell? ⟨g2, 3, none⟩ = some (.slice none 0 0) := (blk_cell BY3.out 3).trans rfl; have qf3 := blk_frozen BY3.out 3; have q4 : w3.cell? ⟨g2, 4, none⟩ = some (.slice none 0 0) := (blk_cell BY3.out 4).trans rfl; have qf4 := blk_frozen BY3.out 4))
    refine bodyPost_ret (results_cell_row rfl _ _ g2 25 #[.int .i64 f0, .int .i64 f1, .string f2, .slice A3 f3.length c3, .slice A4 f4.length c4] (0, 0) _ rfl (by refine blk_put (cs := #[.int .i64 f0, .int .i64 f1, .string f2, .slice A3 f3.length c3, .slice none 0 0]) ?_ 4 _ rfl; refine blk_put (cs := #[.int .i64 f0, .int .i64 f1, .string f2, .slice none 0 0, .slice none 0 0]) ?_ 3 _ rfl; refine blk_put (cs := #[.int .i64 f0, .int .i64 f1, .string (⟨#[]⟩ : ByteArray), .slice none 0 0, .slice none 0 0]) ?_ 2 _ rfl; refine blk_put (cs := #[.int .i64 f0, .int .i64 0, .string (⟨#[]⟩ : ByteArray), .slice none 0 0, .slice none 0 0]) ?_ 1 _ rfl; refine blk_put (cs := #[.int .i64 0, .int .i64 0, .string (⟨#[]⟩ : ByteArray), .slice none 0 0, .slice none 0 0]) ?_ 0 _ rfl;  exact BY3.out) Try.underlying25 rfl (by kernel_rfl)) rfl ?_
    exact ⟨A3, c3, A4, c4, rfl, Kd.C_below HR3.out (below_set (below_set (below_set (below_set (below_set HB3.out GE2.out) GE2.out) GE2.out) GE2.out) GE2.out), HC3.out, Kd.C_below HR4.out (below_set (below_set (below_set (below_set (below_set HB3.out GE2.out) GE2.out) GE2.out) GE2.out) GE2.out), HC4.out, below_set (below_set (below_set (below_set (below_set HB3.out GE2.out) GE2.out) GE2.out) GE2.out) GE2.out⟩
/-- What copied hands on of any value. -/
theorem wt.copied11 {x : S25} (hv : Val x) (hs : Siz x) {W : World} {A3 : Option Addr} {c3 : Nat} {A4 : Option Addr} {c4 : Nat} (h3 : k25.C W A3 x.f3.length x.f3) (g3 : x.f3.length ≤ c3) (h4 : Kd.string.C W A4 x.f4.length x.f4) (g4 : x.f4.length ≤ c4) :
    Calls Try.prog 11 #[.agg #[.int .i64 x.f0, .int .i64 x.f1, .string x.f2, .slice A3 x.f3.length c3, .slice A4 x.f4.length c4]] W fun e w' => ∃ (A5 : Option Addr) (c5 : Nat) (A6 : Option Addr) (c6 : Nat), e = .returned (.agg #[.int .i64 x.f0, .int .i64 x.f1, .string x.f2, .slice A5 x.f3.length c5, .slice A6 x.f4.length c6]) ∧ k25.C w' A5 x.f3.length x.f3 ∧ x.f3.length ≤ c5 ∧ Kd.string.C w' A6 x.f4.length x.f4 ∧ x.f4.length ≤ c6 ∧ Below W.heap.size W w' := by
  obtain ⟨t, ⟨K1, q1⟩, _⟩ := few_ev x hv hs
  obtain ⟨K2, q2⟩ := deep_ev x hs
  exact wt.copied (max K1 K2) x.f0 x.f1 x.f2 A3 c3 x.f3 A4 c4 x.f4 t W h3 g3 h4 g4 (q1 _ (Nat.le_max_left _ _)) (fun _ => q2 _ (Nat.le_max_right _ _))
end
end Go.Proofs.Ytnkbobblnhaclaa.X
/- XRowLaw: walks by hand, for the claim. -/
namespace Go.Proofs.Ytnkbobblnhaclaa.X
open Go.RowKit Go.Proofs.YtnkbobblnhaclaaW.PrintWords Go.Proofs.YtnkbobblnhaclaaW.PrintLast Go.Proofs.YtnkbobblnhaclaaW.PrintMore Go.Proofs.YtnkbobblnhaclaaW
section
set_option maxHeartbeats 4000000
set_option maxRecDepth 100000
open Go.Proofs.Ytnkbobblnhaclaa
theorem wt.same13v {W : World} {x : S25} (hv : Val x) (hs : Siz x) {A3 : Option Addr} {c3 : Nat} {A4 : Option Addr} {c4 : Nat} {B3 : Option Addr} {d3 : Nat} {B4 : Option Addr} {d4 : Nat} (h3 : k25.C W A3 x.f3.length x.f3) (g3 : x.f3.length ≤ c3) (h4 : Kd.string.C W A4 x.f4.length x.f4) (g4 : x.f4.length ≤ c4) (j3 : k25.C W B3 x.f3.length x.f3) (i3 : x.f3.length ≤ d3) (j4 : Kd.string.C W B4 x.f4.length x.f4) (i4 : x.f4.length ≤ d4) :
    Calls Try.prog 13 #[wt.vl x A3 c3 A4 c4, wt.vl x B3 d3 B4 d4] W fun e w' => e = .returned (.bool true) ∧ Below W.heap.size W w' := by
  obtain ⟨K, hK⟩ := wt.same_ok2 hv hs
  exact scruplelaw04_same.calls K x.f0 x.f1 x.f2 A3 c3 x.f3 A4 c4 x.f4 x.f0 x.f1 x.f2 B3 d3 x.f3 B4 d4 x.f4 true W h3 g3 h4 g4 j3 i3 j4 i4 hK
/-- A value's box and its rows. -/
structure wt.Bx (W : World) (b lo : Nat) (x : S25) (A3 : Option Addr) (c3 : Nat) (A4 : Option Addr) (c4 : Nat) : Prop where
  t : wt.Tr W lo b x A3 c3 A4 c4
  x : W.heap[b]? = some (.cells #[.int .i64 x.f0, .int .i64 x.f1, .string x.f2, .slice A3 x.f3.length c3, .slice A4 x.f4.length c4] 25 (0, 0))
theorem wt.Bx.below {W W1 : World} {b lo : Nat} {x : S25} {A3 : Option Addr} {c3 : Nat} {A4 : Option Addr} {c4 : Nat} (h : wt.Bx W b lo x A3 c3 A4 c4) (hb : Below W.heap.size W W1) : wt.Bx W1 b lo x A3 c3 A4 c4 :=
  ⟨h.t.below hb (Nat.le_of_lt (blk_lt h.x)), blk_below h.x hb⟩
/-- An element of a row of values: its cells, its rows. -/
structure wt.Ce (W : World) (p : Addr) (x : S25) (A3 : Option Addr) (c3 : Nat) (A4 : Option Addr) (c4 : Nat) : Prop where
  d0 : W.cell? p = some (.int .i64 x.f0)
  d1 : W.cell? ⟨p.block, p.off + 1, none⟩ = some (.int .i64 x.f1)
  d2 : W.cell? ⟨p.block, p.off + 2, none⟩ = some (.string x.f2)
  d3 : W.cell? ⟨p.block, p.off + 3, none⟩ = some (.slice A3 x.f3.length c3)
  d4 : W.cell? ⟨p.block, p.off + 4, none⟩ = some (.slice A4 x.f4.length c4)
  l3 : x.f3.length ≤ c3
  g3 : k25.C W A3 x.f3.length x.f3
  l4 : x.f4.length ≤ c4
  g4 : Kd.string.C W A4 x.f4.length x.f4
theorem wt.Ce.below {W W1 : World} {p : Addr} {x : S25} {A3 : Option Addr} {c3 : Nat} {A4 : Option Addr} {c4 : Nat} (h : wt.Ce W p x A3 c3 A4 c4) (hb : Below W.heap.size W W1) : wt.Ce W1 p x A3 c3 A4 c4 :=
  ⟨(hb.cell (World.block_lt_of_cell? W _ h.d0)).trans h.d0, (hb.cell (World.block_lt_of_cell? W _ h.d1)).trans h.d1, (hb.cell (World.block_lt_of_cell? W _ h.d2)).trans h.d2, (hb.cell (World.block_lt_of_cell? W _ h.d3)).trans h.d3, (hb.cell (World.block_lt_of_cell? W _ h.d4)).trans h.d4, h.l3, Kd.C_below h.g3 hb, h.l4, Kd.C_below h.g4 hb⟩
theorem wt.Ce.of {W : World} {A : Option Addr} {xs : List S25} (h : k25.C W A xs.length xs) (j : Nat) (hj : j < xs.length) : ∃ ad A3 c3 A4 c4, A = some ad ∧ wt.Ce W (ad.add (j * 5)) (rd_T25 xs (j : Int)) A3 c3 A4 c4 := by
  obtain ⟨ad, A3, c3, A4, c4, e, h0, h1, h2, h3, h4, l3, g3, l4, g4⟩ := at_T25 h (j : Int) (by omega) (by omega)
  rw [Int.toNat_natCast] at h0 h1 h2 h3 h4
  exact ⟨ad, A3, c3, A4, c4, e, ⟨h0, h1, h2, h3, h4, l3, g3, l4, g4⟩⟩
theorem wt.Ce.kv {w W : World} {A : Option Addr} {xs : List S25} (h : (wt.kv w).C W A xs.length xs) (hb : Below w.heap.size w W) (j : Nat) (hj : j < xs.length) : ∃ ad A3 c3 A4 c4, A = some ad ∧ wt.Ce W (ad.add (j * 5)) (rd_T25 xs (j : Int)) A3 c3 A4 c4 := by
  obtain ⟨ad, c, e, _, hK, hc0⟩ := Kd.C_get h z25 (j : Int) (by omega) (by omega)
  have hc : ∀ i u, c[i]? = some u → W.cell? (ad.add (((j : Nat) : Int).toNat * 5 + i)) = some u := hc0
  rw [Int.toNat_natCast] at hc
  have hK2 : k25.K w (rd_T25 xs (j : Int)) c := hK
  obtain ⟨A3, c3, A4, c4, rfl, l3, g3, l4, g4⟩ := k25_open hK2
  exact ⟨ad, A3, c3, A4, c4, e, ⟨hc 0 _ rfl, by rw [← add_field _ _ 1 (by omega)]; exact hc 1 _ rfl, by rw [← add_field _ _ 2 (by omega)]; exact hc 2 _ rfl, by rw [← add_field _ _ 3 (by omega)]; exact hc 3 _ rfl, by rw [← add_field _ _ 4 (by omega)]; exact hc 4 _ rfl, l3, Kd.C_below g3 hb, l4, Kd.C_below g4 hb⟩⟩
/-- What stands between the rounds: the bytes so far, the values that they are of. -/
structure wt.RW (w W : World) (A : Option Addr) (bs : List Int) (v4 : Value) (ls : List S25) : Prop where
  b : (Kd.int .u8).C W A bs.length bs
  e : wt.fl ls = bs
  l : (wt.kv w).R 25 W w.heap.size (fun _ => True) v4 ls
  g : ∀ x ∈ ls, wt.Gd x
  bel : Below w.heap.size w W
theorem wt.RW.below {w W W1 : World} {A : Option Addr} {bs : List Int} {v4 : Value} {ls : List S25} (h : wt.RW w W A bs v4 ls) (hb : Below W.heap.size W W1) : wt.RW w W1 A bs v4 ls :=
  ⟨Kd.C_below h.b hb, h.e, Kd.R_below h.l hb, h.g, below_then h.bel h.bel.size hb⟩
theorem wt.RW.len {w W : World} {A : Option Addr} {bs : List Int} {v4 : Value} {ls : List S25} (h : wt.RW w W A bs v4 ls) (hl : ls.length ≤ 1048576) : bs.length ≤ 25769803776 := by
  have := wt.fl_len ls h.g
  rw [h.e] at this
  omega
theorem wt.C_own {W W1 : World} {A : Option Addr} {bs : List Int} {v : Value} (h : (Kd.int .u8).C W A bs.length bs) (hg : W.grownBy W1 v.ownBlock) (hf : ∀ ad, A = some ad → ∀ g, v.ownBlock = some g → ad.block ≠ g) : (Kd.int .u8).C W1 A bs.length bs := by
  cases hv : v.ownBlock with
  | none =>
    rw [hv] at hg
    exact Kd.C_below h (Below.grown (Below.refl _ _) hg (Nat.le_refl _) (fun k hk => by cases hk))
  | some g =>
    rw [hv] at hg
    exact Kd.C_keep (enc := Value.int .u8) (h1 := fun _ => rfl) (0 : Int) h ⟨hg.size, fun i hi hne _ => hg.block i hi (fun e => hne (Option.some.inj e))⟩ (fun ad hA _ => hf ad hA g hv)
theorem wt.row_wr {k n : Nat} (h : k < n) (hn : n ≤ 1048576) : wrap64 ((k : Int) + 1) = (k : Int) + 1 := X.w64 _ (by omega) (by omega)
theorem wt.mem_rd (xs : List S25) (j : Nat) (hj : j < xs.length) : rd_T25 xs (j : Int) ∈ xs := at_mem xs j hj
theorem wt.row1 {xs : List S25} {A : Option Addr} {c : Nat} (w : World) (hA : k25.C w A xs.length xs) (hc : xs.length ≤ c) (hx : ∀ x ∈ xs, Val x ∧ Siz x) (hn : xs.length ≤ 1048576) :
    Calls Try.prog 6 #[.slice A xs.length c] w fun e w' => e = .returned (.bool true) ∧ Below w.heap.size w w' := by
  have hu25 := Try.underlying25
  have info25 : (Try.prog.info? 25).map (fun i => (i.zero, i.size, i.bytes)) = some (some (.agg #[.int .i64 0, .int .i64 0, .string ⟨#[]⟩, .slice none 0 0, .slice none 0 0]), 5, 80) := by kernel_rfl
  have HA := Aside0.mk hA; have HCA := Aside0.mk hc; have HX := Aside0.mk hx; have HN := Aside0.mk hn
  clear hA hc hx hn
  go_enter Try.func6, Try.ntmps6
  go_wp2
  go_loopw [5, 3, 4] (fun v5 v3 v4 wr => ∃ (k : Nat) (ls : List S25) (B : Option Addr) (bs : List Int) (v : Value), v5 = .int .i64 (k : Int) ∧ v3 = .slice B bs.length bs.length ∧ v = v4 ∧ Aside0 (k ≤ xs.length ∧ ls.length ≤ k) ∧ Aside0 (wt.RW w wr B bs v4 ls)) (fun v5 v3 v4 _ => xs.length - (intOf v5).toNat)
  case atStart => exact ⟨0, [], none, [], _, rfl, rfl, rfl, ⟨Nat.zero_le _, Nat.le_refl _⟩, ⟨⟨Kd.C_nil (Kd.int .u8) w, rfl, Kd.R_nil _ _ _ _ _, fun x hx => (by cases hx), Below.refl _ _⟩⟩⟩
  case round =>
    obtain ⟨k, ls, B, bs, v4, rfl, rfl, rfl, HK, HR⟩ := hrel
    by_cases hlt : k < xs.length
    · have i1 : decide ((k : Int) < (xs.length : Int)) = true := decide_eq_true (by omega)
      have i2 : decide (k < xs.length) = true := decide_eq_true hlt
      have i3 : (k < xs.length) = True := eq_true hlt
      have i4 : (k : Int) < (xs.length : Int) := by omega
      have HWR := Aside0.mk (wt.row_wr hlt HN.out)
      have HM := Aside0.mk (wt.meas k xs.length hlt HWR.out)
      have HK1 := Aside0.mk (show k + 1 ≤ xs.length from hlt)
      obtain ⟨hv, hs⟩ := HX.out _ (wt.mem_rd xs k hlt)
      obtain ⟨ad, A3, c3, A4, c4, ea, hce0⟩ := wt.Ce.of HA.out k hlt
      subst ea
      have HKE := Aside0.mk (k25_mk w _ hce0.l3 hce0.g3 hce0.l4 hce0.g4)
      have hce := hce0.below HR.out.bel
      clear hce0
      generalize rd_T25 xs (k : Int) = x at hv hs hce HKE
      have CE := Aside0.mk hce
      have CPY := Aside0.mk (fun (W : World) (B3 : Option Addr) (d3 : Nat) (B4 : Option Addr) (d4 : Nat) p1 p2 p3 p4 => wt.copied11 hv hs (W := W) (A3 := B3) (c3 := d3) (A4 := B4) (c4 := d4) p1 p2 p3 p4)
      have HGD := Aside0.mk (fun hr => show wt.Gd x from ⟨hv, hs, hr⟩)
      have hbl := HR.out.len (Nat.le_trans HK.out.2 (Nat.le_trans HK.out.1 HN.out))
      have z0 := hce.d0; have z1 := hce.d1; have z2 := hce.d2; have z3 := hce.d3; have z4 := hce.d4
      rcases wt.put_told x hv with ⟨hr, ⟨K1, q1⟩, _, q3⟩ | ⟨_, ⟨K1, q1⟩, _, q3⟩
      · obtain ⟨K3, q3⟩ := q3 bs (by omega)
        have PUT := Aside0.mk (fun (W : World) (B3 : Option Addr) (d3 : Nat) (B4 : Option Addr) (d4 : Nat) p0 p1 p2 p3 p4 => wire_Put.tight K3 B bs.length bs x.f0 x.f1 x.f2 B3 d3 x.f3 B4 d4 x.f4 (bs ++ en x) 0 W p0 (Nat.le_refl _) p1 p2 p3 p4 (q3 K3 (Nat.le_refl _)))
        have RGT := Aside0.mk (fun (W : World) A3 c3 A4 c4 p1 p2 p3 p4 => scrupleref03_Right.calls K1 x.f0 x.f1 x.f2 A3 c3 x.f3 A4 c4 x.f4 true W p1 p2 p3 p4 (q1 K1 (Nat.le_refl _)))
        obtain ⟨bs2, hb2⟩ : ∃ b2, bs ++ en x = b2 := ⟨_, rfl⟩
        rw [hb2] at PUT
        have HFL := Aside0.mk (show wt.fl (ls ++ [x]) = bs2 by rw [wt.fl_snoc, HR.out.e, hb2])
        have HGG := Aside0.mk (show ∀ y ∈ ls ++ [x], wt.Gd y from fun y hy => (List.mem_append.1 hy).elim (HR.out.g y) (fun h => by rw [List.mem_singleton.1 h]; exact HGD.out hr))
        have HLN := Aside0.mk (show (ls ++ [x]).length ≤ k + 1 by rw [List.length_append, List.length_singleton]; have := HK.out.2; omega)
        have HLL := Aside0.mk (show (ls.length + 1) * 80 ≤ 140737488355328 by have := HK.out; have := HN.out; omega)
        clear hb2 q1 q3 hr hv hs hce hbl hlt HGD
        go_wp2_with (first | (go_at_call 11; refine (CPY.out _ A3 c3 A4 c4 CE.out.g3 CE.out.l3 CE.out.g4 CE.out.l4).mono ?_; rintro e_ w2 ⟨B3, d3, B4, d4, rfl, p1, p2, p3, p4, hb⟩; have P1 := Aside0.mk p1; have P2 := Aside0.mk p2; have P3 := Aside0.mk p3; have P4 := Aside0.mk p4; have R2 := Aside0.mk (HR.out.below hb); have CE2 := Aside0.mk (CE.out.below hb); clear p1 p2 p3 p4 hb HR CE z0 z1 z2 z3 z4) | (go_at_call 15; refine (PUT.out _ B3 d3 B4 d4 R2.out.b P1.out P2.out P3.out P4.out).mono ?_; rintro e_ w3 ⟨Ap, cp, rfl, p1, rfl, hb, hfr⟩; have HFR := Aside0.mk hfr; have HW2 := Aside0.mk (Kd.R_lt R2.out.l); clear hfr; have R3 := Aside0.mk (R2.out.below hb); have CE3 := Aside0.mk (CE2.out.below hb); have CP3 := Aside0.mk p1; clear p1 hb R2 CE2; have z0 := CE3.out.d0; have z1 := CE3.out.d1; have z2 := CE3.out.d2; have z3 := CE3.out.d3; have z4 := CE3.out.d4) | (go_at_call 12; refine (RGT.out _ A3 c3 A4 c4 CE3.out.g3 CE3.out.l3 CE3.out.g4 CE3.out.l4).mono ?_; rintro e_ w4 ⟨rfl, hb⟩; have R4 := Aside0.mk (R3.out.below hb); have CE4 := Aside0.mk (CE3.out.below hb); have CP4 := Aside0.mk (Kd.C_below CP3.out hb); clear hb R3 CE3 CP3 z0 z1 z2 z3 z4; have z0 := CE4.out.d0; have z1 := CE4.out.d1; have z2 := CE4.out.d2; have z3 := CE4.out.d3; have z4 := CE4.out.d4) | ((with_reducible refine gate_builtin (b := .append) (xs := #[.tmp 43, .tmp 48]) rfl ?_); refine Kd.R_append (wt.kv w) (w0 := w) w.heap.size rfl (.tmp 43) (.tmp 48) 22 25 (.agg #[.int .i64 0, .int .i64 0, .string ⟨#[]⟩, .slice none 0 0, .slice none 0 0]) 80 rfl Try.underlying22 info25 rfl (show (0 : Nat) < 5 by decide) (show (0 : Nat) < 80 by decide) v4 ls x [.int .i64 x.f0, .int .i64 x.f1, .string x.f2, .slice A3 x.f3.length c3, .slice A4 x.f4.length c4] (fun _ => True) (fun _ => False) rfl rfl ?aP (fun _ h => h.elim) (fun _ _ => trivial) R4.out.l R4.out.bel R4.out.bel.size ?aL ?_; (case aP => exact HKE.out); (case aL => exact HLL.out); intro v5 w5 ho hb hg hat; have R5 := Aside0.mk (wt.RW.mk (wt.C_own CP4.out hg (fun ad hA g hg2 => by have := HFR.out ad hA; have := HW2.out g hg2; omega)) HFL.out ho HGG.out hb); clear ho hb hg hat))
        go_roundw
        case rel => exact ⟨k + 1, ls ++ [x], _, bs2, _, by rw [HWR.out]; rfl, rfl, rfl, ⟨HK1.out, HLN.out⟩, R5⟩
        case measure => exact HM.out
      · obtain ⟨K3, q3⟩ := q3 bs
        have PUT := Aside0.mk (fun (W : World) (B3 : Option Addr) (d3 : Nat) (B4 : Option Addr) (d4 : Nat) p0 p1 p2 p3 p4 => wire_Put.tight K3 B bs.length bs x.f0 x.f1 x.f2 B3 d3 x.f3 B4 d4 x.f4 [] 40 W p0 (Nat.le_refl _) p1 p2 p3 p4 (q3 K3 (Nat.le_refl _)))
        have RGT := Aside0.mk (fun (W : World) A3 c3 A4 c4 p1 p2 p3 p4 => scrupleref03_Right.calls K1 x.f0 x.f1 x.f2 A3 c3 x.f3 A4 c4 x.f4 false W p1 p2 p3 p4 (q1 K1 (Nat.le_refl _)))
        have HLN := Aside0.mk (show ls.length ≤ k + 1 from Nat.le_succ_of_le HK.out.2)
        clear q1 q3 hv hs hce hbl hlt HGD
        go_wp2_with (first | (go_at_call 11; refine (CPY.out _ A3 c3 A4 c4 CE.out.g3 CE.out.l3 CE.out.g4 CE.out.l4).mono ?_; rintro e_ w2 ⟨B3, d3, B4, d4, rfl, p1, p2, p3, p4, hb⟩; have P1 := Aside0.mk p1; have P2 := Aside0.mk p2; have P3 := Aside0.mk p3; have P4 := Aside0.mk p4; have R2 := Aside0.mk (HR.out.below hb); have CE2 := Aside0.mk (CE.out.below hb); clear p1 p2 p3 p4 hb HR CE z0 z1 z2 z3 z4) | (go_at_call 15; refine (PUT.out _ B3 d3 B4 d4 R2.out.b P1.out P2.out P3.out P4.out).mono ?_; rintro e_ w3 ⟨Ap, cp, rfl, p1, rfl, hb, hfr⟩; have HFR := Aside0.mk hfr; have HW2 := Aside0.mk (Kd.R_lt R2.out.l); clear hfr; have R3 := Aside0.mk (R2.out.below hb); have CE3 := Aside0.mk (CE2.out.below hb); have CP3 := Aside0.mk p1; clear p1 hb R2 CE2; have z0 := CE3.out.d0; have z1 := CE3.out.d1; have z2 := CE3.out.d2; have z3 := CE3.out.d3; have z4 := CE3.out.d4) | (go_at_call 12; refine (RGT.out _ A3 c3 A4 c4 CE3.out.g3 CE3.out.l3 CE3.out.g4 CE3.out.l4).mono ?_; rintro e_ w4 ⟨rfl, hb⟩; have R4 := Aside0.mk (R3.out.below hb); have CE4 := Aside0.mk (CE3.out.below hb); have CP4 := Aside0.mk (Kd.C_below CP3.out hb); clear hb R3 CE3 CP3 z0 z1 z2 z3 z4))
        go_roundw
        case rel => exact ⟨k + 1, ls, B, bs, _, by rw [HWR.out]; rfl, rfl, rfl, ⟨HK1.out, HLN.out⟩, R4⟩
        case measure => exact HM.out
    · have i1 : decide ((k : Int) < (xs.length : Int)) = false := decide_eq_false (by omega)
      have i2 : decide (k < xs.length) = false := decide_eq_false hlt
      have i3 : (k < xs.length) = False := eq_false hlt
      have HLS := Aside0.mk (show ls.length ≤ 1048576 from Nat.le_trans HK.out.2 (Nat.le_trans HK.out.1 HN.out))
      have HBL := Aside0.mk (HR.out.len HLS.out)
      have HUB := Aside0.mk (wt.uin_of (show Pl.Bytes bs from HR.out.e ▸ wt.fl_bytes ls HR.out.g) (Nat.le_trans HBL.out (by decide)))
      obtain ⟨Al, cl, e4⟩ := Kd.R_slice HR.out.l
      subst e4
      have hre := HR.out.e
      have HE := Aside0.mk hre
      have HG := Aside0.mk HR.out.g
      clear hlt hre
      go_wp2
      go_loopw [9, 8] (fun v9 v8 wr2 => ∃ j : Nat, v9 = .int .i64 (j : Int) ∧ v8 = .int .i64 ((wt.fl (ls.take j)).length : Int) ∧ Aside0 (j ≤ ls.length) ∧ Aside0 (wt.RW w wr2 B bs (.slice Al ls.length cl) ls)) (fun v9 v8 _ => ls.length - (intOf v9).toNat)
      case atStart => exact ⟨0, rfl, by simp [wt.fl], ⟨Nat.zero_le _⟩, HR⟩
      case round =>
        clear HR
        obtain ⟨j, rfl, rfl, HJ, HR⟩ := hrel
        by_cases hjl : j < ls.length
        · have k1 : decide ((j : Int) < (ls.length : Int)) = true := decide_eq_true (by omega)
          have k2 : decide (j < ls.length) = true := decide_eq_true hjl
          have k3 : (j < ls.length) = True := eq_true hjl
          have k4 : (j : Int) < (ls.length : Int) := by omega
          have HWR := Aside0.mk (wt.row_wr hjl HLS.out)
          have HM := Aside0.mk (wt.meas j ls.length hjl HWR.out)
          have HJ1 := Aside0.mk (show j + 1 ≤ ls.length from hjl)
          obtain ⟨htk, hlt2⟩ := wt.tk_row ls HG.out j hjl HE.out
          obtain ⟨hv, hs, _⟩ := HG.out _ (wt.mem_rd ls j hjl)
          have hlr := (Kd.R_reads' HR.out.l)
          obtain ⟨ad, A3, c3, A4, c4, ea, hce⟩ := wt.Ce.kv hlr.2.2 HR.out.bel j hjl
          subst ea
          generalize rd_T25 ls (j : Int) = x at hv hs hce htk
          generalize hn0 : (wt.fl (ls.take j)).length = n0 at htk hlt2 ⊢
          generalize hn1 : (wt.fl (ls.take (j + 1))).length = n1 at htk hlt2
          have HN1 := Aside0.mk hn1
          have HTK := Aside0.mk htk
          have HV := Aside0.mk hv
          have HS := Aside0.mk hs
          have CE := Aside0.mk hce
          have l1 : decide ((n1 : Int) ≤ (n0 : Int)) = false := decide_eq_false (by omega)
          have l2 : decide (n1 ≤ n0) = false := decide_eq_false (by omega)
          have l3 : (n1 ≤ n0) = False := eq_false (by omega)
          clear hjl htk hlt2 hv hs hlr hce hn0 hn1
          go_wp2_with (first | (go_at_call 22; refine (wt.take22 HUB.out (n0 : Int) HTK.out HR.out.b (Nat.le_refl _)).mono ?_; rintro e_ w2 ⟨Y3, e3, Y4, e4, rfl, ht, hb⟩; unfold wt.vl; have T2 := Aside0.mk ht; have R2 := Aside0.mk (HR.out.below hb); have CE2 := Aside0.mk (CE.out.below hb); clear ht hb HR CE) | ((with_reducible refine gate_store (p := 10) rfl ?_); refine wt.store_res rfl rfl 10 _ rfl w2.heap.size rfl (.int .i64 x.f0) (.int .i64 x.f1) (.string x.f2) (.slice Y3 x.f3.length e3) (.slice Y4 x.f4.length e4) rfl (fun q hq => by simp at hq; rcases hq with rfl | rfl | rfl | rfl | rfl <;> rfl) _ rfl (by simpa using heap_alloc_new w2 _) ?_; intro w3 hres hgr; have hb := wt.own_res hgr; have R3 := Aside0.mk (R2.out.below hb); have CE3 := Aside0.mk (CE2.out.below hb); have Y3_ := Aside0.mk (wt.Bx.mk (T2.out.below hb (Nat.le_refl _)) hres); clear hb R2 CE2 T2; clear hres hgr))
          refine start_ (n := 16) (S := fun w' => w'.cell? ⟨w2.heap.size, 0, none⟩ = some (.int .i64 x.f0) ∧ w'.cell? ⟨w2.heap.size, 1, none⟩ = some (.int .i64 x.f1) ∧ w'.cell? ⟨w2.heap.size, 2, none⟩ = some (.string x.f2) ∧ w'.cell? ⟨w2.heap.size, 3, none⟩ = some (.slice Y3 x.f3.length e3) ∧ w'.cell? ⟨w2.heap.size, 4, none⟩ = some (.slice Y4 x.f4.length e4) ∧ w'.cell? (ad.add (j * 5)) = some (.int .i64 x.f0) ∧ w'.cell? ⟨(ad.add (j * 5)).block, (ad.add (j * 5)).off + 1, none⟩ = some (.int .i64 x.f1) ∧ w'.cell? ⟨(ad.add (j * 5)).block, (ad.add (j * 5)).off + 2, none⟩ = some (.string x.f2) ∧ w'.cell? ⟨(ad.add (j * 5)).block, (ad.add (j * 5)).off + 3, none⟩ = some (.slice A3 x.f3.length c3) ∧ w'.cell? ⟨(ad.add (j * 5)).block, (ad.add (j * 5)).off + 4, none⟩ = some (.slice A4 x.f4.length c4)) (ds := []) #[false, false, false, false, false, false, false, false, false, false, false, false, false, false, false, false] (by kernel_rfl) rfl rfl ⟨(blk_cell (blk_drew Y3_.out.x) 0).trans rfl, (blk_cell (blk_drew Y3_.out.x) 1).trans rfl, (blk_cell (blk_drew Y3_.out.x) 2).trans rfl, (blk_cell (blk_drew Y3_.out.x) 3).trans rfl, (blk_cell (blk_drew Y3_.out.x) 4).trans rfl, (CE3.out.below (below_drew (Below.refl _ _))).d0, (CE3.out.below (below_drew (Below.refl _ _))).d1, (CE3.out.below (below_drew (Below.refl _ _))).d2, (CE3.out.below (below_drew (Below.refl _ _))).d3, (CE3.out.below (below_drew (Below.refl _ _))).d4⟩ (fun hHeld => ?_)
          generalize hwd : w3.drew = wd at hHeld ⊢
          have Yd := Aside0.mk (hwd ▸ Y3_.out.below (below_drew (Below.refl _ _)))
          have Cd := Aside0.mk (hwd ▸ CE3.out.below (below_drew (Below.refl _ _)))
          have Rd := Aside0.mk (hwd ▸ R3.out.below (below_drew (Below.refl _ _)))
          clear hwd
          refine pure_ (i := 0) (N := some 63) (v := ?_) (a' := ?_) #[true, false, false, false, false, false, false, false, false, false, false, false, false, false, false, false] rfl rfl (by kernel_rfl) (fun _ _ _ h => h) (Or.inl ⟨by rfl, ?_⟩) ?_ ?_
          rotate_left
          · intro w'
            go_simp
            with_reducible rfl
          rotate_left
          · simp only [Act.put, List.setIfInBounds_toArray, List.set_cons_zero, List.set_cons_succ, i64_w, i32_w]
            rfl
          refine pure_ (i := 1) (N := some 64) (v := ?_) (a' := ?_) #[true, true, false, false, false, false, false, false, false, false, false, false, false, false, false, false] rfl rfl (by kernel_rfl) (fun _ _ _ h => h) (Or.inl ⟨by rfl, ?_⟩) ?_ ?_
          rotate_left
          · intro w'
            go_simp
            with_reducible rfl
          rotate_left
          · simp only [Act.put, List.setIfInBounds_toArray, List.set_cons_zero, List.set_cons_succ, i64_w, i32_w]
            rfl
          refine pure_ (i := 2) (N := some 65) (v := ?_) (a' := ?_) #[true, true, true, false, false, false, false, false, false, false, false, false, false, false, false, false] rfl rfl (by kernel_rfl) (fun _ _ _ h => h) (Or.inl ⟨by rfl, ?_⟩) ?_ ?_
          rotate_left
          · intro w'
            go_simp
            with_reducible rfl
          rotate_left
          · simp only [Act.put, List.setIfInBounds_toArray, List.set_cons_zero, List.set_cons_succ, i64_w, i32_w]
            rfl
          refine pure_ (i := 4) (N := some 67) (v := ?_) (a' := ?_) #[true, true, true, false, true, false, false, false, false, false, false, false, false, false, false, false] rfl rfl (by kernel_rfl) (fun _ _ _ h => h) (Or.inl ⟨by rfl, ?_⟩) ?_ ?_
          rotate_left
          · intro w'
            go_simp
            with_reducible rfl
          rotate_left
          · simp only [Act.put, List.setIfInBounds_toArray, List.set_cons_zero, List.set_cons_succ, i64_w, i32_w]
            rfl
          refine pure_ (i := 5) (N := some 68) (v := ?_) (a' := ?_) #[true, true, true, false, true, true, false, false, false, false, false, false, false, false, false, false] rfl rfl (by kernel_rfl) (fun _ _ _ h => h) (Or.inl ⟨by rfl, ?_⟩) ?_ ?_
          rotate_left
          · intro w'
            go_simp
            with_reducible rfl
          rotate_left
          · simp only [Act.put, List.setIfInBounds_toArray, List.set_cons_zero, List.set_cons_succ, i64_w, i32_w]
            rfl
          refine pure_ (i := 6) (N := some 69) (v := ?_) (a' := ?_) #[true, true, true, false, true, true, true, false, false, false, false, false, false, false, false, false] rfl rfl (by kernel_rfl) (fun _ _ _ h => h) (Or.inl ⟨by rfl, ?_⟩) ?_ ?_
          rotate_left
          · intro w'
            go_simp
            with_reducible rfl
          rotate_left
          · simp only [Act.put, List.setIfInBounds_toArray, List.set_cons_zero, List.set_cons_succ, i64_w, i32_w]
            rfl
          refine take_ (i := 3) (N := some 66) (v := ?_) (a' := ?_) #[true, true, true, true, true, true, true, false, false, false, false, false, false, false, false, false] rfl rfl (by kernel_rfl) (fun _ _ _ h => h) (Or.inl ⟨by rfl, ?_⟩) hHeld ?_ ?_
          rotate_left
          · rintro w' ⟨s0, s1, s2, s3, s4, s5, s6, s7, s8, s9⟩
            go_simp
            with_reducible rfl
          rotate_left
          · simp only [Act.put, List.setIfInBounds_toArray, List.set_cons_zero, List.set_cons_succ, i64_w, i32_w]
            rfl
          refine take_ (i := 7) (N := some 70) (v := ?_) (a' := ?_) #[true, true, true, true, true, true, true, true, false, false, false, false, false, false, false, false] rfl rfl (by kernel_rfl) (fun _ _ _ h => h) (Or.inl ⟨by rfl, ?_⟩) hHeld ?_ ?_
          rotate_left
          · rintro w' ⟨s0, s1, s2, s3, s4, s5, s6, s7, s8, s9⟩
            go_simp
            with_reducible rfl
          rotate_left
          · simp only [Act.put, List.setIfInBounds_toArray, List.set_cons_zero, List.set_cons_succ, i64_w, i32_w]
            rfl
          refine one_ (i := 8) (N := some 71) #[true, true, true, true, true, true, true, true, true, false, false, false, false, false, false, false] rfl rfl (by kernel_rfl) (by decide) (fun K hK => ?_)
          refine goes_ Try.func13 (by kernel_rfl) rfl #[.agg #[.int .i64 x.f0, .int .i64 x.f1, .string x.f2, .slice Y3 x.f3.length e3, .slice Y4 x.f4.length e4], .agg #[.int .i64 x.f0, .int .i64 x.f1, .string x.f2, .slice A3 x.f3.length c3, .slice A4 x.f4.length c4]] (by rfl) rfl rfl (by (try simp only [List.map_toArray, List.map_cons, List.map_nil]); first | done | rfl) ?_
          refine (wt.same13v HV.out HS.out Yd.out.t.v.CC.2.2 Yd.out.t.v.CC.2.1 Yd.out.t.k.CC.2.2 Yd.out.t.k.CC.2.1 Cd.out.g3 Cd.out.l3 Cd.out.g4 Cd.out.l4).mono ?_
          rintro e w4 ⟨rfl, hb⟩
          refine ⟨_, rfl, ?_⟩
          have Y4_ := Aside0.mk (Yd.out.below hb)
          have C4 := Aside0.mk (Cd.out.below hb)
          have R4 := Aside0.mk (Rd.out.below hb)
          clear hb
          refine hK.out _ _ ⟨(blk_cell Y4_.out.x 0).trans rfl, (blk_cell Y4_.out.x 1).trans rfl, (blk_cell Y4_.out.x 2).trans rfl, (blk_cell Y4_.out.x 3).trans rfl, (blk_cell Y4_.out.x 4).trans rfl, C4.out.d0, C4.out.d1, C4.out.d2, C4.out.d3, C4.out.d4⟩ (fun hHeld => ?_)
          clear hK K
          refine norm_ (a' := ?_) ?_ ?_
          rotate_left
          · show Act.put _ (some 71) _ = _
            simp only [Act.put, List.setIfInBounds_toArray, List.set_cons_zero, List.set_cons_succ, i64_w, i32_w]
            rfl
          refine pure_ (i := 9) (N := some 72) (v := ?_) (a' := ?_) #[true, true, true, true, true, true, true, true, true, true, false, false, false, false, false, false] rfl rfl (by kernel_rfl) (fun _ _ _ h => h) (Or.inl ⟨by rfl, ?_⟩) ?_ ?_
          rotate_left
          · intro w'
            go_simp
            with_reducible rfl
          rotate_left
          · simp only [Act.put, List.setIfInBounds_toArray, List.set_cons_zero, List.set_cons_succ, i64_w, i32_w]
            rfl
          refine pure_ (i := 10) (N := some 73) (v := ?_) (a' := ?_) #[true, true, true, true, true, true, true, true, true, true, true, false, false, false, false, false] rfl rfl (by kernel_rfl) (fun _ _ _ h => h) (Or.inl ⟨by rfl, ?_⟩) ?_ ?_
          rotate_left
          · intro w'
            go_simp
            with_reducible rfl
          rotate_left
          · simp only [Act.put, List.setIfInBounds_toArray, List.set_cons_zero, List.set_cons_succ, i64_w, i32_w]
            rfl
          refine pure_ (i := 11) (N := some 74) (v := ?_) (a' := ?_) #[true, true, true, true, true, true, true, true, true, true, true, true, false, false, false, false] rfl rfl (by kernel_rfl) (fun _ _ _ h => h) (Or.inl ⟨by rfl, ?_⟩) ?_ ?_
          rotate_left
          · intro w'
            go_simp
            with_reducible rfl
          rotate_left
          · simp only [Act.put, List.setIfInBounds_toArray, List.set_cons_zero, List.set_cons_succ, i64_w, i32_w]
            rfl
          refine pure_ (i := 12) (N := some 75) (v := ?_) (a' := ?_) #[true, true, true, true, true, true, true, true, true, true, true, true, true, false, false, false] rfl rfl (by kernel_rfl) (fun _ _ _ h => h) (Or.inl ⟨by rfl, ?_⟩) ?_ ?_
          rotate_left
          · intro w'
            go_simp
            with_reducible rfl
          rotate_left
          · simp only [Act.put, List.setIfInBounds_toArray, List.set_cons_zero, List.set_cons_succ, i64_w, i32_w]
            rfl
          refine pure_ (i := 13) (N := some 76) (v := ?_) (a' := ?_) #[true, true, true, true, true, true, true, true, true, true, true, true, true, true, false, false] rfl rfl (by kernel_rfl) (fun _ _ _ h => h) (Or.inl ⟨by rfl, ?_⟩) ?_ ?_
          rotate_left
          · intro w'
            go_simp
            with_reducible rfl
          rotate_left
          · simp only [Act.put, List.setIfInBounds_toArray, List.set_cons_zero, List.set_cons_succ, i64_w, i32_w]
            rfl
          refine pure_ (i := 14) (N := some 77) (v := ?_) (a' := ?_) #[true, true, true, true, true, true, true, true, true, true, true, true, true, true, true, false] rfl rfl (by kernel_rfl) (fun _ _ _ h => h) (Or.inl ⟨by rfl, ?_⟩) ?_ ?_
          rotate_left
          · intro w'
            go_simp
            with_reducible rfl
          rotate_left
          · simp only [Act.put, List.setIfInBounds_toArray, List.set_cons_zero, List.set_cons_succ, i64_w, i32_w]
            rfl
          refine pure_ (i := 15) (N := some 78) (v := ?_) (a' := ?_) #[true, true, true, true, true, true, true, true, true, true, true, true, true, true, true, true] rfl rfl (by kernel_rfl) (fun _ _ _ h => h) (Or.inl ⟨by rfl, ?_⟩) ?_ ?_
          rotate_left
          · intro w'
            go_simp
            with_reducible rfl
          rotate_left
          · simp only [Act.put, List.setIfInBounds_toArray, List.set_cons_zero, List.set_cons_succ, i64_w, i32_w]
            rfl
          refine done_ (by kernel_rfl) ?_
          go_wp2
          go_roundw
          case rel => exact ⟨j + 1, by rw [HWR.out]; rfl, by rw [HN1.out], HJ1, R4⟩
          case measure => exact HM.out
        · have k1 : decide ((j : Int) < (ls.length : Int)) = false := decide_eq_false (by omega)
          have k2 : decide (j < ls.length) = false := decide_eq_false hjl
          have k3 : (j < ls.length) = False := eq_false hjl
          have hjj : ls.take j = ls := List.take_of_length_le (by omega)
          rw [hjj, HE.out]
          have HTK := Aside0.mk (wt.tk_end bs)
          obtain ⟨z, hz⟩ : ∃ z, z = z25 := ⟨_, rfl⟩
          rw [← hz] at HTK
          clear hjl hjj hz
          go_wp2_with (first | (go_at_call 22; refine (wt.take22 HUB.out (bs.length : Int) HTK.out HR.out.b (Nat.le_refl _)).mono ?_; rintro e_ w2 ⟨Z3, e3, Z4, e4, rfl, ht, hb⟩; unfold wt.vl; have O2 := Aside0.mk (below_then HR.out.bel HR.out.bel.size hb); clear ht hb) | ((with_reducible refine gate_store (p := 13) rfl ?_); refine wt.store_res rfl rfl 13 _ rfl w2.heap.size rfl (.int .i64 z.f0) (.int .i64 z.f1) (.string z.f2) (.slice Z3 z.f3.length e3) (.slice Z4 z.f4.length e4) rfl (fun q hq => by simp at hq; rcases hq with rfl | rfl | rfl | rfl | rfl <;> rfl) _ rfl (by simpa using heap_alloc_new w2 _) ?_; intro w3 hres hgr; have O3 := Aside0.mk (below_step O2.out (wt.own_res hgr)); clear hres hgr))
          go_ret
          exact ⟨rfl, O3.out⟩
end
end Go.Proofs.Ytnkbobblnhaclaa.X
/- Xxwrowo: walks by hand, for the claim. -/
namespace Go.Proofs.Ytnkbobblnhaclaa.X
open Go.RowKit Go.Proofs.YtnkbobblnhaclaaW.PrintWords Go.Proofs.YtnkbobblnhaclaaW.PrintLast Go.Proofs.YtnkbobblnhaclaaW.PrintMore Go.Proofs.YtnkbobblnhaclaaW
section
set_option maxHeartbeats 4000000
set_option maxRecDepth 100000
open Go.Proofs.Ytnkbobblnhaclaa
open Go.ChangeShapes Go.WideShapes Go.ChangeAt Go.RowKit in
/-- A row of values that comes in. -/
theorem wt.rowV_open {H : Type} {enc : TypeId × Value → H} {w : World} {held : Bool} {spare : Nat → Bool} {A : Option Addr} {len c : Nat} {y : DataW H} {ps : List MemPlace} (h0 : DataW.Trod enc Try.prog w 0 spare held 22 (.slice A len c) y ps) :
    ∃ xs : List S25, xs.length = len ∧ xs.length ≤ c ∧ k25.C w A xs.length xs ∧ (∀ x ∈ xs, Val x) ∧ (Fits Try.prog 22 y → ∀ x ∈ xs, Siz x) ∧ xs.length ≤ Rows.uptoBulk y := by
  obtain ⟨fuel, h⟩ := h0
  obtain ⟨A', xs, c', e, l, m, hC, hg, _⟩ := row_size k25 (fun x z => Val x ∧ (Fits Try.prog 25 z → Siz x)) Try.underlying22 (by kernel_rfl) fuel (fun n _ cs y hy => val_size n cs y hy) h
  simp only [Value.cells] at e
  have e : Value.slice A len c = .slice A' xs.length c' := by simpa using e
  injection e with e1 e2 e3
  subst e1; subst e2; subst e3
  refine ⟨xs, rfl, l, hC, fun x hx => ?_, fun hf x hx => ?_, ?_⟩
  · obtain ⟨_, h, _⟩ := hg x hx
    exact h.1
  · obtain ⟨_, h, hz⟩ := hg x hx
    exact h.2 (hz hf)
  · rcases DataW.trod_slice Try.underlying22 h with ⟨h1, _⟩ | ⟨a, len, cap, elems, rest, n, _, hcs, hy, _, hlc, hcm, hlen, hel0, _, _⟩
    · simp [Value.cells] at h1
      rw [h1.2.1]
      exact Nat.zero_le _
    · simp [Value.cells] at hcs
      obtain ⟨_, hl, _⟩ := hcs
      obtain ⟨hy, _⟩ := Prod.mk.inj hy
      subst hy
      have hbulk := XUp.slice_le (elems.map (·.1)) (rest.map (·.1))
      rw [List.length_map] at hbulk
      omega
end
end Go.Proofs.Ytnkbobblnhaclaa.X
