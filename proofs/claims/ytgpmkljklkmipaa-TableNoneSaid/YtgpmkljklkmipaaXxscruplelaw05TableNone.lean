-- Written by a program of this session (wip/xprint.py) out of the translation's print; Lean checks it.
import Derived.Test.YtgpmkljklkmipaaXx0
import Derived.RangeFuncMany
import Derived.Laws.Pointers
import Derived.Shelf.Abstract
namespace Go.Proofs.Ytgpmkljklkmipaa.X
open Go.RowKit Go.Proofs.YtgpmkljklkmipaaW.PrintWords Go.Proofs.YtgpmkljklkmipaaW.PrintLast Go.Proofs.YtgpmkljklkmipaaW.PrintMore Go.Proofs.YtgpmkljklkmipaaW
attribute [local go_sem] max2_int min2_int max_two min_two max_three min_three max_four min_four   -- for this text's walks alone
set_option linter.unusedVariables false
set_option linter.unusedSimpArgs false

/-! ### scruplelaw05_TableNone: function 6 -/
def scruplelaw05_TableNone.f (_k : Nat) (_a _b : Int) : Option Bool := some true
theorem scruplelaw05_TableNone.mono : ∀ a0 a1 k, LeO (scruplelaw05_TableNone.f k a0 a1) (scruplelaw05_TableNone.f (k + 1) a0 a1) := fun _ _ _ => LeO.refl _
section
set_option maxHeartbeats 4000000
set_option maxRecDepth 100000
theorem scruplelaw05_TableNone.ptr : Try.prog.underlying 39 = some (.pointer (Try.prog.pointee 39)) := by kernel_rfl
theorem scruplelaw05_TableNone.eqn (p : Option Addr) (w : World) : (binOp .eql 39 (.pointer p) (.pointer none)).run Try.prog w = .ok (.bool p.isNone) w := run_eql_pointer_nil w 39 p scruplelaw05_TableNone.ptr
theorem scruplelaw05_TableNone.eqn0 (w : World) : (binOp .eql 39 (.pointer none) (.pointer none)).run Try.prog w = .ok (.bool true) w := scruplelaw05_TableNone.eqn none w
theorem scruplelaw05_TableNone.eqn1 (a : Addr) (w : World) : (binOp .eql 39 (.pointer (some a)) (.pointer none)).run Try.prog w = .ok (.bool false) w := scruplelaw05_TableNone.eqn (some a) w
attribute [local go_sem high] scruplelaw05_TableNone.eqn0 scruplelaw05_TableNone.eqn1
theorem scruplelaw05_TableNone.len0 (w : World) : Calls Try.prog 23 #[.pointer none] w fun e w' => e = .returned (.int .i64 0) ∧ Below w.heap.size w w' := by
  go_enter Try.func23, Try.ntmps23
  go_wp2
  go_ret
  exact ⟨rfl, Below.refl _ _⟩
theorem scruplelaw05_TableNone.find0 (k : Int) (w : World) : Calls Try.prog 20 #[.pointer none, .int .i64 k] w fun e w' => e = .returned (.tuple #[.int .i64 0, .bool false]) ∧ Below w.heap.size w w' := by
  go_enter Try.func20, Try.ntmps20
  go_wp2
  go_ret2
  exact ⟨rfl, Below.refl _ _⟩
theorem scruplelaw05_TableNone.put0 (k v : Int) (w : World) : Calls Try.prog 21 #[.pointer none, .int .i64 k, .int .i64 v] w fun e w' => e = .returned (.bool false) ∧ Below w.heap.size w w' := by
  go_enter Try.func21, Try.ntmps21
  go_wp2
  go_ret
  exact ⟨rfl, Below.refl _ _⟩
theorem scruplelaw05_TableNone.copy0 (w : World) : Calls Try.prog 25 #[.pointer none] w fun e w' => e = .returned (.pointer none) ∧ Below w.heap.size w w' := by
  go_enter Try.func25, Try.ntmps25
  go_wp2
  go_ret
  exact ⟨rfl, Below.refl _ _⟩
theorem scruplelaw05_TableNone.delete0 (k : Int) (w : World) : Calls Try.prog 22 #[.pointer none, .int .i64 k] w fun e w' => e = .returned (.bool false) ∧ Below w.heap.size w w' := by
  go_enter Try.func22, Try.ntmps22
  go_wp2_with (go_at_call 20; refine (scruplelaw05_TableNone.find0 k _).mono ?_; rintro e w' ⟨rfl, hb⟩)
  go_ret
  exact ⟨rfl, hb⟩
theorem scruplelaw05_TableNone.at0 (k : Int) (w : World) : Calls Try.prog 19 #[.pointer none, .int .i64 k] w fun e w' => e = .returned (.tuple #[.int .i64 0, .int .i64 0, .bool false]) ∧ Below w.heap.size w w' := by
  by_cases c : k < 0
  · have cb : decide (k < 0) = true := decide_eq_true c
    go_enter Try.func19, Try.ntmps19
    go_wp2
    go_ret3
    exact ⟨rfl, Below.refl _ _⟩
  · have cb : decide (k < 0) = false := decide_eq_false c
    have cc : decide (k ≥ 0) = true := decide_eq_true (by omega)
    have cd : decide (0 ≤ k) = true := decide_eq_true (by omega)
    go_enter Try.func19, Try.ntmps19
    go_wp2_with (go_at_call 23; refine (scruplelaw05_TableNone.len0 _).mono ?_; rintro e w' ⟨rfl, hb⟩)
    go_ret3
    exact ⟨rfl, hb⟩
theorem scruplelaw05_TableNone.walk0 (w : World) : Calls Try.prog 33 #[.slice none 0 0] w fun e w' => ∃ g, e = .returned (.func (.func 44) #[] #[.pointer (some ⟨g, 0, none⟩)]) ∧ w'.heap[g]? = some (.cells #[.slice none 0 0] 76 (0, 0)) ∧ w.heap.size ≤ g ∧ Below w.heap.size w w' := by
  go_enter Try.func33, Try.ntmps33
  go_wp2_with ((with_reducible refine gate_dst (N := 1) rfl ?_); refine box_event ?hg (N := 1) ?hd (cs := #[.slice none 0 0]) (t := 76) ?hr ?_; (case hd => rfl); (case hg => rfl); (case hr => first | (go_simp; done) | (go_simp; rfl)); intro gb hg w1 hbox hb; have hge : w.heap.size ≤ gb := (by omega); clear hg)
  go_ret
  exact ⟨gb, rfl, hbox, hge, hb⟩
theorem scruplelaw05_TableNone.from0 (k : Int) (w : World) : Calls Try.prog 17 #[.pointer none, .int .i64 k] w fun e w' => ∃ g, e = .returned (.func (.func 44) #[] #[.pointer (some ⟨g, 0, none⟩)]) ∧ w'.heap[g]? = some (.cells #[.slice none 0 0] 76 (0, 0)) ∧ w.heap.size ≤ g ∧ Below w.heap.size w w' := by
  go_enter Try.func17, Try.ntmps17
  go_wp2_with (go_at_call 33; refine (scruplelaw05_TableNone.walk0 _).mono ?_; rintro e w' ⟨g, rfl, h1, h2, h3⟩)
  go_ret
  exact ⟨g, rfl, h1, h2, h3⟩
theorem scruplelaw05_TableNone.new0 (w : World) : Calls Try.prog 24 #[] w fun e w' => ∃ g, e = .returned (.pointer (some ⟨g, 0, none⟩)) ∧ w'.heap[g]? = some (.cells #[.slice none 0 0] 78 (0, 0)) ∧ w.heap.size ≤ g ∧ Below w.heap.size w w' := by
  go_enter Try.func24, Try.ntmps24
  go_wp2_with ((with_reducible refine gate_dst (N := 2) rfl ?_); refine box_event ?hg (N := 2) ?hd (cs := #[.slice none 0 0]) (t := 78) ?hr ?_; (case hd => rfl); (case hg => rfl); (case hr => first | (go_simp; done) | (go_simp; rfl)); intro gb hg w1 hbox hb; have hge : w.heap.size ≤ gb := (by omega); clear hg)
  go_ret
  exact ⟨gb, rfl, hbox, hge, hb⟩
theorem scruplelaw05_TableNone.search0 (k : Int) (w : World) : Calls Try.prog 34 #[.slice none 0 0, .int .i64 k, .func (.func 35) #[] #[]] w fun e w' => e = .returned (.tuple #[.int .i64 0, .bool false]) ∧ Below w.heap.size w w' := by
  go_enter Try.func34, Try.ntmps34
  go_wp2
  go_loopg [9, 10, 11] 0 (fun kq v9 v10 v11 w' => v9 = .int .i64 0 ∧ v10 = .int .i64 0 ∧ Below w.heap.size w w')
  case atStart => exact ⟨rfl, rfl, Below.refl _ _⟩
  case round =>
    obtain ⟨rfl, rfl, hb⟩ := hrel
    go_wp2
    go_ret2
    exact ⟨rfl, hb⟩
theorem scruplelaw05_TableNone.find1 (g : Nat) (k : Int) (w : World) (h : w.heap[g]? = some (.cells #[.slice none 0 0] 78 (0, 0))) : Calls Try.prog 20 #[.pointer (some ⟨g, 0, none⟩), .int .i64 k] w fun e w' => e = .returned (.tuple #[.int .i64 0, .bool false]) ∧ Below w.heap.size w w' := by
  have hz : w.cell? ⟨g, 0, none⟩ = some (.slice none 0 0) := (blk_cell h 0).trans rfl
  have hy := blk_frozen h 0
  go_enter Try.func20, Try.ntmps20
  go_wp2_with (go_at_call 34; refine (scruplelaw05_TableNone.search0 k _).mono ?_; rintro e w' ⟨rfl, hb⟩)
  go_ret2
  exact ⟨rfl, hb⟩
theorem scruplelaw05_TableNone.len1 (g : Nat) (A : Option Addr) (n c : Nat) (w : World) (h : w.heap[g]? = some (.cells #[.slice A n c] 78 (0, 0))) : Calls Try.prog 23 #[.pointer (some ⟨g, 0, none⟩)] w fun e w' => e = .returned (.int .i64 n) ∧ Below w.heap.size w w' := by
  have hz : w.cell? ⟨g, 0, none⟩ = some (.slice A n c) := (blk_cell h 0).trans rfl
  have hy := blk_frozen h 0
  go_enter Try.func23, Try.ntmps23
  go_wp2
  go_ret
  exact ⟨rfl, Below.refl _ _⟩
theorem scruplelaw05_TableNone.put1 (g n : Nat) (k v : Int) (w0 w : World) (hB : Below w0.heap.size w0 w) (hg0 : w0.heap.size ≤ g) (hn : n = 0) (h : w.heap[g]? = some (.cells #[.slice none n 0] 78 (0, 0))) :
    Calls Try.prog 21 #[.pointer (some ⟨g, 0, none⟩), .int .i64 k, .int .i64 v] w fun e w' => ∃ (A : Option Addr) (c : Nat), e = .returned (.bool false) ∧ w'.heap[g]? = some (.cells #[.slice A 1 c] 78 (0, 0)) ∧ Below w0.heap.size w0 w' := by
  have info80 : (Try.prog.info? 80).map (fun i => (i.zero, i.size, i.bytes)) = some (some (.agg #[.int .i64 0, .int .i64 0]), 2, 16) := by kernel_rfl
  have HN := Aside0.mk hn
  have hfind := scruplelaw05_TableNone.find1 g k w (by rw [h, hn])
  have HF := Aside0.mk hfind
  clear hfind hn
  have hz : w.cell? ⟨g, 0, none⟩ = some (.slice none n 0) := (blk_cell h 0).trans rfl
  have hy := blk_frozen h 0
  go_enter Try.func21, Try.ntmps21
  go_wp2_with (first | (go_at_call 20; refine HF.out.mono ?_; rintro e w1 ⟨rfl, hb⟩; have HB1 := Aside0.mk (below_weaken hB hB.size hb); have BK1 := Aside0.mk (blk_below h hb); clear hb hz hy; have hz1 : w1.cell? ⟨g, 0, none⟩ = some (.slice none n 0) := (blk_cell BK1.out 0).trans rfl; have hy1 := blk_frozen BK1.out 0) | ((with_reducible refine gate_dst (N := 41) rfl ?_); refine XWords.R_make_c k80 (w0 := w0) w0.heap.size 80 rfl (N := 41) rfl 76 _ _ rfl 0 (wrap64 ((n : Int) + 1)) rfl rfl Try.underlying76 (.agg #[.int .i64 0, .int .i64 0]) 16 info80 rfl (by decide) (by omega) z80 (ok := fun _ => True) (okp := fun _ => True) (k80_mkM _ _ _ z80) (fun _ hk => hk) trivial (by omega) (by have e := HN.out; unfold wrap64; omega) (by have e := HN.out; have e2 : wrap64 ((n : Int) + 1) = 1 := (by unfold wrap64; omega); rw [e2]; decide) HB1.out HB1.out.size ?_; intro v2 w2 ho hb hg hat; have HO2 := Aside0.mk ho; have HB2 := Aside0.mk hb; have BK2 := Aside0.mk (blk_grown BK1.out hg (by simp)); clear ho hb hg hat hz1 hy1; have hz2 : w2.cell? ⟨g, 0, none⟩ = some (.slice none n 0) := (blk_cell BK2.out 0).trans rfl; have hy2 := blk_frozen BK2.out 0) | (at_builtin; refine Kd.R_append_rows k80 (Rr := k80.K w2) (w0 := w0) w0.heap.size rfl (.tmp 42) (.tmp 48) 76 80 (.agg #[.int .i64 0, .int .i64 0]) 16 rfl Try.underlying76 info80 rfl (by decide) (by omega) v2 (List.replicate (0 : Int).toNat z80) ([] : List S80) none 0 0 (fun _ => True) (fun _ => False) rfl rfl ?aO ?aR ?aK (fun _ h => h.elim) ?aF ?aB ?aS ?aL ?_; (case aR => exact (Kd.R_reads' (Kd.R_nil k80 80 _ w0.heap.size (fun _ => True))).2.2); (case aK => intro x cs h; obtain rfl := k80_open h; exact k80_mkM _ _ _ x); (case aB => exact HB2.out); (case aF => exact (fun _ _ => trivial)); (case aO => exact HO2.out); (case aS => exact HB2.out.size); (case aL => simp); intro v3 w3 ho hb hg hat; have HO3 := Aside0.mk ho; have HB3 := Aside0.mk hb; have BK3 := Aside0.mk (blk_grown BK2.out hg (Kd.R_away (Kd.R_types HO2.out BK2.out (by decide)) (fun _ hk => hk.2))); clear ho hb hg hat; clear hz2 hy2; have hz3 : w3.cell? ⟨g, 0, none⟩ = some (.slice none n 0) := (blk_cell BK3.out 0).trans rfl; have hy3 := blk_frozen BK3.out 0) | (at_builtin; refine Kd.R_append k80 (w0 := w0) w0.heap.size rfl (.tmp 50) (.tmp 54) 76 80 (.agg #[.int .i64 0, .int .i64 0]) 16 rfl Try.underlying76 info80 rfl (by decide) (by omega) v3 (List.replicate (0 : Int).toNat z80 ++ ([] : List S80)) (⟨k, v⟩ : S80) [.int .i64 k, .int .i64 v] (fun _ => True) (fun _ => False) rfl rfl (k80_mkM _ _ _ ⟨k, v⟩) (fun _ h => h.elim) ?aF ?aO ?aB ?aS ?aL ?_; (case aB => exact HB3.out); (case aF => exact (fun _ _ => trivial)); (case aO => exact HO3.out); (case aS => exact HB3.out.size); (case aL => simp); intro v4 w4 ho hb hg hat; have HO4 := Aside0.mk ho; have HB4 := Aside0.mk hb; have BK4 := Aside0.mk (blk_grown BK3.out hg (Kd.R_away (Kd.R_types HO3.out BK3.out (by decide)) (fun _ hk => hk.2))); clear ho hb hg hat hz3 hy3; have hz4 : w4.cell? ⟨g, 0, none⟩ = some (.slice none n 0) := (blk_cell BK4.out 0).trans rfl; have hy4 := blk_frozen BK4.out 0) | (at_builtin; refine Kd.R_append_rows k80 (Rr := k80.K w4) (w0 := w0) w0.heap.size rfl (.tmp 57) (.tmp 63) 76 80 (.agg #[.int .i64 0, .int .i64 0]) 16 rfl Try.underlying76 info80 rfl (by decide) (by omega) v4 ((List.replicate (0 : Int).toNat z80 ++ ([] : List S80)) ++ [(⟨k, v⟩ : S80)]) ([] : List S80) none n 0 (fun _ => True) (fun _ => False) rfl rfl ?aO ?aR ?aK (fun _ h => h.elim) ?aF ?aB ?aS ?aL ?_; (case aR => have e := HN.out; subst e; exact (Kd.R_reads' (Kd.R_nil k80 80 _ w0.heap.size (fun _ => True))).2.2); (case aK => intro x cs h; obtain rfl := k80_open h; exact k80_mkM _ _ _ x); (case aB => exact HB4.out); (case aF => exact (fun _ _ => trivial)); (case aO => exact HO4.out); (case aS => exact HB4.out.size); (case aL => have e := HN.out; subst e; simp); intro v5 w5 ho hb hg hat; have HO5 := Aside0.mk ho; have HB5 := Aside0.mk hb; have BK5 := Aside0.mk (blk_grown BK4.out hg (Kd.R_away (Kd.R_types HO4.out BK4.out (by decide)) (fun _ hk => hk.2))); clear ho hb hg hat; clear hz4 hy4; obtain ⟨A5, c5, e5⟩ := Kd.R_slice HO5.out; subst e5; have hz5 : w5.cell? ⟨g, 0, none⟩ = some (.slice none n 0) := (blk_cell BK5.out 0).trans rfl; have hy5 := blk_frozen BK5.out 0))
  go_ret
  exact ⟨A5, c5, rfl, (by simpa using blk_put BK5.out 0 _ rfl), HB5.out.setCell hg0 _⟩
theorem scruplelaw05_TableNone.below_put {B : Nat} {w W : World} (h : Below B w W) (hB : B ≤ W.heap.size) {r : Nat} (hr : B ≤ r) (o : Obj) : Below B w (W.putObj r o) := h.grown (grownBy_putObj' _ r o) hB (fun k hk => by cases hk; exact hr)
/-- A range over an iterator that hands nothing. -/
theorem scruplelaw05_TableNone.range_none {F : Fence} {n : Nat} {P : Program} {g : Operand} {ps : Array Tmp} {assign body : Code} {Q : Exit → Act → World → Prop} {a : Act} {w : World}
    (hro : F.round = none) (h1 : 1 ≤ n) {gf : Nat} {lb : Array Value} (hg : a.eval g = .func (.func gf) #[] lb) (hFg : F.fn gf) (eg : ∀ args w, (callFunc gf args).run P w = .ok (.enter gf args) w)
    (hseq : ∀ (l : Nat) (W : World), Below w.heap.size w W → CallsIn F (n - 1) P gf (#[.func (.yield l) #[] #[]] ++ lb) W fun e W' => (∃ v, e = .returned v) ∧ W' = W)
    (hdone : ∀ (D : Nat) (W : World), Below w.heap.size w W → w.heap.size ≤ D → W.heap[D]? = some (.deferred (some [])) → Q .normal { a with defers := { target := .collected D, args := #[] } :: a.defers } W) :
    (Code.rangeFunc g ps assign body).wpIn F n P Q a w := by
  refine wpIn_rangeFunc ?_
  intro fn hfn
  rw [hro]
  obtain ⟨rec, hrec⟩ : ∃ rec : LoopState → Option Code → Loop, rec = fun st pe => { state := st, pending := pe, fn, tmps := a.tmps, params := ps, assign, body, defers := w.heap.size } := ⟨_, rfl⟩
  obtain ⟨W1, hW1⟩ : ∃ W1, (w.alloc (.deferred (some []))).alloc (.loop (rec .ready none)) = W1 := ⟨_, rfl⟩
  have hL1 : W1.heap[w.heap.size + 1]? = some (.loop (rec .ready none)) := by
    rw [← hW1]; have := World.alloc_heap_new (w.alloc (.deferred (some []))) (.loop (rec .ready none)); rwa [World.size_alloc] at this
  have hK1 : W1.heap[w.heap.size]? = some (.deferred (some [])) := by
    rw [← hW1]; exact (Below.heap_alloc _ _ _ (by simp)).trans (World.alloc_heap_new w _)
  have hb1 : Below w.heap.size w W1 := by
    rw [← hW1]; exact ((Below.refl _ w).alloc (Nat.le_refl _) _).alloc (by simp) _
  refine ⟨w.heap.size + 1, [{ target := .collected w.heap.size, args := #[] }], W1, { target := .fn (.func gf) lb, args := #[.func (.yield (w.heap.size + 1)) #[] #[]] }, W1, gf,
    #[.func (.yield (w.heap.size + 1)) #[] #[]] ++ lb, W1, ?_, ?_, ?_, ?_, fun _ => h1, ?_⟩
  · rw [← hW1, hrec]; exact run_enterLoop_outer _ _ _ _ _
  · simp only [resolve, hg]
    simp [go_sem]
  · intro f' hf'; simp [Target.leads] at hf'; subst hf'; exact hFg
  · simp [invoke, go_sem, eg]
  · refine (hseq (w.heap.size + 1) W1 hb1).mono ?_
    rintro e W2 ⟨⟨v, rfl⟩, rfl⟩
    exact ⟨none, _, by have := run_endLoop (P := P) hL1 (by rw [hrec]; simp); rw [hrec] at this; exact this, hdone w.heap.size _ (scruplelaw05_TableNone.below_put hb1 hb1.size (Nat.le_succ _) _) (Nat.le_refl _) ((World.putObj_heap_other (by omega)).trans hK1)⟩
theorem scruplelaw05_TableNone.iter0 (l g : Nat) (w : World) (h : w.heap[g]? = some (.cells #[.slice none 0 0] 76 (0, 0))) : Calls Try.prog 44 #[.func (.yield l) #[] #[], .pointer (some ⟨g, 0, none⟩)] w fun e w' => (∃ v, e = .returned v) ∧ w' = w := by
  have hz : w.cell? ⟨g, 0, none⟩ = some (.slice none 0 0) := (blk_cell h 0).trans rfl
  have hy := blk_frozen h 0
  go_enter Try.func44, Try.ntmps44
  go_wp2
  go_loopg [4, 7] 0 (fun kq v4 v7 w' => v7 = .int .i64 0 ∧ w' = w)
  case atStart => exact ⟨rfl, rfl⟩
  case round =>
    obtain ⟨rfl, rfl⟩ := hrel
    go_wp2
    first | go_end0 | ((try simp only [Exit.inBlock, Exit.then]); refine bodyPost_ret (results_none rfl _ _ _) rfl ?_)
    exact ⟨⟨_, rfl⟩, rfl⟩
theorem scruplelaw05_TableNone.get0 (k : Int) (w : World) : Calls Try.prog 18 #[.pointer none, .int .i64 k] w fun e w' => e = .returned (.tuple #[.int .i64 0, .bool false]) ∧ Below w.heap.size w w' := by
  refine (callsIn_wide (n := 10)).mp ?_
  refine callsIn_of_wp_marks Try.func18 rfl trivial ?_ rfl
  simp only [Try.ntmps18, List.size_toArray, List.length_cons, List.length_nil, Nat.reduceAdd, Nat.reduceSub, Array.replicate_succ, Array.replicate_zero, List.push_toArray, List.append_toArray, List.nil_append, List.cons_append]
  obtain ⟨W0, hW0⟩ : ∃ W0, ((w.alloc (.cells #[.int .i64 k] 3)).alloc (.cells #[.int .i64 0] 3)).alloc (.cells #[.bool false] 4) = W0 := ⟨_, rfl⟩
  have hs0 : W0.heap.size = w.heap.size + 3 := by rw [← hW0]; simp
  have hB0 : Below w.heap.size w W0 := by rw [← hW0]; exact (((Below.refl _ w).alloc (Nat.le_refl _) _).alloc (by simp) _).alloc (by simp; omega) _
  have hBk : W0.heap[w.heap.size]? = some (.cells #[.int .i64 k] 3 (0, 0)) := by
    rw [← hW0]; exact ((Below.heap_alloc _ _ _ (by simp; omega)).trans (Below.heap_alloc _ _ _ (by simp))).trans (World.alloc_heap_new w _)
  have ck : W0.cell? ⟨w.heap.size, 0, none⟩ = some (.int .i64 k) := (blk_cell hBk 0).trans rfl
  have dk := blk_frozen hBk 0
  have hB1 : W0.heap[w.heap.size + 1]? = some (.cells #[.int .i64 0] 3 (0, 0)) := by
    rw [← hW0]; refine (Below.heap_alloc _ _ _ (by simp)).trans ?_
    have := World.alloc_heap_new (w.alloc (.cells #[.int .i64 k] 3)) (.cells #[.int .i64 0] 3); rwa [World.size_alloc] at this
  have hB2 : W0.heap[w.heap.size + 1 + 1]? = some (.cells #[.bool false] 4 (0, 0)) := by
    rw [← hW0]; have := World.alloc_heap_new ((w.alloc (.cells #[.int .i64 k] 3)).alloc (.cells #[.int .i64 0] 3)) (.cells #[.bool false] 4); rwa [World.size_alloc, World.size_alloc] at this
  have h17 : Fence.wide.fn 17 := trivial
  gi_wp2_with (gi_at_call 17; refine (callsIn_wide.mpr (scruplelaw05_TableNone.from0 k _)).mono ?_; rintro e w' ⟨g, rfl, h1, h2, h3⟩)
  refine scruplelaw05_TableNone.range_none rfl (by omega) (gf := 44) (lb := #[.pointer (some ⟨g, 0, none⟩)]) rfl trivial (enters_of Try.func44 (by kernel_rfl) rfl) (fun l W hb => callsIn_wide.mpr (scruplelaw05_TableNone.iter0 l g W (blk_below h1 hb))) ?_
  intro D W hb hD hK
  have hb3 : Below w.heap.size w W := below_then (below_then hB0 hB0.size h3) (Nat.le_trans hB0.size h3.size) hb
  have k1 := blk_below (blk_below hB1 h3) hb
  have k2 := blk_below (blk_below hB2 h3) hb
  have hs3 := h3.size
  clear hB1 hB2 h1 h2 h3 hb
  have c1 : W.cell? ⟨w.heap.size + 1, 0, none⟩ = some (.int .i64 0) := (blk_cell k1 0).trans rfl
  have d1 := blk_frozen k1 0
  have c2 : W.cell? ⟨w.heap.size + 1 + 1, 0, none⟩ = some (.bool false) := (blk_cell k2 0).trans rfl
  have d2 := blk_frozen k2 0
  have l1 : w.heap.size + 1 < W.heap.size := blk_lt k1
  have l2 : w.heap.size + 1 + 1 < W.heap.size := blk_lt k2
  gi_wp2
  have hK' : ((W.setCell ⟨w.heap.size + 1, 0, none⟩ (.int .i64 0)).setCell ⟨w.heap.size + 1 + 1, 0, none⟩ (.bool false)).heap[D]? = some (.deferred (some [])) :=
    (Below.heap_setCell _ _ _ _ (by show D ≠ w.heap.size + 1 + 1; omega)).trans ((Below.heap_setCell _ _ _ _ (by show D ≠ w.heap.size + 1; omega)).trans hK)
  have k1s := blk_far (p := ⟨w.heap.size + 1 + 1, 0, none⟩) (blk_put k1 0 (.int .i64 0) rfl) (by show w.heap.size + 1 ≠ w.heap.size + 1 + 1; omega) (.bool false)
  have k2s := blk_put (blk_far (p := ⟨w.heap.size + 1, 0, none⟩) k2 (by show w.heap.size + 1 + 1 ≠ w.heap.size + 1; omega) (.int .i64 0)) 0 (.bool false) rfl
  have hb4 : Below w.heap.size w ((W.setCell ⟨w.heap.size + 1, 0, none⟩ (.int .i64 0)).setCell ⟨w.heap.size + 1 + 1, 0, none⟩ (.bool false)) := (hb3.setCell (by show w.heap.size ≤ w.heap.size + 1; omega) _).setCell (by show w.heap.size ≤ w.heap.size + 1 + 1; omega) _
  have z1 := cell_kept ((blk_cell k1s 0).trans rfl) (grownBy_putObj' _ D (.deferred none)) (fun r e => by cases e; exact ⟨_, hK', rfl⟩)
  have z2 := cell_kept ((blk_cell k2s 0).trans rfl) (grownBy_putObj' _ D (.deferred none)) (fun r e => by cases e; exact ⟨_, hK', rfl⟩)
  refine ⟨by simp, .inl ⟨_, _, rfl, run_takeDeferred hK', ?_⟩⟩
  refine ⟨.tuple #[.int .i64 0, .bool false], ?_, rfl, scruplelaw05_TableNone.below_put hb4 hb4.size (by omega) _⟩
  simp [results, Try.f18, go_sem, z1, z2]
theorem scruplelaw05_TableNone.calls (k : Nat) (a b : Int) (r : Bool) (w : World) (hT : r = true) (_h : scruplelaw05_TableNone.f k a b = some r) : Calls Try.prog 6 #[.int .i64 a, .int .i64 b] w fun e w' => e = .returned (.bool r) ∧ Below w.heap.size w w' := by
  subst hT
  have HB := Aside0.mk (Below.refl w.heap.size w)
  go_enter Try.func6, Try.ntmps6
  go_wp2_with (first | (go_at_call 18; (with_reducible refine (scruplelaw05_TableNone.get0 a _).mono ?_); rintro e_ w_ ⟨rfl, hb⟩; have n0_ := Aside0.mk (below_step HB.out hb); clear HB hb; have HB := n0_; clear n0_) | (go_at_call 19; (with_reducible refine (scruplelaw05_TableNone.at0 a _).mono ?_); rintro e_ w_ ⟨rfl, hb⟩; have n0_ := Aside0.mk (below_step HB.out hb); clear HB hb; have HB := n0_; clear n0_) | (go_at_call 20; (with_reducible refine (scruplelaw05_TableNone.find0 a _).mono ?_); rintro e_ w_ ⟨rfl, hb⟩; have n0_ := Aside0.mk (below_step HB.out hb); clear HB hb; have HB := n0_; clear n0_) | (go_at_call 21; (with_reducible refine (scruplelaw05_TableNone.put0 a b _).mono ?_); rintro e_ w_ ⟨rfl, hb⟩; have n0_ := Aside0.mk (below_step HB.out hb); clear HB hb; have HB := n0_; clear n0_) | (go_at_call 22; (with_reducible refine (scruplelaw05_TableNone.delete0 a _).mono ?_); rintro e_ w_ ⟨rfl, hb⟩; have n0_ := Aside0.mk (below_step HB.out hb); clear HB hb; have HB := n0_; clear n0_) | (go_at_call 23; (with_reducible refine (scruplelaw05_TableNone.len0 _).mono ?_); rintro e_ w_ ⟨rfl, hb⟩; have n0_ := Aside0.mk (below_step HB.out hb); clear HB hb; have HB := n0_; clear n0_) | (go_at_call 25; (with_reducible refine (scruplelaw05_TableNone.copy0 _).mono ?_); rintro e_ w_ ⟨rfl, hb⟩; have n0_ := Aside0.mk (below_step HB.out hb); clear HB hb; have HB := n0_; clear n0_) | (go_at_call 24; (with_reducible refine (scruplelaw05_TableNone.new0 _).mono ?_); rintro e_ w_ ⟨g, rfl, h1, h2, hb⟩; have GE := Aside0.mk (show w.heap.size ≤ g from Nat.le_trans HB.out.size h2); have n0_ := Aside0.mk (below_step HB.out hb); clear HB hb; have HB := n0_; clear n0_; have BK := Aside0.mk h1; clear h1 h2) | (go_at_call 21; (with_reducible refine (scruplelaw05_TableNone.put1 g 0 a b w _ HB.out GE.out rfl BK.out).mono ?_); rintro e_ w_ ⟨A5, c5, rfl, h1, hb⟩; clear HB BK GE; have HB := Aside0.mk hb; have BK := Aside0.mk h1; clear hb h1) | (go_at_call 23; (with_reducible refine (scruplelaw05_TableNone.len1 g A5 1 c5 _ BK.out).mono ?_); rintro e_ w_ ⟨rfl, hb⟩; clear BK; have n0_ := Aside0.mk (below_step HB.out hb); clear HB hb; have HB := n0_; clear n0_))
  all_goals go_ret
  all_goals exact ⟨rfl, HB.out⟩
end

end Go.Proofs.Ytgpmkljklkmipaa.X
