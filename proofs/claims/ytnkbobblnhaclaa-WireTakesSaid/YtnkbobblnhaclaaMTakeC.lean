/- MTakeC: texts of this claim, one behind the other. -/
import Derived.Test.YtnkbobblnhaclaaXx0
import Derived.Test.YtnkbobblnhaclaaXWords
import Derived.WalkLawsBesides
import Derived.Laws.Pointers
import Derived.Shelf.Abstract
import Derived.Deep.DeepMust
import Derived.Deep.QuietTactic
import Derived.BigQuiet
import Derived.Test.YtnkbobblnhaclaaMTakeB
import Derived.Test.YtnkbobblnhaclaaXxscrupleref010
set_option linter.unusedVariables false
set_option linter.unusedSimpArgs false
/- Xxwref0: walks by hand, for the claim. -/
namespace Go.Proofs.Ytnkbobblnhaclaa.X
open Go.RowKit Go.Proofs.YtnkbobblnhaclaaW.PrintWords Go.Proofs.YtnkbobblnhaclaaW.PrintLast Go.Proofs.YtnkbobblnhaclaaW.PrintMore Go.Proofs.YtnkbobblnhaclaaW
section
set_option maxHeartbeats 4000000
set_option maxRecDepth 100000
/-- The reference's reader. -/
def wt.RB (w : World) (g : Nat) (A : Option Addr) (n c : Nat) (a wq f p : Int) : Prop := w.heap[g]? = some (.cells #[.slice A n c, .int .i64 a, .int .i64 wq, .int .i64 f, .int .i64 p] 62 (0, 0))
section
variable {w w1 : World} {g : Nat} {A : Option Addr} {n c : Nat} {a wq f p : Int}
theorem wt.RB.c0 (h : wt.RB w g A n c a wq f p) : w.cell? ⟨g, 0, none⟩ = some (.slice A n c) := (blk_cell h 0).trans rfl
theorem wt.RB.c1 (h : wt.RB w g A n c a wq f p) : w.cell? ⟨g, 1, none⟩ = some (.int .i64 a) := (blk_cell h 1).trans rfl
theorem wt.RB.c2 (h : wt.RB w g A n c a wq f p) : w.cell? ⟨g, 2, none⟩ = some (.int .i64 wq) := (blk_cell h 2).trans rfl
theorem wt.RB.c3 (h : wt.RB w g A n c a wq f p) : w.cell? ⟨g, 3, none⟩ = some (.int .i64 f) := (blk_cell h 3).trans rfl
theorem wt.RB.c4 (h : wt.RB w g A n c a wq f p) : w.cell? ⟨g, 4, none⟩ = some (.int .i64 p) := (blk_cell h 4).trans rfl
theorem wt.RB.fz (h : wt.RB w g A n c a wq f p) (o : Nat) : w.frozen? ⟨g, o, none⟩ = false := blk_frozen h o
theorem wt.RB.set1 (h : wt.RB w g A n c a wq f p) (x : Int) : wt.RB (w.setCell ⟨g, 1, none⟩ (.int .i64 x)) g A n c x wq f p := blk_put h 1 (.int .i64 x) rfl
theorem wt.RB.set2 (h : wt.RB w g A n c a wq f p) (x : Int) : wt.RB (w.setCell ⟨g, 2, none⟩ (.int .i64 x)) g A n c a x f p := blk_put h 2 (.int .i64 x) rfl
theorem wt.RB.set3 (h : wt.RB w g A n c a wq f p) (x : Int) : wt.RB (w.setCell ⟨g, 3, none⟩ (.int .i64 x)) g A n c a wq x p := blk_put h 3 (.int .i64 x) rfl
theorem wt.RB.set4 (h : wt.RB w g A n c a wq f p) (x : Int) : wt.RB (w.setCell ⟨g, 4, none⟩ (.int .i64 x)) g A n c a wq f x := blk_put h 4 (.int .i64 x) rfl
theorem wt.RB.below (h : wt.RB w g A n c a wq f p) (hb : Below w.heap.size w w1) : wt.RB w1 g A n c a wq f p := blk_below h hb
end
/-- Bytes stay, whatever happens to a block of structs. -/
theorem wt.cells_fr {w w1 : World} {g t : Nat} {ob : Array Value} {xs : List Int} {A' : Option Addr} {n' : Nat} (h : (Kd.int .u8).C w A' n' xs) (hB : w.heap[g]? = some (.cells ob t (0, 0))) (hno : ∀ (o : Nat) x, ob[o]? ≠ some (.int .u8 x)) (hF : wt.Fr g w w1) : (Kd.int .u8).C w1 A' n' xs := by
  refine ⟨h.1, h.2.1, fun hp => ?_⟩
  obtain ⟨ad, e, hc⟩ := h.2.2 hp
  refine ⟨ad, e, fun j p hj => ?_⟩
  obtain ⟨cs, h1, h2, h3⟩ := hc j p hj
  refine ⟨cs, h1, h2, fun i u hu => ?_⟩
  have h4 := h3 i u hu
  have hlt := World.block_lt_of_cell? w _ h4
  have hne : (ad.add (j * (Kd.int .u8).sz + i)).block ≠ g := by
    intro e1
    have h5 : cs = [.int .u8 p] := h2
    subst h5
    cases i with
    | succ i => simp at hu
    | zero =>
      simp at hu
      subst hu
      unfold World.cell? at h4
      rw [e1, hB] at h4
      simp only at h4
      split at h4
      · cases h4
      · exact hno _ _ h4
  have h6 := hF.2 _ hlt hne
  rw [← h4]
  simp [World.cell?, h6]
theorem wt.rbytes {w w1 : World} {g : Nat} {A A' : Option Addr} {n c n' : Nat} {a wq f p : Int} {xs : List Int} (h : (Kd.int .u8).C w A' n' xs) (hB : wt.RB w g A n c a wq f p) (hF : wt.Fr g w w1) : (Kd.int .u8).C w1 A' n' xs := by
  refine wt.cells_fr h hB (fun o x => ?_) hF
  match o with
  | 0 => simp
  | 1 => simp
  | 2 => simp
  | 3 => simp
  | 4 => simp
  | o + 5 => simp
/-- Behind a step of the reference's reader. -/
structure wt.RNx (w0 w w' : World) (g : Nat) (A : Option Addr) (m c : Nat) (a wq f p : Int) : Prop where
  blk : wt.RB w' g A m c a wq f p
  fr : wt.Fr g w w'
  bel : Below w0.heap.size w0 w'
/-- Behind a fault. -/
def wt.RNb (w0 w w' : World) (g : Nat) (A : Option Addr) (m c : Nat) (f p : Int) : Prop := ∃ a wq, wt.RNx w0 w w' g A m c a wq f p
/-- Behind a reading of a plain thing. -/
def wt.RGot {α : Type} (r : wt.R3 α) (enc : α → Value) (w0 w : World) (g : Nat) (A : Option Addr) (m c : Nat) (p : Int) (e : Ending) (w' : World) : Prop :=
  match r with
  | .ok x a' l' => e = .returned (enc x) ∧ wt.RNx w0 w w' g A m c a' (2048 - l') 0 p
  | .bad f q => (∃ y, e = .returned (enc y)) ∧ wt.RNb w0 w w' g A m c f q
theorem wt.wrong1 {w0 w : World} {g : Nat} {A : Option Addr} {m c : Nat} {a wq p : Int} (hb : Below w0.heap.size w0 w) (hg : w0.heap.size ≤ g) (hB : wt.RB w g A m c a wq 0 p) (e q : Int) : Calls Try.prog 58 #[.pointer (some ⟨g, 0, none⟩), .int .i64 e, .int .i64 q] w fun en w' => en = .returned (.tuple #[]) ∧ wt.RNx w0 w w' g A m c a wq e q := by
  have HB := Aside0.mk hB
  have HBB := Aside0.mk hb
  have HGG := Aside0.mk hg
  have h3 := hB.c3
  have f3 := hB.fz 3
  have h4 := (hB.set3 e).c4
  have f4 := (hB.set3 e).fz 4
  clear hB hb hg
  go_enter Try.func58, Try.ntmps58
  go_wp2
  go_end0
  exact ⟨rfl, (HB.out.set3 e).set4 q, (wt.Fr.set _ _ _ _).trans (wt.Fr.set _ _ _ _), (HBB.out.setCell HGG.out _).setCell HGG.out _⟩
theorem wt.heavY {w0 w : World} {g : Nat} {A : Option Addr} {m c : Nat} {a wq p : Int} (hb : Below w0.heap.size w0 w) (hg : w0.heap.size ≤ g) (hB : wt.RB w g A m c a wq 0 p) (n q : Int) (hw : 0 ≤ wq) (hn : 0 ≤ n) (h : wq + n ≤ 2048) : Calls Try.prog 59 #[.pointer (some ⟨g, 0, none⟩), .int .i64 n, .int .i64 q] w fun en w' => en = .returned (.tuple #[]) ∧ wt.RNx w0 w w' g A m c a (wq + n) 0 p := by
  have HB := Aside0.mk hB
  have HBB := Aside0.mk hb
  have HGG := Aside0.mk hg
  have h2 := hB.c2
  have f2 := hB.fz 2
  have hwr : wrap64 (wq + n) = wq + n := by unfold wrap64; omega
  have d1 : decide (wq + n > 2048) = false := decide_eq_false (by omega)
  have d2 : decide (2048 < wq + n) = false := decide_eq_false (by omega)
  clear hB hb hg h hw hn
  go_enter Try.func59, Try.ntmps59
  go_wp2
  go_end0
  exact ⟨rfl, HB.out.set2 _, wt.Fr.set _ _ _ _, HBB.out.setCell HGG.out _⟩
theorem wt.heavN {w0 w : World} {g : Nat} {A : Option Addr} {m c : Nat} {a wq p : Int} (hb : Below w0.heap.size w0 w) (hg : w0.heap.size ≤ g) (hB : wt.RB w g A m c a wq 0 p) (n q : Int) (hw : wq ≤ 2048) (hn : n ≤ 2048) (h : 2048 < wq + n) : Calls Try.prog 59 #[.pointer (some ⟨g, 0, none⟩), .int .i64 n, .int .i64 q] w fun en w' => en = .returned (.tuple #[]) ∧ wt.RNb w0 w w' g A m c 42 q := by
  have HB := Aside0.mk hB
  have HBB := Aside0.mk hb
  have HGG := Aside0.mk hg
  have h2 := hB.c2
  have f2 := hB.fz 2
  have hwr : wrap64 (wq + n) = wq + n := by unfold wrap64; omega
  have d1 : decide (wq + n > 2048) = true := decide_eq_true h
  have d2 : decide (2048 < wq + n) = true := decide_eq_true h
  clear hB hb hg h hw hn
  go_enter Try.func59, Try.ntmps59
  go_wp2_with (go_at_call 58; refine (wt.wrong1 (HBB.out.setCell HGG.out _) HGG.out (HB.out.set2 _) 42 q).mono ?_; rintro e_ w1 ⟨rfl, hx⟩; have HX := Aside0.mk hx; clear hx)
  go_end0
  exact ⟨rfl, _, _, HX.out.blk, (wt.Fr.set _ _ _ _).trans HX.out.fr, HX.out.bel⟩
/-- What the reference's walk knows of the numbers that stand in bytes. -/
structure wt.Rin (bs : List Int) (u i : Int → Int × Int × Int) : Prop where
  U : ∃ K, ∀ a, scrupleref01_Uint.f K bs a = some (u a)
  I : ∃ K, ∀ a, scrupleref01_Int.f K bs a = some (i a)
theorem wt.ruint1 {bs : List Int} {m : Nat} {K : Nat} {r1 r2 r3 a : Int} {w : World} {A : Option Addr} {c : Nat} (hK : scrupleref01_Uint.f K bs a = some (r1, r2, r3)) (hC : (Kd.int .u8).C w A m bs) (hc : m ≤ c) : Calls Try.prog 67 #[.slice A m c, .int .i64 a] w fun e w' => e = .returned (.tuple #[.int .u64 r1, .int .i64 r2, .int .i64 r3]) ∧ Drawn0 w w' := by
  obtain rfl := hC.1
  exact scrupleref01_Uint.calls K A c bs a r1 r2 r3 w hC hc hK
theorem wt.rint1 {bs : List Int} {m : Nat} {K : Nat} {r1 r2 r3 a : Int} {w : World} {A : Option Addr} {c : Nat} (hK : scrupleref01_Int.f K bs a = some (r1, r2, r3)) (hC : (Kd.int .u8).C w A m bs) (hc : m ≤ c) : Calls Try.prog 60 #[.slice A m c, .int .i64 a] w fun e w' => e = .returned (.tuple #[.int .i64 r1, .int .i64 r2, .int .i64 r3]) ∧ Drawn0 w w' := by
  obtain rfl := hC.1
  exact scrupleref01_Int.calls K A c bs a r1 r2 r3 w hC hc hK
/-- reader.number of the reference. -/
theorem wt.rnum1 {bs : List Int} {u i : Int → Int × Int × Int} (hU : wt.Uin bs u i) (hR : wt.Rin bs u i) {w0 w : World} {g : Nat} {A : Option Addr} {c : Nat} {a wq p : Int} (hb : Below w0.heap.size w0 w) (hg : w0.heap.size ≤ g) (hB : wt.RB w g A bs.length c a wq 0 p) (hC : (Kd.int .u8).C w A bs.length bs) (hc : bs.length ≤ c) (tag times : Int) (ht : 1 ≤ times ∧ times ≤ 2) (hw : 0 ≤ wq ∧ wq ≤ 2048) :
    Calls Try.prog 61 #[.pointer (some ⟨g, 0, none⟩), .int .i64 tag, .int .i64 times] w (wt.RGot (wt.countS u tag times a (2048 - wq)) (fun n => .int .i64 n) w0 w g A bs.length c p) := by
  have hu := (hU.R a)
  obtain ⟨K, hK⟩ := hR.U
  have HK := Aside0.mk (hK a)
  unfold wt.countS
  obtain ⟨r1, r2, r3, hr⟩ : ∃ r1 r2 r3, u a = (r1, r2, r3) := ⟨_, _, _, rfl⟩
  rw [hr] at HK hu ⊢
  dsimp only at hu ⊢
  have HB := Aside0.mk hB
  have HC := Aside0.mk hC
  have HCC := Aside0.mk hc
  have HBB := Aside0.mk hb
  have HGG := Aside0.mk hg
  have h0 := hB.c0
  have h1 := hB.c1
  generalize bs.length = m at *
  by_cases he : r3 ≠ 0
  · rw [if_pos he]
    have d1 : (r3 != 0) = true := bne_iff_ne.2 he
    have d2 : (r3 == 0) = false := beq_eq_false_iff_ne.2 he
    have d3 : decide (r3 = 0) = false := decide_eq_false he
    clear hK hr hB hC hc hb hg hU hR he hu ht hw h0 h1
    go_enter Try.func61, Try.ntmps61
    go_wp2
    refine start_ (n := 16) (S := fun w' => w'.cell? ⟨g, 0, none⟩ = some (.slice A m c) ∧ w'.cell? ⟨g, 1, none⟩ = some (.int .i64 a)) (ds := []) #[false, false, false, false, false, false, false, false, false, false, false, false, false, false, false, false] (by kernel_rfl) rfl rfl ⟨(HB.out.below (below_drew (Below.refl _ _))).c0, (HB.out.below (below_drew (Below.refl _ _))).c1⟩ (fun hHeld => ?_)
    generalize hwd : w.drew = wd at hHeld ⊢
    have Bd := Aside0.mk (hwd ▸ HB.out.below (below_drew (Below.refl _ _)))
    have FRd := Aside0.mk (hwd ▸ wt.Fr.of_below (g := g) (below_drew (Below.refl _ _)))
    have BLd := Aside0.mk (hwd ▸ below_drew HBB.out)
    clear hwd
    refine pure_ (i := 0) (N := some 11) (v := ?_) (a' := ?_) #[true, false, false, false, false, false, false, false, false, false, false, false, false, false, false, false] rfl rfl (by kernel_rfl) (fun _ _ _ h => h) (Or.inl ⟨by rfl, ?_⟩) ?_ ?_
    rotate_left
    · intro w'
      go_simp
      with_reducible rfl
    rotate_left
    · simp only [Act.put, List.setIfInBounds_toArray, List.set_cons_zero, List.set_cons_succ, i64_w, i32_w]
      rfl
    refine pure_ (i := 1) (N := some 12) (v := ?_) (a' := ?_) #[true, true, false, false, false, false, false, false, false, false, false, false, false, false, false, false] rfl rfl (by kernel_rfl) (fun _ _ _ h => h) (Or.inl ⟨by rfl, ?_⟩) ?_ ?_
    rotate_left
    · intro w'
      go_simp
      with_reducible rfl
    rotate_left
    · simp only [Act.put, List.setIfInBounds_toArray, List.set_cons_zero, List.set_cons_succ, i64_w, i32_w]
      rfl
    refine pure_ (i := 2) (N := some 13) (v := ?_) (a' := ?_) #[true, true, true, false, false, false, false, false, false, false, false, false, false, false, false, false] rfl rfl (by kernel_rfl) (fun _ _ _ h => h) (Or.inl ⟨by rfl, ?_⟩) ?_ ?_
    rotate_left
    · intro w'
      go_simp
      with_reducible rfl
    rotate_left
    · simp only [Act.put, List.setIfInBounds_toArray, List.set_cons_zero, List.set_cons_succ, i64_w, i32_w]
      rfl
    refine pure_ (i := 4) (N := some 15) (v := ?_) (a' := ?_) #[true, true, true, false, true, false, false, false, false, false, false, false, false, false, false, false] rfl rfl (by kernel_rfl) (fun _ _ _ h => h) (Or.inl ⟨by rfl, ?_⟩) ?_ ?_
    rotate_left
    · intro w'
      go_simp
      with_reducible rfl
    rotate_left
    · simp only [Act.put, List.setIfInBounds_toArray, List.set_cons_zero, List.set_cons_succ, i64_w, i32_w]
      rfl
    refine pure_ (i := 5) (N := some 16) (v := ?_) (a' := ?_) #[true, true, true, false, true, true, false, false, false, false, false, false, false, false, false, false] rfl rfl (by kernel_rfl) (fun _ _ _ h => h) (Or.inl ⟨by rfl, ?_⟩) ?_ ?_
    rotate_left
    · intro w'
      go_simp
      with_reducible rfl
    rotate_left
    · simp only [Act.put, List.setIfInBounds_toArray, List.set_cons_zero, List.set_cons_succ, i64_w, i32_w]
      rfl
    refine pure_ (i := 6) (N := some 17) (v := ?_) (a' := ?_) #[true, true, true, false, true, true, true, false, false, false, false, false, false, false, false, false] rfl rfl (by kernel_rfl) (fun _ _ _ h => h) (Or.inl ⟨by rfl, ?_⟩) ?_ ?_
    rotate_left
    · intro w'
      go_simp
      with_reducible rfl
    rotate_left
    · simp only [Act.put, List.setIfInBounds_toArray, List.set_cons_zero, List.set_cons_succ, i64_w, i32_w]
      rfl
    refine take_ (i := 3) (N := some 14) (v := ?_) (a' := ?_) #[true, true, true, true, true, true, true, false, false, false, false, false, false, false, false, false] rfl rfl (by kernel_rfl) (fun _ _ _ h => h) (Or.inl ⟨by rfl, ?_⟩) hHeld ?_ ?_
    rotate_left
    · rintro w' ⟨s0, s1⟩
      go_simp
      with_reducible rfl
    rotate_left
    · simp only [Act.put, List.setIfInBounds_toArray, List.set_cons_zero, List.set_cons_succ, i64_w, i32_w]
      rfl
    refine take_ (i := 7) (N := some 18) (v := ?_) (a' := ?_) #[true, true, true, true, true, true, true, true, false, false, false, false, false, false, false, false] rfl rfl (by kernel_rfl) (fun _ _ _ h => h) (Or.inl ⟨by rfl, ?_⟩) hHeld ?_ ?_
    rotate_left
    · rintro w' ⟨s0, s1⟩
      go_simp
      with_reducible rfl
    rotate_left
    · simp only [Act.put, List.setIfInBounds_toArray, List.set_cons_zero, List.set_cons_succ, i64_w, i32_w]
      rfl
    refine one_ (i := 8) (N := some 19) #[true, true, true, true, true, true, true, true, true, false, false, false, false, false, false, false] rfl rfl (by kernel_rfl) (by decide) (fun K hK => ?_)
    refine goes_ Try.func67 (by kernel_rfl) rfl #[.slice A m c, .int .i64 a] (by rfl) rfl rfl (by (try simp only [List.map_toArray, List.map_cons, List.map_nil]); first | done | rfl) ?_
    refine (wt.ruint1 HK.out (wt.rbytes HC.out HB.out FRd.out) HCC.out).mono ?_
    rintro e w2 ⟨rfl, hd⟩
    refine ⟨_, rfl, ?_⟩
    have B2 := Aside0.mk (Bd.out.below hd.below)
    have FR2 := Aside0.mk (FRd.out.trans (wt.Fr.of_below hd.below))
    have BL2 := Aside0.mk (below_then BLd.out BLd.out.size hd.below)
    clear hd
    refine hK.out _ _ ⟨B2.out.c0, B2.out.c1⟩ (fun hHeld => ?_)
    clear hK K
    refine norm_ (a' := ?_) ?_ ?_
    rotate_left
    · show Act.put _ (some 19) _ = _
      simp only [Act.put, List.setIfInBounds_toArray, List.set_cons_zero, List.set_cons_succ, i64_w, i32_w]
      rfl
    refine pure_ (i := 9) (N := some 10) (v := ?_) (a' := ?_) #[true, true, true, true, true, true, true, true, true, true, false, false, false, false, false, false] rfl rfl (by kernel_rfl) (fun _ _ _ h => h) (Or.inl ⟨by rfl, ?_⟩) ?_ ?_
    rotate_left
    · intro w'
      go_simp
      with_reducible rfl
    rotate_left
    · simp only [Act.put, List.setIfInBounds_toArray, List.set_cons_zero, List.set_cons_succ, i64_w, i32_w]
      rfl
    refine pure_ (i := 10) (N := some 20) (v := ?_) (a' := ?_) #[true, true, true, true, true, true, true, true, true, true, true, false, false, false, false, false] rfl rfl (by kernel_rfl) (fun _ _ _ h => h) (Or.inl ⟨by rfl, ?_⟩) ?_ ?_
    rotate_left
    · intro w'
      go_simp
      with_reducible rfl
    rotate_left
    · simp only [Act.put, List.setIfInBounds_toArray, List.set_cons_zero, List.set_cons_succ, i64_w, i32_w]
      rfl
    refine pure_ (i := 11) (N := some 21) (v := ?_) (a' := ?_) #[true, true, true, true, true, true, true, true, true, true, true, true, false, false, false, false] rfl rfl (by kernel_rfl) (fun _ _ _ h => h) (Or.inl ⟨by rfl, ?_⟩) ?_ ?_
    rotate_left
    · intro w'
      go_simp
      with_reducible rfl
    rotate_left
    · simp only [Act.put, List.setIfInBounds_toArray, List.set_cons_zero, List.set_cons_succ, i64_w, i32_w]
      rfl
    refine pure_ (i := 12) (N := some 22) (v := ?_) (a' := ?_) #[true, true, true, true, true, true, true, true, true, true, true, true, true, false, false, false] rfl rfl (by kernel_rfl) (fun _ _ _ h => h) (Or.inl ⟨by rfl, ?_⟩) ?_ ?_
    rotate_left
    · intro w'
      go_simp
      with_reducible rfl
    rotate_left
    · simp only [Act.put, List.setIfInBounds_toArray, List.set_cons_zero, List.set_cons_succ, i64_w, i32_w]
      rfl
    refine pure_ (i := 13) (N := some 7) (v := ?_) (a' := ?_) #[true, true, true, true, true, true, true, true, true, true, true, true, true, true, false, false] rfl rfl (by kernel_rfl) (fun _ _ _ h => h) (Or.inl ⟨by rfl, ?_⟩) ?_ ?_
    rotate_left
    · intro w'
      go_simp
      with_reducible rfl
    rotate_left
    · simp only [Act.put, List.setIfInBounds_toArray, List.set_cons_zero, List.set_cons_succ, i64_w, i32_w]
      rfl
    refine pure_ (i := 14) (N := some 8) (v := ?_) (a' := ?_) #[true, true, true, true, true, true, true, true, true, true, true, true, true, true, true, false] rfl rfl (by kernel_rfl) (fun _ _ _ h => h) (Or.inl ⟨by rfl, ?_⟩) ?_ ?_
    rotate_left
    · intro w'
      go_simp
      with_reducible rfl
    rotate_left
    · simp only [Act.put, List.setIfInBounds_toArray, List.set_cons_zero, List.set_cons_succ, i64_w, i32_w]
      rfl
    refine pure_ (i := 15) (N := some 9) (v := ?_) (a' := ?_) #[true, true, true, true, true, true, true, true, true, true, true, true, true, true, true, true] rfl rfl (by kernel_rfl) (fun _ _ _ h => h) (Or.inl ⟨by rfl, ?_⟩) ?_ ?_
    rotate_left
    · intro w'
      go_simp
      with_reducible rfl
    rotate_left
    · simp only [Act.put, List.setIfInBounds_toArray, List.set_cons_zero, List.set_cons_succ, i64_w, i32_w]
      rfl
    refine done_ (by kernel_rfl) ?_
    have h1 := B2.out.c1
    go_wp2_with (go_at_call 58; refine (wt.wrong1 BL2.out HGG.out B2.out 41 a).mono ?_; rintro e_ w3 ⟨rfl, hx⟩; have HX := Aside0.mk hx; clear hx)
    go_ret
    exact ⟨⟨0, rfl⟩, _, _, HX.out.blk, FR2.out.trans HX.out.fr, HX.out.bel⟩
  rw [if_neg he]
  have he0 : r3 = 0 := Classical.byContradiction he
  subst he0
  have hwd : wrap64 (2048 - wq) = 2048 - wq := by unfold wrap64; omega
  by_cases h2 : r1 > 2048
  · have hd : (2048 - wq) / times < r1 := by
      have : (2048 - wq) / times ≤ 2048 - wq := Int.ediv_le_self _ (by omega)
      omega
    rw [if_pos hd]
    have d1 : decide (r1 > 2048) = true := decide_eq_true h2
    have d2 : decide (2048 < r1) = true := decide_eq_true h2
    clear hK hr hB hC hc hb hg hU hR he hu ht hw h0 h1 hd h2
    go_enter Try.func61, Try.ntmps61
    go_wp2
    refine start_ (n := 16) (S := fun w' => w'.cell? ⟨g, 0, none⟩ = some (.slice A m c) ∧ w'.cell? ⟨g, 1, none⟩ = some (.int .i64 a)) (ds := []) #[false, false, false, false, false, false, false, false, false, false, false, false, false, false, false, false] (by kernel_rfl) rfl rfl ⟨(HB.out.below (below_drew (Below.refl _ _))).c0, (HB.out.below (below_drew (Below.refl _ _))).c1⟩ (fun hHeld => ?_)
    generalize hwd : w.drew = wd at hHeld ⊢
    have Bd := Aside0.mk (hwd ▸ HB.out.below (below_drew (Below.refl _ _)))
    have FRd := Aside0.mk (hwd ▸ wt.Fr.of_below (g := g) (below_drew (Below.refl _ _)))
    have BLd := Aside0.mk (hwd ▸ below_drew HBB.out)
    clear hwd
    refine pure_ (i := 0) (N := some 11) (v := ?_) (a' := ?_) #[true, false, false, false, false, false, false, false, false, false, false, false, false, false, false, false] rfl rfl (by kernel_rfl) (fun _ _ _ h => h) (Or.inl ⟨by rfl, ?_⟩) ?_ ?_
    rotate_left
    · intro w'
      go_simp
      with_reducible rfl
    rotate_left
    · simp only [Act.put, List.setIfInBounds_toArray, List.set_cons_zero, List.set_cons_succ, i64_w, i32_w]
      rfl
    refine pure_ (i := 1) (N := some 12) (v := ?_) (a' := ?_) #[true, true, false, false, false, false, false, false, false, false, false, false, false, false, false, false] rfl rfl (by kernel_rfl) (fun _ _ _ h => h) (Or.inl ⟨by rfl, ?_⟩) ?_ ?_
    rotate_left
    · intro w'
      go_simp
      with_reducible rfl
    rotate_left
    · simp only [Act.put, List.setIfInBounds_toArray, List.set_cons_zero, List.set_cons_succ, i64_w, i32_w]
      rfl
    refine pure_ (i := 2) (N := some 13) (v := ?_) (a' := ?_) #[true, true, true, false, false, false, false, false, false, false, false, false, false, false, false, false] rfl rfl (by kernel_rfl) (fun _ _ _ h => h) (Or.inl ⟨by rfl, ?_⟩) ?_ ?_
    rotate_left
    · intro w'
      go_simp
      with_reducible rfl
    rotate_left
    · simp only [Act.put, List.setIfInBounds_toArray, List.set_cons_zero, List.set_cons_succ, i64_w, i32_w]
      rfl
    refine pure_ (i := 4) (N := some 15) (v := ?_) (a' := ?_) #[true, true, true, false, true, false, false, false, false, false, false, false, false, false, false, false] rfl rfl (by kernel_rfl) (fun _ _ _ h => h) (Or.inl ⟨by rfl, ?_⟩) ?_ ?_
    rotate_left
    · intro w'
      go_simp
      with_reducible rfl
    rotate_left
    · simp only [Act.put, List.setIfInBounds_toArray, List.set_cons_zero, List.set_cons_succ, i64_w, i32_w]
      rfl
    refine pure_ (i := 5) (N := some 16) (v := ?_) (a' := ?_) #[true, true, true, false, true, true, false, false, false, false, false, false, false, false, false, false] rfl rfl (by kernel_rfl) (fun _ _ _ h => h) (Or.inl ⟨by rfl, ?_⟩) ?_ ?_
    rotate_left
    · intro w'
      go_simp
      with_reducible rfl
    rotate_left
    · simp only [Act.put, List.setIfInBounds_toArray, List.set_cons_zero, List.set_cons_succ, i64_w, i32_w]
      rfl
    refine pure_ (i := 6) (N := some 17) (v := ?_) (a' := ?_) #[true, true, true, false, true, true, true, false, false, false, false, false, false, false, false, false] rfl rfl (by kernel_rfl) (fun _ _ _ h => h) (Or.inl ⟨by rfl, ?_⟩) ?_ ?_
    rotate_left
    · intro w'
      go_simp
      with_reducible rfl
    rotate_left
    · simp only [Act.put, List.setIfInBounds_toArray, List.set_cons_zero, List.set_cons_succ, i64_w, i32_w]
      rfl
    refine take_ (i := 3) (N := some 14) (v := ?_) (a' := ?_) #[true, true, true, true, true, true, true, false, false, false, false, false, false, false, false, false] rfl rfl (by kernel_rfl) (fun _ _ _ h => h) (Or.inl ⟨by rfl, ?_⟩) hHeld ?_ ?_
    rotate_left
    · rintro w' ⟨s0, s1⟩
      go_simp
      with_reducible rfl
    rotate_left
    · simp only [Act.put, List.setIfInBounds_toArray, List.set_cons_zero, List.set_cons_succ, i64_w, i32_w]
      rfl
    refine take_ (i := 7) (N := some 18) (v := ?_) (a' := ?_) #[true, true, true, true, true, true, true, true, false, false, false, false, false, false, false, false] rfl rfl (by kernel_rfl) (fun _ _ _ h => h) (Or.inl ⟨by rfl, ?_⟩) hHeld ?_ ?_
    rotate_left
    · rintro w' ⟨s0, s1⟩
      go_simp
      with_reducible rfl
    rotate_left
    · simp only [Act.put, List.setIfInBounds_toArray, List.set_cons_zero, List.set_cons_succ, i64_w, i32_w]
      rfl
    refine one_ (i := 8) (N := some 19) #[true, true, true, true, true, true, true, true, true, false, false, false, false, false, false, false] rfl rfl (by kernel_rfl) (by decide) (fun K hK => ?_)
    refine goes_ Try.func67 (by kernel_rfl) rfl #[.slice A m c, .int .i64 a] (by rfl) rfl rfl (by (try simp only [List.map_toArray, List.map_cons, List.map_nil]); first | done | rfl) ?_
    refine (wt.ruint1 HK.out (wt.rbytes HC.out HB.out FRd.out) HCC.out).mono ?_
    rintro e w2 ⟨rfl, hd⟩
    refine ⟨_, rfl, ?_⟩
    have B2 := Aside0.mk (Bd.out.below hd.below)
    have FR2 := Aside0.mk (FRd.out.trans (wt.Fr.of_below hd.below))
    have BL2 := Aside0.mk (below_then BLd.out BLd.out.size hd.below)
    clear hd
    refine hK.out _ _ ⟨B2.out.c0, B2.out.c1⟩ (fun hHeld => ?_)
    clear hK K
    refine norm_ (a' := ?_) ?_ ?_
    rotate_left
    · show Act.put _ (some 19) _ = _
      simp only [Act.put, List.setIfInBounds_toArray, List.set_cons_zero, List.set_cons_succ, i64_w, i32_w]
      rfl
    refine pure_ (i := 9) (N := some 10) (v := ?_) (a' := ?_) #[true, true, true, true, true, true, true, true, true, true, false, false, false, false, false, false] rfl rfl (by kernel_rfl) (fun _ _ _ h => h) (Or.inl ⟨by rfl, ?_⟩) ?_ ?_
    rotate_left
    · intro w'
      go_simp
      with_reducible rfl
    rotate_left
    · simp only [Act.put, List.setIfInBounds_toArray, List.set_cons_zero, List.set_cons_succ, i64_w, i32_w]
      rfl
    refine pure_ (i := 10) (N := some 20) (v := ?_) (a' := ?_) #[true, true, true, true, true, true, true, true, true, true, true, false, false, false, false, false] rfl rfl (by kernel_rfl) (fun _ _ _ h => h) (Or.inl ⟨by rfl, ?_⟩) ?_ ?_
    rotate_left
    · intro w'
      go_simp
      with_reducible rfl
    rotate_left
    · simp only [Act.put, List.setIfInBounds_toArray, List.set_cons_zero, List.set_cons_succ, i64_w, i32_w]
      rfl
    refine pure_ (i := 11) (N := some 21) (v := ?_) (a' := ?_) #[true, true, true, true, true, true, true, true, true, true, true, true, false, false, false, false] rfl rfl (by kernel_rfl) (fun _ _ _ h => h) (Or.inl ⟨by rfl, ?_⟩) ?_ ?_
    rotate_left
    · intro w'
      go_simp
      with_reducible rfl
    rotate_left
    · simp only [Act.put, List.setIfInBounds_toArray, List.set_cons_zero, List.set_cons_succ, i64_w, i32_w]
      rfl
    refine pure_ (i := 12) (N := some 22) (v := ?_) (a' := ?_) #[true, true, true, true, true, true, true, true, true, true, true, true, true, false, false, false] rfl rfl (by kernel_rfl) (fun _ _ _ h => h) (Or.inl ⟨by rfl, ?_⟩) ?_ ?_
    rotate_left
    · intro w'
      go_simp
      with_reducible rfl
    rotate_left
    · simp only [Act.put, List.setIfInBounds_toArray, List.set_cons_zero, List.set_cons_succ, i64_w, i32_w]
      rfl
    refine pure_ (i := 13) (N := some 7) (v := ?_) (a' := ?_) #[true, true, true, true, true, true, true, true, true, true, true, true, true, true, false, false] rfl rfl (by kernel_rfl) (fun _ _ _ h => h) (Or.inl ⟨by rfl, ?_⟩) ?_ ?_
    rotate_left
    · intro w'
      go_simp
      with_reducible rfl
    rotate_left
    · simp only [Act.put, List.setIfInBounds_toArray, List.set_cons_zero, List.set_cons_succ, i64_w, i32_w]
      rfl
    refine pure_ (i := 14) (N := some 8) (v := ?_) (a' := ?_) #[true, true, true, true, true, true, true, true, true, true, true, true, true, true, true, false] rfl rfl (by kernel_rfl) (fun _ _ _ h => h) (Or.inl ⟨by rfl, ?_⟩) ?_ ?_
    rotate_left
    · intro w'
      go_simp
      with_reducible rfl
    rotate_left
    · simp only [Act.put, List.setIfInBounds_toArray, List.set_cons_zero, List.set_cons_succ, i64_w, i32_w]
      rfl
    refine pure_ (i := 15) (N := some 9) (v := ?_) (a' := ?_) #[true, true, true, true, true, true, true, true, true, true, true, true, true, true, true, true] rfl rfl (by kernel_rfl) (fun _ _ _ h => h) (Or.inl ⟨by rfl, ?_⟩) ?_ ?_
    rotate_left
    · intro w'
      go_simp
      with_reducible rfl
    rotate_left
    · simp only [Act.put, List.setIfInBounds_toArray, List.set_cons_zero, List.set_cons_succ, i64_w, i32_w]
      rfl
    refine done_ (by kernel_rfl) ?_
    have h1 := B2.out.c1
    go_wp2_with (go_at_call 58; refine (wt.wrong1 BL2.out HGG.out B2.out 42 tag).mono ?_; rintro e_ w3 ⟨rfl, hx⟩; have HX := Aside0.mk hx; clear hx)
    go_ret
    exact ⟨⟨0, rfl⟩, _, _, HX.out.blk, FR2.out.trans HX.out.fr, HX.out.bel⟩
  have d1 : decide (r1 > 2048) = false := decide_eq_false h2
  have d2 : decide (2048 < r1) = false := decide_eq_false h2
  have hcv : IntKind.i64.wrap r1 = r1 := by rw [IntKind.wrap_i64]; omega
  have htm : 0 ≤ times * r1 ∧ times * r1 ≤ 4096 := by
    rcases (show times = 1 ∨ times = 2 by omega) with rfl | rfl <;> omega
  have hmul : wrap64 (times * r1) = times * r1 := by unfold wrap64; omega
  have hiff : (2048 - wq) / times < r1 ↔ times * r1 > 2048 - wq := by
    rcases (show times = 1 ∨ times = 2 by omega) with rfl | rfl <;> omega
  by_cases h3 : times * r1 > 2048 - wq
  · rw [if_pos (hiff.2 h3)]
    have d4 : decide (times * r1 > 2048 - wq) = true := decide_eq_true h3
    have d5 : decide (2048 - wq < times * r1) = true := decide_eq_true h3
    clear hK hr hB hC hc hb hg hU hR he hu ht hw h0 h1 h2 htm hiff h3
    go_enter Try.func61, Try.ntmps61
    go_wp2
    refine start_ (n := 16) (S := fun w' => w'.cell? ⟨g, 0, none⟩ = some (.slice A m c) ∧ w'.cell? ⟨g, 1, none⟩ = some (.int .i64 a)) (ds := []) #[false, false, false, false, false, false, false, false, false, false, false, false, false, false, false, false] (by kernel_rfl) rfl rfl ⟨(HB.out.below (below_drew (Below.refl _ _))).c0, (HB.out.below (below_drew (Below.refl _ _))).c1⟩ (fun hHeld => ?_)
    generalize hwd : w.drew = wd at hHeld ⊢
    have Bd := Aside0.mk (hwd ▸ HB.out.below (below_drew (Below.refl _ _)))
    have FRd := Aside0.mk (hwd ▸ wt.Fr.of_below (g := g) (below_drew (Below.refl _ _)))
    have BLd := Aside0.mk (hwd ▸ below_drew HBB.out)
    clear hwd
    refine pure_ (i := 0) (N := some 11) (v := ?_) (a' := ?_) #[true, false, false, false, false, false, false, false, false, false, false, false, false, false, false, false] rfl rfl (by kernel_rfl) (fun _ _ _ h => h) (Or.inl ⟨by rfl, ?_⟩) ?_ ?_
    rotate_left
    · intro w'
      go_simp
      with_reducible rfl
    rotate_left
    · simp only [Act.put, List.setIfInBounds_toArray, List.set_cons_zero, List.set_cons_succ, i64_w, i32_w]
      rfl
    refine pure_ (i := 1) (N := some 12) (v := ?_) (a' := ?_) #[true, true, false, false, false, false, false, false, false, false, false, false, false, false, false, false] rfl rfl (by kernel_rfl) (fun _ _ _ h => h) (Or.inl ⟨by rfl, ?_⟩) ?_ ?_
    rotate_left
    · intro w'
      go_simp
      with_reducible rfl
    rotate_left
    · simp only [Act.put, List.setIfInBounds_toArray, List.set_cons_zero, List.set_cons_succ, i64_w, i32_w]
      rfl
    refine pure_ (i := 2) (N := some 13) (v := ?_) (a' := ?_) #[true, true, true, false, false, false, false, false, false, false, false, false, false, false, false, false] rfl rfl (by kernel_rfl) (fun _ _ _ h => h) (Or.inl ⟨by rfl, ?_⟩) ?_ ?_
    rotate_left
    · intro w'
      go_simp
      with_reducible rfl
    rotate_left
    · simp only [Act.put, List.setIfInBounds_toArray, List.set_cons_zero, List.set_cons_succ, i64_w, i32_w]
      rfl
    refine pure_ (i := 4) (N := some 15) (v := ?_) (a' := ?_) #[true, true, true, false, true, false, false, false, false, false, false, false, false, false, false, false] rfl rfl (by kernel_rfl) (fun _ _ _ h => h) (Or.inl ⟨by rfl, ?_⟩) ?_ ?_
    rotate_left
    · intro w'
      go_simp
      with_reducible rfl
    rotate_left
    · simp only [Act.put, List.setIfInBounds_toArray, List.set_cons_zero, List.set_cons_succ, i64_w, i32_w]
      rfl
    refine pure_ (i := 5) (N := some 16) (v := ?_) (a' := ?_) #[true, true, true, false, true, true, false, false, false, false, false, false, false, false, false, false] rfl rfl (by kernel_rfl) (fun _ _ _ h => h) (Or.inl ⟨by rfl, ?_⟩) ?_ ?_
    rotate_left
    · intro w'
      go_simp
      with_reducible rfl
    rotate_left
    · simp only [Act.put, List.setIfInBounds_toArray, List.set_cons_zero, List.set_cons_succ, i64_w, i32_w]
      rfl
    refine pure_ (i := 6) (N := some 17) (v := ?_) (a' := ?_) #[true, true, true, false, true, true, true, false, false, false, false, false, false, false, false, false] rfl rfl (by kernel_rfl) (fun _ _ _ h => h) (Or.inl ⟨by rfl, ?_⟩) ?_ ?_
    rotate_left
    · intro w'
      go_simp
      with_reducible rfl
    rotate_left
    · simp only [Act.put, List.setIfInBounds_toArray, List.set_cons_zero, List.set_cons_succ, i64_w, i32_w]
      rfl
    refine take_ (i := 3) (N := some 14) (v := ?_) (a' := ?_) #[true, true, true, true, true, true, true, false, false, false, false, false, false, false, false, false] rfl rfl (by kernel_rfl) (fun _ _ _ h => h) (Or.inl ⟨by rfl, ?_⟩) hHeld ?_ ?_
    rotate_left
    · rintro w' ⟨s0, s1⟩
      go_simp
      with_reducible rfl
    rotate_left
    · simp only [Act.put, List.setIfInBounds_toArray, List.set_cons_zero, List.set_cons_succ, i64_w, i32_w]
      rfl
    refine take_ (i := 7) (N := some 18) (v := ?_) (a' := ?_) #[true, true, true, true, true, true, true, true, false, false, false, false, false, false, false, false] rfl rfl (by kernel_rfl) (fun _ _ _ h => h) (Or.inl ⟨by rfl, ?_⟩) hHeld ?_ ?_
    rotate_left
    · rintro w' ⟨s0, s1⟩
      go_simp
      with_reducible rfl
    rotate_left
    · simp only [Act.put, List.setIfInBounds_toArray, List.set_cons_zero, List.set_cons_succ, i64_w, i32_w]
      rfl
    refine one_ (i := 8) (N := some 19) #[true, true, true, true, true, true, true, true, true, false, false, false, false, false, false, false] rfl rfl (by kernel_rfl) (by decide) (fun K hK => ?_)
    refine goes_ Try.func67 (by kernel_rfl) rfl #[.slice A m c, .int .i64 a] (by rfl) rfl rfl (by (try simp only [List.map_toArray, List.map_cons, List.map_nil]); first | done | rfl) ?_
    refine (wt.ruint1 HK.out (wt.rbytes HC.out HB.out FRd.out) HCC.out).mono ?_
    rintro e w2 ⟨rfl, hd⟩
    refine ⟨_, rfl, ?_⟩
    have B2 := Aside0.mk (Bd.out.below hd.below)
    have FR2 := Aside0.mk (FRd.out.trans (wt.Fr.of_below hd.below))
    have BL2 := Aside0.mk (below_then BLd.out BLd.out.size hd.below)
    clear hd
    refine hK.out _ _ ⟨B2.out.c0, B2.out.c1⟩ (fun hHeld => ?_)
    clear hK K
    refine norm_ (a' := ?_) ?_ ?_
    rotate_left
    · show Act.put _ (some 19) _ = _
      simp only [Act.put, List.setIfInBounds_toArray, List.set_cons_zero, List.set_cons_succ, i64_w, i32_w]
      rfl
    refine pure_ (i := 9) (N := some 10) (v := ?_) (a' := ?_) #[true, true, true, true, true, true, true, true, true, true, false, false, false, false, false, false] rfl rfl (by kernel_rfl) (fun _ _ _ h => h) (Or.inl ⟨by rfl, ?_⟩) ?_ ?_
    rotate_left
    · intro w'
      go_simp
      with_reducible rfl
    rotate_left
    · simp only [Act.put, List.setIfInBounds_toArray, List.set_cons_zero, List.set_cons_succ, i64_w, i32_w]
      rfl
    refine pure_ (i := 10) (N := some 20) (v := ?_) (a' := ?_) #[true, true, true, true, true, true, true, true, true, true, true, false, false, false, false, false] rfl rfl (by kernel_rfl) (fun _ _ _ h => h) (Or.inl ⟨by rfl, ?_⟩) ?_ ?_
    rotate_left
    · intro w'
      go_simp
      with_reducible rfl
    rotate_left
    · simp only [Act.put, List.setIfInBounds_toArray, List.set_cons_zero, List.set_cons_succ, i64_w, i32_w]
      rfl
    refine pure_ (i := 11) (N := some 21) (v := ?_) (a' := ?_) #[true, true, true, true, true, true, true, true, true, true, true, true, false, false, false, false] rfl rfl (by kernel_rfl) (fun _ _ _ h => h) (Or.inl ⟨by rfl, ?_⟩) ?_ ?_
    rotate_left
    · intro w'
      go_simp
      with_reducible rfl
    rotate_left
    · simp only [Act.put, List.setIfInBounds_toArray, List.set_cons_zero, List.set_cons_succ, i64_w, i32_w]
      rfl
    refine pure_ (i := 12) (N := some 22) (v := ?_) (a' := ?_) #[true, true, true, true, true, true, true, true, true, true, true, true, true, false, false, false] rfl rfl (by kernel_rfl) (fun _ _ _ h => h) (Or.inl ⟨by rfl, ?_⟩) ?_ ?_
    rotate_left
    · intro w'
      go_simp
      with_reducible rfl
    rotate_left
    · simp only [Act.put, List.setIfInBounds_toArray, List.set_cons_zero, List.set_cons_succ, i64_w, i32_w]
      rfl
    refine pure_ (i := 13) (N := some 7) (v := ?_) (a' := ?_) #[true, true, true, true, true, true, true, true, true, true, true, true, true, true, false, false] rfl rfl (by kernel_rfl) (fun _ _ _ h => h) (Or.inl ⟨by rfl, ?_⟩) ?_ ?_
    rotate_left
    · intro w'
      go_simp
      with_reducible rfl
    rotate_left
    · simp only [Act.put, List.setIfInBounds_toArray, List.set_cons_zero, List.set_cons_succ, i64_w, i32_w]
      rfl
    refine pure_ (i := 14) (N := some 8) (v := ?_) (a' := ?_) #[true, true, true, true, true, true, true, true, true, true, true, true, true, true, true, false] rfl rfl (by kernel_rfl) (fun _ _ _ h => h) (Or.inl ⟨by rfl, ?_⟩) ?_ ?_
    rotate_left
    · intro w'
      go_simp
      with_reducible rfl
    rotate_left
    · simp only [Act.put, List.setIfInBounds_toArray, List.set_cons_zero, List.set_cons_succ, i64_w, i32_w]
      rfl
    refine pure_ (i := 15) (N := some 9) (v := ?_) (a' := ?_) #[true, true, true, true, true, true, true, true, true, true, true, true, true, true, true, true] rfl rfl (by kernel_rfl) (fun _ _ _ h => h) (Or.inl ⟨by rfl, ?_⟩) ?_ ?_
    rotate_left
    · intro w'
      go_simp
      with_reducible rfl
    rotate_left
    · simp only [Act.put, List.setIfInBounds_toArray, List.set_cons_zero, List.set_cons_succ, i64_w, i32_w]
      rfl
    refine done_ (by kernel_rfl) ?_
    have h1 := B2.out.c1
    have h2 := B2.out.c2
    go_wp2_with (go_at_call 58; refine (wt.wrong1 BL2.out HGG.out B2.out 42 tag).mono ?_; rintro e_ w3 ⟨rfl, hx⟩; have HX := Aside0.mk hx; clear hx)
    go_ret
    exact ⟨⟨0, rfl⟩, _, _, HX.out.blk, FR2.out.trans HX.out.fr, HX.out.bel⟩
  · rw [if_neg (fun q => h3 (hiff.1 q))]
    have d4 : decide (times * r1 > 2048 - wq) = false := decide_eq_false h3
    have d5 : decide (2048 - wq < times * r1) = false := decide_eq_false h3
    clear hK hr hB hC hc hb hg hU hR he hu ht hw h0 h1 h2 htm hiff h3
    go_enter Try.func61, Try.ntmps61
    go_wp2
    refine start_ (n := 16) (S := fun w' => w'.cell? ⟨g, 0, none⟩ = some (.slice A m c) ∧ w'.cell? ⟨g, 1, none⟩ = some (.int .i64 a)) (ds := []) #[false, false, false, false, false, false, false, false, false, false, false, false, false, false, false, false] (by kernel_rfl) rfl rfl ⟨(HB.out.below (below_drew (Below.refl _ _))).c0, (HB.out.below (below_drew (Below.refl _ _))).c1⟩ (fun hHeld => ?_)
    generalize hwd : w.drew = wd at hHeld ⊢
    have Bd := Aside0.mk (hwd ▸ HB.out.below (below_drew (Below.refl _ _)))
    have FRd := Aside0.mk (hwd ▸ wt.Fr.of_below (g := g) (below_drew (Below.refl _ _)))
    have BLd := Aside0.mk (hwd ▸ below_drew HBB.out)
    clear hwd
    refine pure_ (i := 0) (N := some 11) (v := ?_) (a' := ?_) #[true, false, false, false, false, false, false, false, false, false, false, false, false, false, false, false] rfl rfl (by kernel_rfl) (fun _ _ _ h => h) (Or.inl ⟨by rfl, ?_⟩) ?_ ?_
    rotate_left
    · intro w'
      go_simp
      with_reducible rfl
    rotate_left
    · simp only [Act.put, List.setIfInBounds_toArray, List.set_cons_zero, List.set_cons_succ, i64_w, i32_w]
      rfl
    refine pure_ (i := 1) (N := some 12) (v := ?_) (a' := ?_) #[true, true, false, false, false, false, false, false, false, false, false, false, false, false, false, false] rfl rfl (by kernel_rfl) (fun _ _ _ h => h) (Or.inl ⟨by rfl, ?_⟩) ?_ ?_
    rotate_left
    · intro w'
      go_simp
      with_reducible rfl
    rotate_left
    · simp only [Act.put, List.setIfInBounds_toArray, List.set_cons_zero, List.set_cons_succ, i64_w, i32_w]
      rfl
    refine pure_ (i := 2) (N := some 13) (v := ?_) (a' := ?_) #[true, true, true, false, false, false, false, false, false, false, false, false, false, false, false, false] rfl rfl (by kernel_rfl) (fun _ _ _ h => h) (Or.inl ⟨by rfl, ?_⟩) ?_ ?_
    rotate_left
    · intro w'
      go_simp
      with_reducible rfl
    rotate_left
    · simp only [Act.put, List.setIfInBounds_toArray, List.set_cons_zero, List.set_cons_succ, i64_w, i32_w]
      rfl
    refine pure_ (i := 4) (N := some 15) (v := ?_) (a' := ?_) #[true, true, true, false, true, false, false, false, false, false, false, false, false, false, false, false] rfl rfl (by kernel_rfl) (fun _ _ _ h => h) (Or.inl ⟨by rfl, ?_⟩) ?_ ?_
    rotate_left
    · intro w'
      go_simp
      with_reducible rfl
    rotate_left
    · simp only [Act.put, List.setIfInBounds_toArray, List.set_cons_zero, List.set_cons_succ, i64_w, i32_w]
      rfl
    refine pure_ (i := 5) (N := some 16) (v := ?_) (a' := ?_) #[true, true, true, false, true, true, false, false, false, false, false, false, false, false, false, false] rfl rfl (by kernel_rfl) (fun _ _ _ h => h) (Or.inl ⟨by rfl, ?_⟩) ?_ ?_
    rotate_left
    · intro w'
      go_simp
      with_reducible rfl
    rotate_left
    · simp only [Act.put, List.setIfInBounds_toArray, List.set_cons_zero, List.set_cons_succ, i64_w, i32_w]
      rfl
    refine pure_ (i := 6) (N := some 17) (v := ?_) (a' := ?_) #[true, true, true, false, true, true, true, false, false, false, false, false, false, false, false, false] rfl rfl (by kernel_rfl) (fun _ _ _ h => h) (Or.inl ⟨by rfl, ?_⟩) ?_ ?_
    rotate_left
    · intro w'
      go_simp
      with_reducible rfl
    rotate_left
    · simp only [Act.put, List.setIfInBounds_toArray, List.set_cons_zero, List.set_cons_succ, i64_w, i32_w]
      rfl
    refine take_ (i := 3) (N := some 14) (v := ?_) (a' := ?_) #[true, true, true, true, true, true, true, false, false, false, false, false, false, false, false, false] rfl rfl (by kernel_rfl) (fun _ _ _ h => h) (Or.inl ⟨by rfl, ?_⟩) hHeld ?_ ?_
    rotate_left
    · rintro w' ⟨s0, s1⟩
      go_simp
      with_reducible rfl
    rotate_left
    · simp only [Act.put, List.setIfInBounds_toArray, List.set_cons_zero, List.set_cons_succ, i64_w, i32_w]
      rfl
    refine take_ (i := 7) (N := some 18) (v := ?_) (a' := ?_) #[true, true, true, true, true, true, true, true, false, false, false, false, false, false, false, false] rfl rfl (by kernel_rfl) (fun _ _ _ h => h) (Or.inl ⟨by rfl, ?_⟩) hHeld ?_ ?_
    rotate_left
    · rintro w' ⟨s0, s1⟩
      go_simp
      with_reducible rfl
    rotate_left
    · simp only [Act.put, List.setIfInBounds_toArray, List.set_cons_zero, List.set_cons_succ, i64_w, i32_w]
      rfl
    refine one_ (i := 8) (N := some 19) #[true, true, true, true, true, true, true, true, true, false, false, false, false, false, false, false] rfl rfl (by kernel_rfl) (by decide) (fun K hK => ?_)
    refine goes_ Try.func67 (by kernel_rfl) rfl #[.slice A m c, .int .i64 a] (by rfl) rfl rfl (by (try simp only [List.map_toArray, List.map_cons, List.map_nil]); first | done | rfl) ?_
    refine (wt.ruint1 HK.out (wt.rbytes HC.out HB.out FRd.out) HCC.out).mono ?_
    rintro e w2 ⟨rfl, hd⟩
    refine ⟨_, rfl, ?_⟩
    have B2 := Aside0.mk (Bd.out.below hd.below)
    have FR2 := Aside0.mk (FRd.out.trans (wt.Fr.of_below hd.below))
    have BL2 := Aside0.mk (below_then BLd.out BLd.out.size hd.below)
    clear hd
    refine hK.out _ _ ⟨B2.out.c0, B2.out.c1⟩ (fun hHeld => ?_)
    clear hK K
    refine norm_ (a' := ?_) ?_ ?_
    rotate_left
    · show Act.put _ (some 19) _ = _
      simp only [Act.put, List.setIfInBounds_toArray, List.set_cons_zero, List.set_cons_succ, i64_w, i32_w]
      rfl
    refine pure_ (i := 9) (N := some 10) (v := ?_) (a' := ?_) #[true, true, true, true, true, true, true, true, true, true, false, false, false, false, false, false] rfl rfl (by kernel_rfl) (fun _ _ _ h => h) (Or.inl ⟨by rfl, ?_⟩) ?_ ?_
    rotate_left
    · intro w'
      go_simp
      with_reducible rfl
    rotate_left
    · simp only [Act.put, List.setIfInBounds_toArray, List.set_cons_zero, List.set_cons_succ, i64_w, i32_w]
      rfl
    refine pure_ (i := 10) (N := some 20) (v := ?_) (a' := ?_) #[true, true, true, true, true, true, true, true, true, true, true, false, false, false, false, false] rfl rfl (by kernel_rfl) (fun _ _ _ h => h) (Or.inl ⟨by rfl, ?_⟩) ?_ ?_
    rotate_left
    · intro w'
      go_simp
      with_reducible rfl
    rotate_left
    · simp only [Act.put, List.setIfInBounds_toArray, List.set_cons_zero, List.set_cons_succ, i64_w, i32_w]
      rfl
    refine pure_ (i := 11) (N := some 21) (v := ?_) (a' := ?_) #[true, true, true, true, true, true, true, true, true, true, true, true, false, false, false, false] rfl rfl (by kernel_rfl) (fun _ _ _ h => h) (Or.inl ⟨by rfl, ?_⟩) ?_ ?_
    rotate_left
    · intro w'
      go_simp
      with_reducible rfl
    rotate_left
    · simp only [Act.put, List.setIfInBounds_toArray, List.set_cons_zero, List.set_cons_succ, i64_w, i32_w]
      rfl
    refine pure_ (i := 12) (N := some 22) (v := ?_) (a' := ?_) #[true, true, true, true, true, true, true, true, true, true, true, true, true, false, false, false] rfl rfl (by kernel_rfl) (fun _ _ _ h => h) (Or.inl ⟨by rfl, ?_⟩) ?_ ?_
    rotate_left
    · intro w'
      go_simp
      with_reducible rfl
    rotate_left
    · simp only [Act.put, List.setIfInBounds_toArray, List.set_cons_zero, List.set_cons_succ, i64_w, i32_w]
      rfl
    refine pure_ (i := 13) (N := some 7) (v := ?_) (a' := ?_) #[true, true, true, true, true, true, true, true, true, true, true, true, true, true, false, false] rfl rfl (by kernel_rfl) (fun _ _ _ h => h) (Or.inl ⟨by rfl, ?_⟩) ?_ ?_
    rotate_left
    · intro w'
      go_simp
      with_reducible rfl
    rotate_left
    · simp only [Act.put, List.setIfInBounds_toArray, List.set_cons_zero, List.set_cons_succ, i64_w, i32_w]
      rfl
    refine pure_ (i := 14) (N := some 8) (v := ?_) (a' := ?_) #[true, true, true, true, true, true, true, true, true, true, true, true, true, true, true, false] rfl rfl (by kernel_rfl) (fun _ _ _ h => h) (Or.inl ⟨by rfl, ?_⟩) ?_ ?_
    rotate_left
    · intro w'
      go_simp
      with_reducible rfl
    rotate_left
    · simp only [Act.put, List.setIfInBounds_toArray, List.set_cons_zero, List.set_cons_succ, i64_w, i32_w]
      rfl
    refine pure_ (i := 15) (N := some 9) (v := ?_) (a' := ?_) #[true, true, true, true, true, true, true, true, true, true, true, true, true, true, true, true] rfl rfl (by kernel_rfl) (fun _ _ _ h => h) (Or.inl ⟨by rfl, ?_⟩) ?_ ?_
    rotate_left
    · intro w'
      go_simp
      with_reducible rfl
    rotate_left
    · simp only [Act.put, List.setIfInBounds_toArray, List.set_cons_zero, List.set_cons_succ, i64_w, i32_w]
      rfl
    refine done_ (by kernel_rfl) ?_
    have h1 := B2.out.c1
    have h2 := B2.out.c2
    have f1 := B2.out.fz 1
    go_wp2
    go_ret
    exact ⟨rfl, by rw [show 2048 - (2048 - wq) = wq by omega]; exact B2.out.set1 _, FR2.out.trans (wt.Fr.set _ _ _ _), BL2.out.setCell HGG.out _⟩
/-- reader.key of the reference. -/
theorem wt.rkey1 {bs : List Int} {u i : Int → Int × Int × Int} (hU : wt.Uin bs u i) (hR : wt.Rin bs u i) {w0 w : World} {g : Nat} {A : Option Addr} {c : Nat} {a wq p : Int} (hb : Below w0.heap.size w0 w) (hg : w0.heap.size ≤ g) (hB : wt.RB w g A bs.length c a wq 0 p) (hC : (Kd.int .u8).C w A bs.length bs) (hc : bs.length ≤ c) (hw : 0 ≤ wq ∧ wq ≤ 2048) (ks : List ByteArray) (fb : Bool) (last : ByteArray) (hfb : fb = decide (ks.length = 0)) (hlast : 0 < ks.length → last = rdOf ByteArray.empty ks ((ks.length : Int) - 1)) :
    Calls Try.prog 62 #[.pointer (some ⟨g, 0, none⟩), .bool fb, .string last] w (wt.RGot (wt.keyS bs u ks a (2048 - wq)) (fun k => .string k) w0 w g A bs.length c p) := by
  have hu := (hU.R a)
  have hN := (hU.N a)
  have hL := hU.L
  obtain ⟨K, hK⟩ := hR.U
  have HK := Aside0.mk (hK a)
  unfold wt.keyS
  obtain ⟨r1, r2, r3, hr⟩ : ∃ r1 r2 r3, u a = (r1, r2, r3) := ⟨_, _, _, rfl⟩
  rw [hr] at HK hu hN ⊢
  dsimp only at hu hN ⊢
  have HB := Aside0.mk hB
  have HC := Aside0.mk hC
  have HCC := Aside0.mk hc
  have HBB := Aside0.mk hb
  have HGG := Aside0.mk hg
  have h0 := hB.c0
  have h1 := hB.c1
  by_cases he : r3 ≠ 0
  · rw [if_pos he]
    have d1 : (r3 != 0) = true := bne_iff_ne.2 he
    have d2 : (r3 == 0) = false := beq_eq_false_iff_ne.2 he
    have d3 : decide (r3 = 0) = false := decide_eq_false he
    clear hK hr hB hC hc hb hg hU hR he hu hw hN hL hfb hlast
    generalize bs.length = m at *
    go_enter Try.func62, Try.ntmps62
    go_wp2_with (first | (go_at_call 67; refine (wt.ruint1 HK.out HC.out HCC.out).mono ?_; rintro e_ w2 ⟨rfl, hd⟩; have B2 := Aside0.mk (HB.out.below hd.below); have FR2 := Aside0.mk (wt.Fr.of_below (g := g) hd.below); have BL2 := Aside0.mk (below_then HBB.out HBB.out.size hd.below); clear hd h0 h1; have h0 := B2.out.c0; have h1 := B2.out.c1) | (go_at_call 58; refine (wt.wrong1 BL2.out HGG.out B2.out 41 a).mono ?_; rintro e_ w3 ⟨rfl, hx⟩; have HX := Aside0.mk hx; clear hx))
    go_ret
    exact ⟨⟨_, rfl⟩, _, _, HX.out.blk, FR2.out.trans HX.out.fr, HX.out.bel⟩
  rw [if_neg he]
  have he0 : r3 = 0 := Classical.byContradiction he
  subst he0
  have hN := hN rfl
  by_cases h2 : r1 > 32
  · rw [if_pos h2]
    have d1 : decide (r1 > 32) = true := decide_eq_true h2
    have d2 : decide (32 < r1) = true := decide_eq_true h2
    clear hK hr hB hC hc hb hg hU hR he hu hw hN hL hfb hlast h2
    generalize bs.length = m at *
    go_enter Try.func62, Try.ntmps62
    go_wp2_with (first | (go_at_call 67; refine (wt.ruint1 HK.out HC.out HCC.out).mono ?_; rintro e_ w2 ⟨rfl, hd⟩; have B2 := Aside0.mk (HB.out.below hd.below); have FR2 := Aside0.mk (wt.Fr.of_below (g := g) hd.below); have BL2 := Aside0.mk (below_then HBB.out HBB.out.size hd.below); clear hd h0 h1; have h0 := B2.out.c0; have h1 := B2.out.c1; have f1 := B2.out.fz 1) | (go_at_call 58; refine (wt.wrong1 BL2.out HGG.out B2.out 41 a).mono ?_; rintro e_ w3 ⟨rfl, hx⟩; have HX := Aside0.mk hx; clear hx))
    go_ret
    exact ⟨⟨_, rfl⟩, _, _, HX.out.blk, FR2.out.trans HX.out.fr, HX.out.bel⟩
  rw [if_neg h2]
  have d1 : decide (r1 > 32) = false := decide_eq_false h2
  have d2 : decide (32 < r1) = false := decide_eq_false h2
  have hcv : IntKind.i64.wrap r1 = r1 := by rw [IntKind.wrap_i64]; omega
  have hsb : wrap64 ((bs.length : Int) - r2) = (bs.length : Int) - r2 := by unfold wrap64; omega
  by_cases h3 : r1 > (bs.length : Int) - r2
  · rw [if_pos h3]
    have d3 : decide (r1 > (bs.length : Int) - r2) = true := decide_eq_true h3
    have d4 : decide ((bs.length : Int) - r2 < r1) = true := decide_eq_true h3
    clear hK hr hB hC hc hb hg hU hR he hu hw hN hL hfb hlast h2 h3
    generalize bs.length = m at *
    go_enter Try.func62, Try.ntmps62
    go_wp2_with (first | (go_at_call 67; refine (wt.ruint1 HK.out HC.out HCC.out).mono ?_; rintro e_ w2 ⟨rfl, hd⟩; have B2 := Aside0.mk (HB.out.below hd.below); have FR2 := Aside0.mk (wt.Fr.of_below (g := g) hd.below); have BL2 := Aside0.mk (below_then HBB.out HBB.out.size hd.below); clear hd h0 h1; have h0 := B2.out.c0; have h1 := B2.out.c1; have f1 := B2.out.fz 1) | (go_at_call 58; refine (wt.wrong1 BL2.out HGG.out B2.out 41 a).mono ?_; rintro e_ w3 ⟨rfl, hx⟩; have HX := Aside0.mk hx; clear hx))
    go_ret
    exact ⟨⟨_, rfl⟩, _, _, HX.out.blk, FR2.out.trans HX.out.fr, HX.out.bel⟩
  rw [if_neg h3]
  have d3 : decide (r1 > (bs.length : Int) - r2) = false := decide_eq_false h3
  have d4 : decide ((bs.length : Int) - r2 < r1) = false := decide_eq_false h3
  have HUL := Aside0.mk hL
  obtain ⟨q2, rfl⟩ := Int.eq_ofNat_of_zero_le (show 0 ≤ r2 by omega)
  obtain ⟨q1, rfl⟩ := Int.eq_ofNat_of_zero_le (show 0 ≤ r1 by omega)
  have hs2 := trivial
  obtain ⟨i0, hi0, _, hsz0, _⟩ := info_parts info5
  have n1 : (q2 : Int) ≤ (q2 : Int) + (q1 : Int) := by omega
  have n2 : (q2 : Int) + (q1 : Int) ≤ (bs.length : Int) := by omega
  have n3 : q2 ≤ bs.length := by omega
  have n4 : q1 ≤ bs.length - q2 := by omega
  have n5 : q1 ≤ 32 := by omega
  have n0 : (0 : Int) ≤ (q2 : Int) := Int.natCast_nonneg q2
  clear hu hL hN hsb hs2 h3 h2 d1 d2 d3 d4 hcv
  have hcm := cut_mid (P := Try.prog) 26 5 .i64 .i64 Try.underlying26 hi0 1 hsz0 A bs.length c (q2 : Int) ((q2 : Int) + (q1 : Int)) n0 n1 n2 hc
  rw [Int.toNat_natCast, show ((q2 : Int) + (q1 : Int)).toNat - q2 = q1 by omega] at hcm
  rw [Int.toNat_natCast, Int.toNat_natCast]
  have hlen : ((bs.drop q2).take q1).length = q1 := by rw [List.length_take, List.length_drop]; omega
  have hC3 : ∀ W, Below w.heap.size w W → (Kd.int .u8).C W (if c = q2 then A else A.map (·.add (q2 * 1))) ((bs.drop q2).take q1).length ((bs.drop q2).take q1) := fun W hW => by
    have := Kd.C_take (m := q1) (Kd.C_drop (m := q2) (Kd.C_below hC hW) (by omega) hc) (by rw [List.length_drop]; omega)
    exact this
  have hC3 := Aside0.mk hC3
  generalize (if c = q2 then A else A.map (·.add (q2 * 1))) = A2 at hcm hC3
  generalize hc2 : c - q2 = c2 at hcm
  obtain ⟨k, hk⟩ : ∃ k, strOfNums ((bs.drop q2).take q1) = k := ⟨_, rfl⟩
  have hks : k.size ≤ 32 := by rw [← hk, wt.str_size, List.length_take]; omega
  have HST := Aside0.mk hk
  have HLEN := Aside0.mk hlen
  have HKS := Aside0.mk hks
  have HW := Aside0.mk hw
  have hs0 : wrap64 (1 + (k.size : Int)) = 1 + (k.size : Int) := by unfold wrap64; omega
  rw [hk]
  have hcv : IntKind.i64.wrap (q1 : Int) = (q1 : Int) := by rw [IntKind.wrap_i64]; omega
  have hsb : wrap64 ((bs.length : Int) - (q2 : Int)) = (bs.length : Int) - (q2 : Int) := by have := HUL.out; unfold wrap64; omega
  have hs2 : wrap64 ((q2 : Int) + (q1 : Int)) = (q2 : Int) + (q1 : Int) := by have := HUL.out; unfold wrap64; omega
  have d1 : decide ((q1 : Int) > 32) = false := decide_eq_false (by omega)
  have d2 : decide (32 < (q1 : Int)) = false := decide_eq_false (by omega)
  have d3 : decide ((q1 : Int) > (bs.length : Int) - (q2 : Int)) = false := decide_eq_false (by omega)
  have d4 : decide ((bs.length : Int) - (q2 : Int) < (q1 : Int)) = false := decide_eq_false (by omega)
  clear hK hr hB hC hb hg hU hR he hi0 hsz0 hlen hk hc2 n1 n2 n3 n4 n5 n0
  have STR := fun (w2 : World) (hd : Below w.heap.size w w2) => Kd.C_string (P := Try.prog) (A := A2) (c := c2) Try.underlying26 Try.underlying5 Try.underlying9 (hC3.out w2 hd)
  rw [HLEN.out, HST.out] at STR
  have STR := Aside0.mk STR
  by_cases hn : 0 < ks.length
  · have hfb2 : fb = false := by rw [hfb]; exact decide_eq_false (by omega)
    have hlast2 := hlast hn
    subst hfb2
    rw [← hlast2]
    clear hlast2 hlast hfb
    by_cases hlt : Op.bytesLess last.toList k.toList = true
    · rw [if_neg (fun h => h.2 hlt)]
      by_cases hv : 1 + (k.size : Int) > 2048 - wq
      · rw [if_pos hv]
        have HV := Aside0.mk (show 2048 < wq + (1 + (k.size : Int)) by omega)
        clear hv hn hw hc hks
        go_enter Try.func62, Try.ntmps62
        go_wp2_with (first | (go_at_call 67; refine (wt.ruint1 HK.out HC.out HCC.out).mono ?_; rintro e_ w2 ⟨rfl, hd⟩; have B2 := Aside0.mk (HB.out.below hd.below); have FR2 := Aside0.mk (wt.Fr.of_below (g := g) hd.below); have BL2 := Aside0.mk (below_then HBB.out HBB.out.size hd.below); have hst := STR.out w2 hd.below; clear hd h0 h1; have h0 := B2.out.c0; have h1 := B2.out.c1; have f1 := B2.out.fz 1) | (go_at_call 59; refine (wt.heavN (BL2.out.setCell HGG.out _) HGG.out (B2.out.set1 _) (1 + (k.size : Int)) a HW.out.2 (by have := HKS.out; omega) HV.out).mono ?_; rintro e_ w3 ⟨rfl, hx⟩; have HX := Aside0.mk hx; clear hx))
        go_ret
        obtain ⟨x1, x2, hx⟩ := HX.out
        exact ⟨⟨_, rfl⟩, x1, x2, hx.blk, (FR2.out.trans (wt.Fr.set _ _ _ _)).trans hx.fr, hx.bel⟩
      · rw [if_neg hv]
        have HV := Aside0.mk (show wq + (1 + (k.size : Int)) ≤ 2048 by omega)
        clear hv hn hw hc hks
        go_enter Try.func62, Try.ntmps62
        go_wp2_with (first | (go_at_call 67; refine (wt.ruint1 HK.out HC.out HCC.out).mono ?_; rintro e_ w2 ⟨rfl, hd⟩; have B2 := Aside0.mk (HB.out.below hd.below); have FR2 := Aside0.mk (wt.Fr.of_below (g := g) hd.below); have BL2 := Aside0.mk (below_then HBB.out HBB.out.size hd.below); have hst := STR.out w2 hd.below; clear hd h0 h1; have h0 := B2.out.c0; have h1 := B2.out.c1; have f1 := B2.out.fz 1) | (go_at_call 59; refine (wt.heavY (BL2.out.setCell HGG.out _) HGG.out (B2.out.set1 _) (1 + (k.size : Int)) a HW.out.1 (by omega) HV.out).mono ?_; rintro e_ w3 ⟨rfl, hx⟩; have HX := Aside0.mk hx; clear hx))
        go_ret
        exact ⟨rfl, by rw [show 2048 - (2048 - wq - (1 + (k.size : Int))) = wq + (1 + (k.size : Int)) by omega]; exact ⟨HX.out.blk, (FR2.out.trans (wt.Fr.set _ _ _ _)).trans HX.out.fr, HX.out.bel⟩⟩
    · rw [if_pos ⟨hn, hlt⟩]
      have hlf : Op.bytesLess last.toList k.toList = false := by simpa using hlt
      clear hlt hn hw hc hks
      go_enter Try.func62, Try.ntmps62
      go_wp2_with (first | (go_at_call 67; refine (wt.ruint1 HK.out HC.out HCC.out).mono ?_; rintro e_ w2 ⟨rfl, hd⟩; have B2 := Aside0.mk (HB.out.below hd.below); have FR2 := Aside0.mk (wt.Fr.of_below (g := g) hd.below); have BL2 := Aside0.mk (below_then HBB.out HBB.out.size hd.below); have hst := STR.out w2 hd.below; clear hd h0 h1; have h0 := B2.out.c0; have h1 := B2.out.c1; have f1 := B2.out.fz 1) | (go_at_call 58; refine (wt.wrong1 BL2.out HGG.out B2.out 41 a).mono ?_; rintro e_ w3 ⟨rfl, hx⟩; have HX := Aside0.mk hx; clear hx))
      go_ret
      exact ⟨⟨_, rfl⟩, _, _, HX.out.blk, FR2.out.trans HX.out.fr, HX.out.bel⟩
  · have hfb2 : fb = true := by rw [hfb]; exact decide_eq_true (by omega)
    subst hfb2
    rw [if_neg (fun h => hn h.1)]
    clear hlast hfb
    by_cases hv : 1 + (k.size : Int) > 2048 - wq
    · rw [if_pos hv]
      have HV := Aside0.mk (show 2048 < wq + (1 + (k.size : Int)) by omega)
      clear hv hn hw hc hks
      go_enter Try.func62, Try.ntmps62
      go_wp2_with (first | (go_at_call 67; refine (wt.ruint1 HK.out HC.out HCC.out).mono ?_; rintro e_ w2 ⟨rfl, hd⟩; have B2 := Aside0.mk (HB.out.below hd.below); have FR2 := Aside0.mk (wt.Fr.of_below (g := g) hd.below); have BL2 := Aside0.mk (below_then HBB.out HBB.out.size hd.below); have hst := STR.out w2 hd.below; clear hd h0 h1; have h0 := B2.out.c0; have h1 := B2.out.c1; have f1 := B2.out.fz 1) | (go_at_call 59; refine (wt.heavN (BL2.out.setCell HGG.out _) HGG.out (B2.out.set1 _) (1 + (k.size : Int)) a HW.out.2 (by have := HKS.out; omega) HV.out).mono ?_; rintro e_ w3 ⟨rfl, hx⟩; have HX := Aside0.mk hx; clear hx))
      go_ret
      obtain ⟨x1, x2, hx⟩ := HX.out
      exact ⟨⟨_, rfl⟩, x1, x2, hx.blk, (FR2.out.trans (wt.Fr.set _ _ _ _)).trans hx.fr, hx.bel⟩
    · rw [if_neg hv]
      have HV := Aside0.mk (show wq + (1 + (k.size : Int)) ≤ 2048 by omega)
      clear hv hn hw hc hks
      go_enter Try.func62, Try.ntmps62
      go_wp2_with (first | (go_at_call 67; refine (wt.ruint1 HK.out HC.out HCC.out).mono ?_; rintro e_ w2 ⟨rfl, hd⟩; have B2 := Aside0.mk (HB.out.below hd.below); have FR2 := Aside0.mk (wt.Fr.of_below (g := g) hd.below); have BL2 := Aside0.mk (below_then HBB.out HBB.out.size hd.below); have hst := STR.out w2 hd.below; clear hd h0 h1; have h0 := B2.out.c0; have h1 := B2.out.c1; have f1 := B2.out.fz 1) | (go_at_call 59; refine (wt.heavY (BL2.out.setCell HGG.out _) HGG.out (B2.out.set1 _) (1 + (k.size : Int)) a HW.out.1 (by omega) HV.out).mono ?_; rintro e_ w3 ⟨rfl, hx⟩; have HX := Aside0.mk hx; clear hx))
      go_ret
      exact ⟨rfl, by rw [show 2048 - (2048 - wq - (1 + (k.size : Int))) = wq + (1 + (k.size : Int)) by omega]; exact ⟨HX.out.blk, (FR2.out.trans (wt.Fr.set _ _ _ _)).trans HX.out.fr, HX.out.bel⟩⟩
end
end Go.Proofs.Ytnkbobblnhaclaa.X

/- Xxwref1: walks by hand, for the claim. -/
namespace Go.Proofs.Ytnkbobblnhaclaa.X
open Go.RowKit Go.Proofs.YtnkbobblnhaclaaW.PrintWords Go.Proofs.YtnkbobblnhaclaaW.PrintLast Go.Proofs.YtnkbobblnhaclaaW.PrintMore Go.Proofs.YtnkbobblnhaclaaW
section
set_option maxHeartbeats 4000000
set_option maxRecDepth 100000
/-- Behind a reading of a value by the reference. -/
def wt.RGotV (r : wt.R3 S25) (w0 w : World) (g : Nat) (A : Option Addr) (m c : Nat) (p : Int) (e : Ending) (w' : World) : Prop :=
  match r with
  | .ok x a' l' => (∃ v3 v4 : Value, e = .returned (.agg #[.int .i64 x.f0, .int .i64 x.f1, .string x.f2, v3, v4]) ∧ k25.R 25 w' w0.heap.size (fun k => w.heap.size ≤ k) v3 x.f3 ∧ Kd.string.R 9 w' w0.heap.size (fun k => w.heap.size ≤ k) v4 x.f4) ∧ wt.RNx w0 w w' g A m c a' (2048 - l') 0 p
  | .bad f q => (∃ (x : S25) (v3 v4 : Value), e = .returned (.agg #[.int .i64 x.f0, .int .i64 x.f1, .string x.f2, v3, v4]) ∧ k25.R 25 w' w0.heap.size (fun k => w.heap.size ≤ k) v3 x.f3 ∧ Kd.string.R 9 w' w0.heap.size (fun k => w.heap.size ≤ k) v4 x.f4) ∧ f ≠ 0 ∧ wt.RNb w0 w w' g A m c f q
structure wt.RLy (W : World) (g : Nat) (A : Option Addr) (m c : Nat) (a wq f p : Int) (pa : Addr) (b : Int) (rb : Nat) (cs : Array Value) : Prop where
  blk : wt.RB W g A m c a wq f p
  byt : W.cell? pa = some (.int .u8 b)
  res : W.heap[rb]? = some (.cells cs 25 (0, 0))
section
variable {W W1 : World} {g : Nat} {A : Option Addr} {m c : Nat} {a wq f p a' wq' f' p' : Int} {pa : Addr} {b : Int} {rb : Nat} {cs : Array Value}
theorem wt.RLy.below (h : wt.RLy W g A m c a wq f p pa b rb cs) (hb : Below W.heap.size W W1) : wt.RLy W1 g A m c a wq f p pa b rb cs :=
  ⟨h.blk.below hb, (hb.cell (World.block_lt_of_cell? W _ h.byt)).trans h.byt, blk_below h.res hb⟩
theorem wt.RB.res_ne (hB : wt.RB W g A m c a wq f p) (hr : W.heap[rb]? = some (.cells cs 25 (0, 0))) : rb ≠ g := by
  rintro rfl
  have hB' : W.heap[rb]? = some (.cells #[.slice A m c, .int .i64 a, .int .i64 wq, .int .i64 f, .int .i64 p] 62 (0, 0)) := hB
  rw [hB'] at hr
  injection hr with hr
  injection hr with _ hr
  exact absurd hr (by decide)
theorem wt.RLy.ne (h : wt.RLy W g A m c a wq f p pa b rb cs) : pa.block ≠ g ∧ rb ≠ g := by
  refine ⟨fun e1 => ?_, h.blk.res_ne h.res⟩
  have h4 := h.byt
  unfold World.cell? at h4
  rw [e1] at h4
  have hB' : W.heap[g]? = some (.cells #[.slice A m c, .int .i64 a, .int .i64 wq, .int .i64 f, .int .i64 p] 62 (0, 0)) := h.blk
  rw [hB'] at h4
  simp only at h4
  split at h4
  · cases h4
  · generalize pa.off = o at h4
    match o, h4 with
    | 0, h4 => simp at h4
    | 1, h4 => simp at h4
    | 2, h4 => simp at h4
    | 3, h4 => simp at h4
    | 4, h4 => simp at h4
    | o + 5, h4 => simp at h4
theorem wt.RLy.fr (h : wt.RLy W g A m c a wq f p pa b rb cs) (hF : wt.Fr g W W1) (hB : wt.RB W1 g A m c a' wq' f' p') : wt.RLy W1 g A m c a' wq' f' p' pa b rb cs := by
  have hlt := World.block_lt_of_cell? W _ h.byt
  have h6 := hF.2 _ hlt h.ne.1
  exact ⟨hB, by rw [← h.byt]; simp [World.cell?, h6], (hF.2 _ (blk_lt h.res) h.ne.2).trans h.res⟩
theorem wt.fin_rnx {w0 w W5 : World} (hF : wt.Fr g w W) (hB : wt.RB W g A m c a wq f p) (hne : rb ≠ g) (hG : W.grownBy W5 (some rb)) (hrb : w.heap.size ≤ rb) (hsz : w0.heap.size ≤ w.heap.size) (hb : Below w0.heap.size w0 W) : wt.RNx w0 w W5 g A m c a wq f p :=
  ⟨(hG.block g (blk_lt hB) (fun e => hne (Option.some.inj e).symm)).trans hB,
   ⟨Nat.le_trans hF.1 hG.size, fun k hk hne2 => (hG.block k (Nat.lt_of_lt_of_le hk hF.1) (fun e => absurd (Option.some.inj e) (by omega))).trans (hF.2 k hk hne2)⟩,
   ⟨hG.os.trans hb.os, hG.tape.trans hb.tape, hG.output.trans hb.output, Nat.le_trans hb.size hG.size, fun k hk => (hG.block k (by have := hb.size; omega) (fun e => absurd (Option.some.inj e) (by omega))).trans (hb.block k hk)⟩⟩
end
theorem wt.rv_b1 {bs : List Int} {u i : Int → Int × Int × Int} (hU : wt.Uin bs u i) (hR : wt.Rin bs u i) {w0 w : World} {g : Nat} {A : Option Addr} {c : Nat} {a wq p : Int} (hb : Below w0.heap.size w0 w) (hg : w0.heap.size ≤ g) (hB : wt.RB w g A bs.length c a wq 0 p) (hC : (Kd.int .u8).C w A bs.length bs) (hc : bs.length ≤ c) (within : Int) (ha1 : a = (bs.length : Int)) :
    Calls Try.prog 40 #[.pointer (some ⟨g, 0, none⟩), .int .i64 within] w (wt.RGotV (.bad 41 a) w0 w g A bs.length c p) := by
  have HB := Aside0.mk hB
  have HC := Aside0.mk hC
  have HCC := Aside0.mk hc
  have HBB := Aside0.mk hb
  have HGG := Aside0.mk hg
  have HLL := Aside0.mk hU.L
  have HUU := Aside0.mk hU
  have HRR := Aside0.mk hR
  have HGL := Aside0.mk (show g < w.heap.size from blk_lt hB)
  have hu25 := Try.underlying25
  have HBW := Aside0.mk ((Below.refl w.heap.size w).alloc (Nat.le_refl _) (.cells #[.int .i64 0, .int .i64 0, .string ⟨#[]⟩, .slice none 0 0, .slice none 0 0] 25))
  have BL1 := Aside0.mk (hb.alloc hb.size (.cells #[.int .i64 0, .int .i64 0, .string ⟨#[]⟩, .slice none 0 0, .slice none 0 0] 25))
  have t0 : decide (a ≥ (bs.length : Int)) = true := decide_eq_true (by omega)
  have t1 : decide ((bs.length : Int) ≤ a) = true := decide_eq_true (by omega)
  have B1 := Aside0.mk (HB.out.below HBW.out)
  have S1 := Aside0.mk (show (w.alloc (.cells #[.int .i64 0, .int .i64 0, .string ⟨#[]⟩, .slice none 0 0, .slice none 0 0] 25)).heap[w.heap.size]? = some (.cells #[.int .i64 0, .int .i64 0, .string ⟨#[]⟩, .slice none 0 0, .slice none 0 0] 25 (0, 0)) by simpa using heap_alloc_new w _)
  have h0 := B1.out.c0; have h1 := B1.out.c1
  clear ha1
  clear hU hR hb hg hB hC hc
  generalize bs.length = m at *
  go_enter Try.func40, Try.ntmps40
  go_wp2_with (first | (go_at_call 58; refine (wt.wrong1 BL1.out HGG.out B1.out 41 a).mono ?_; rintro e_ w3 ⟨rfl, hx⟩; have HX := Aside0.mk hx; have S3 := Aside0.mk ((HX.out.fr.2 _ (blk_lt S1.out) (B1.out.res_ne S1.out)).trans S1.out); clear hx h0 h1) | ((with_reducible refine gate_store (p := 4) rfl ?_); refine wt.store_res rfl rfl 4 _ rfl w.heap.size rfl (.int .i64 0) (.int .i64 0) (.string ⟨#[]⟩) (.slice none 0 0) (.slice none 0 0) rfl (fun q hq => by simp at hq; rcases hq with rfl | rfl | rfl | rfl | rfl <;> rfl) _ rfl S3.out ?_; intro w5_ hres hgr; have HRES := Aside0.mk hres; have HGR := Aside0.mk hgr; clear hgr hres))
  go_wp2
  refine bodyPost_ret (results_cell_row rfl _ _ w.heap.size 25 _ (0, 0) _ rfl HRES.out Try.underlying25 rfl (by kernel_rfl)) rfl ?_
  exact ⟨⟨⟨0, 0, ⟨#[]⟩, [], []⟩, _, _, rfl, Kd.R_nil _ _ _ _ _, Kd.R_nil _ _ _ _ _⟩, by decide, _, _, wt.fin_rnx ((wt.Fr.of_below HBW.out).trans HX.out.fr) HX.out.blk (B1.out.res_ne S1.out) HGR.out (Nat.le_refl _) HBB.out.size HX.out.bel⟩
theorem wt.rv_b2 {bs : List Int} {u i : Int → Int × Int × Int} (hU : wt.Uin bs u i) (hR : wt.Rin bs u i) {w0 w : World} {g : Nat} {A : Option Addr} {c : Nat} {a wq p : Int} (hb : Below w0.heap.size w0 w) (hg : w0.heap.size ≤ g) (hB : wt.RB w g A bs.length c a wq 0 p) (hC : (Kd.int .u8).C w A bs.length bs) (hc : bs.length ≤ c) (within : Int) (ha0 : 0 ≤ a) (ha1 : a < (bs.length : Int)) (hx : rd bs a > 6) :
    Calls Try.prog 40 #[.pointer (some ⟨g, 0, none⟩), .int .i64 within] w (wt.RGotV (.bad 41 a) w0 w g A bs.length c p) := by
  have HB := Aside0.mk hB
  have HC := Aside0.mk hC
  have HCC := Aside0.mk hc
  have HBB := Aside0.mk hb
  have HGG := Aside0.mk hg
  have HLL := Aside0.mk hU.L
  have HUU := Aside0.mk hU
  have HRR := Aside0.mk hR
  have HGL := Aside0.mk (show g < w.heap.size from blk_lt hB)
  have hu25 := Try.underlying25
  have HBW := Aside0.mk ((Below.refl w.heap.size w).alloc (Nat.le_refl _) (.cells #[.int .i64 0, .int .i64 0, .string ⟨#[]⟩, .slice none 0 0, .slice none 0 0] 25))
  have BL1 := Aside0.mk (hb.alloc hb.size (.cells #[.int .i64 0, .int .i64 0, .string ⟨#[]⟩, .slice none 0 0, .slice none 0 0] 25))
  obtain ⟨a, rfl⟩ := Int.eq_ofNat_of_zero_le ha0
  have t0 : decide ((a : Int) ≥ (bs.length : Int)) = false := decide_eq_false (by omega)
  have t1 : decide ((bs.length : Int) ≤ (a : Int)) = false := decide_eq_false (by omega)
  have t2 : decide (bs.length ≤ a) = false := decide_eq_false (by omega)
  have t3 : (a : Int) < (bs.length : Int) := ha1
  have t4 : a < bs.length := by omega
  have t5 : decide (a < bs.length) = true := decide_eq_true t4
  obtain ⟨ad, hA, hx0_⟩ := Kd.at_int hC (a : Int) (by omega) ha1
  subst hA
  rw [Int.toNat_natCast] at hx0_
  obtain ⟨x, hxd⟩ : ∃ x, rd bs (a : Int) = x := ⟨_, rfl⟩
  rw [hxd] at hx0_ hx
  have L1 := Aside0.mk (show wt.RLy (w.alloc (.cells #[.int .i64 0, .int .i64 0, .string ⟨#[]⟩, .slice none 0 0, .slice none 0 0] 25)) g (some ad) bs.length c (a : Int) wq 0 p (ad.add a) x w.heap.size #[.int .i64 0, .int .i64 0, .string ⟨#[]⟩, .slice none 0 0, .slice none 0 0] from ⟨HB.out.below HBW.out, (HBW.out.cell (World.block_lt_of_cell? w _ hx0_)).trans hx0_, by simpa using heap_alloc_new w _⟩)
  clear hx0_ hxd
  have x1 : decide (x > 6) = true := decide_eq_true hx
  have x2 : decide (6 < x) = true := decide_eq_true hx
  clear hx
  have h0 := L1.out.blk.c0; have h1 := L1.out.blk.c1; have h2 := L1.out.blk.c2; have h3 := L1.out.blk.c3; have f1 := L1.out.blk.fz 1; have f2 := L1.out.blk.fz 2; have hx0 := L1.out.byt; have fr_ := blk_frozen L1.out.res 0
  clear ha1 ha0
  clear hU hR hb hg hB hC hc
  generalize bs.length = m at *
  go_enter Try.func40, Try.ntmps40
  go_wp2_with (first | (go_at_call 58; refine (wt.wrong1 BL1.out HGG.out L1.out.blk 41 (a : Int)).mono ?_; rintro e_ w3 ⟨rfl, hx⟩; have HX := Aside0.mk hx; have LX := Aside0.mk (L1.out.fr HX.out.fr HX.out.blk); clear hx; clear h0 h1 h2 h3 f1 f2 hx0 fr_; have h0 := LX.out.blk.c0; have h1 := LX.out.blk.c1; have h2 := LX.out.blk.c2; have h3 := LX.out.blk.c3; have f1 := LX.out.blk.fz 1; have f2 := LX.out.blk.fz 2; have hx0 := LX.out.byt; have fr_ := blk_frozen LX.out.res 0) | ((with_reducible refine gate_store (p := 4) rfl ?_); refine wt.store_res rfl rfl 4 _ rfl w.heap.size rfl (.int .i64 0) (.int .i64 0) (.string ⟨#[]⟩) (.slice none 0 0) (.slice none 0 0) rfl (fun q hq => by simp at hq; rcases hq with rfl | rfl | rfl | rfl | rfl <;> rfl) _ rfl LX.out.res ?_; intro w5_ hres hgr; have HRES := Aside0.mk hres; have HGR := Aside0.mk hgr; clear hgr hres))
  go_wp2
  refine bodyPost_ret (results_cell_row rfl _ _ w.heap.size 25 _ (0, 0) _ rfl HRES.out Try.underlying25 rfl (by kernel_rfl)) rfl ?_
  exact ⟨⟨⟨0, 0, ⟨#[]⟩, [], []⟩, _, _, rfl, Kd.R_nil _ _ _ _ _, Kd.R_nil _ _ _ _ _⟩, by decide, _, _, wt.fin_rnx ((wt.Fr.of_below HBW.out).trans HX.out.fr) HX.out.blk L1.out.ne.2 HGR.out (Nat.le_refl _) HBB.out.size HX.out.bel⟩
theorem wt.rv_bd {bs : List Int} {u i : Int → Int × Int × Int} (hU : wt.Uin bs u i) (hR : wt.Rin bs u i) {w0 w : World} {g : Nat} {A : Option Addr} {c : Nat} {a wq p : Int} (hb : Below w0.heap.size w0 w) (hg : w0.heap.size ≤ g) (hB : wt.RB w g A bs.length c a wq 0 p) (hC : (Kd.int .u8).C w A bs.length bs) (hc : bs.length ≤ c) (within : Int) (ha0 : 0 ≤ a) (ha1 : a < (bs.length : Int)) (hx : rd bs a ≤ 6) (hw : 8 ≤ within) :
    Calls Try.prog 40 #[.pointer (some ⟨g, 0, none⟩), .int .i64 within] w (wt.RGotV (.bad 42 a) w0 w g A bs.length c p) := by
  have HB := Aside0.mk hB
  have HC := Aside0.mk hC
  have HCC := Aside0.mk hc
  have HBB := Aside0.mk hb
  have HGG := Aside0.mk hg
  have HLL := Aside0.mk hU.L
  have HUU := Aside0.mk hU
  have HRR := Aside0.mk hR
  have HGL := Aside0.mk (show g < w.heap.size from blk_lt hB)
  have hu25 := Try.underlying25
  have HBW := Aside0.mk ((Below.refl w.heap.size w).alloc (Nat.le_refl _) (.cells #[.int .i64 0, .int .i64 0, .string ⟨#[]⟩, .slice none 0 0, .slice none 0 0] 25))
  have BL1 := Aside0.mk (hb.alloc hb.size (.cells #[.int .i64 0, .int .i64 0, .string ⟨#[]⟩, .slice none 0 0, .slice none 0 0] 25))
  obtain ⟨a, rfl⟩ := Int.eq_ofNat_of_zero_le ha0
  have t0 : decide ((a : Int) ≥ (bs.length : Int)) = false := decide_eq_false (by omega)
  have t1 : decide ((bs.length : Int) ≤ (a : Int)) = false := decide_eq_false (by omega)
  have t2 : decide (bs.length ≤ a) = false := decide_eq_false (by omega)
  have t3 : (a : Int) < (bs.length : Int) := ha1
  have t4 : a < bs.length := by omega
  have t5 : decide (a < bs.length) = true := decide_eq_true t4
  obtain ⟨ad, hA, hx0_⟩ := Kd.at_int hC (a : Int) (by omega) ha1
  subst hA
  rw [Int.toNat_natCast] at hx0_
  obtain ⟨x, hxd⟩ : ∃ x, rd bs (a : Int) = x := ⟨_, rfl⟩
  rw [hxd] at hx0_ hx
  have L1 := Aside0.mk (show wt.RLy (w.alloc (.cells #[.int .i64 0, .int .i64 0, .string ⟨#[]⟩, .slice none 0 0, .slice none 0 0] 25)) g (some ad) bs.length c (a : Int) wq 0 p (ad.add a) x w.heap.size #[.int .i64 0, .int .i64 0, .string ⟨#[]⟩, .slice none 0 0, .slice none 0 0] from ⟨HB.out.below HBW.out, (HBW.out.cell (World.block_lt_of_cell? w _ hx0_)).trans hx0_, by simpa using heap_alloc_new w _⟩)
  clear hx0_ hxd
  have x1 : decide (x > 6) = false := decide_eq_false (by omega)
  have x2 : decide (6 < x) = false := decide_eq_false (by omega)
  have w1 : decide (within ≥ 8) = true := decide_eq_true hw
  have w2 : decide (8 ≤ within) = true := decide_eq_true hw
  clear hx hw
  have h0 := L1.out.blk.c0; have h1 := L1.out.blk.c1; have h2 := L1.out.blk.c2; have h3 := L1.out.blk.c3; have f1 := L1.out.blk.fz 1; have f2 := L1.out.blk.fz 2; have hx0 := L1.out.byt; have fr_ := blk_frozen L1.out.res 0
  clear ha1 ha0
  clear hU hR hb hg hB hC hc
  generalize bs.length = m at *
  go_enter Try.func40, Try.ntmps40
  go_wp2_with (first | (go_at_call 58; refine (wt.wrong1 BL1.out HGG.out L1.out.blk 42 (a : Int)).mono ?_; rintro e_ w3 ⟨rfl, hx⟩; have HX := Aside0.mk hx; have LX := Aside0.mk (L1.out.fr HX.out.fr HX.out.blk); clear hx; clear h0 h1 h2 h3 f1 f2 hx0 fr_; have h0 := LX.out.blk.c0; have h1 := LX.out.blk.c1; have h2 := LX.out.blk.c2; have h3 := LX.out.blk.c3; have f1 := LX.out.blk.fz 1; have f2 := LX.out.blk.fz 2; have hx0 := LX.out.byt; have fr_ := blk_frozen LX.out.res 0) | ((with_reducible refine gate_store (p := 4) rfl ?_); refine wt.store_res rfl rfl 4 _ rfl w.heap.size rfl (.int .i64 0) (.int .i64 0) (.string ⟨#[]⟩) (.slice none 0 0) (.slice none 0 0) rfl (fun q hq => by simp at hq; rcases hq with rfl | rfl | rfl | rfl | rfl <;> rfl) _ rfl LX.out.res ?_; intro w5_ hres hgr; have HRES := Aside0.mk hres; have HGR := Aside0.mk hgr; clear hgr hres))
  go_wp2
  refine bodyPost_ret (results_cell_row rfl _ _ w.heap.size 25 _ (0, 0) _ rfl HRES.out Try.underlying25 rfl (by kernel_rfl)) rfl ?_
  exact ⟨⟨⟨0, 0, ⟨#[]⟩, [], []⟩, _, _, rfl, Kd.R_nil _ _ _ _ _, Kd.R_nil _ _ _ _ _⟩, by decide, _, _, wt.fin_rnx ((wt.Fr.of_below HBW.out).trans HX.out.fr) HX.out.blk L1.out.ne.2 HGR.out (Nat.le_refl _) HBB.out.size HX.out.bel⟩
theorem wt.rv_bw {bs : List Int} {u i : Int → Int × Int × Int} (hU : wt.Uin bs u i) (hR : wt.Rin bs u i) {w0 w : World} {g : Nat} {A : Option Addr} {c : Nat} {a wq p : Int} (hb : Below w0.heap.size w0 w) (hg : w0.heap.size ≤ g) (hB : wt.RB w g A bs.length c a wq 0 p) (hC : (Kd.int .u8).C w A bs.length bs) (hc : bs.length ≤ c) (within : Int) (ha0 : 0 ≤ a) (ha1 : a < (bs.length : Int)) (hx : rd bs a ≤ 6) (hw : within < 8) (hwq : wq ≤ 2048) (hwv : 2048 < wq + 1) :
    Calls Try.prog 40 #[.pointer (some ⟨g, 0, none⟩), .int .i64 within] w (wt.RGotV (.bad 42 a) w0 w g A bs.length c p) := by
  have HB := Aside0.mk hB
  have HC := Aside0.mk hC
  have HCC := Aside0.mk hc
  have HBB := Aside0.mk hb
  have HGG := Aside0.mk hg
  have HLL := Aside0.mk hU.L
  have HUU := Aside0.mk hU
  have HRR := Aside0.mk hR
  have HGL := Aside0.mk (show g < w.heap.size from blk_lt hB)
  have hu25 := Try.underlying25
  have HBW := Aside0.mk ((Below.refl w.heap.size w).alloc (Nat.le_refl _) (.cells #[.int .i64 0, .int .i64 0, .string ⟨#[]⟩, .slice none 0 0, .slice none 0 0] 25))
  have BL1 := Aside0.mk (hb.alloc hb.size (.cells #[.int .i64 0, .int .i64 0, .string ⟨#[]⟩, .slice none 0 0, .slice none 0 0] 25))
  obtain ⟨a, rfl⟩ := Int.eq_ofNat_of_zero_le ha0
  have t0 : decide ((a : Int) ≥ (bs.length : Int)) = false := decide_eq_false (by omega)
  have t1 : decide ((bs.length : Int) ≤ (a : Int)) = false := decide_eq_false (by omega)
  have t2 : decide (bs.length ≤ a) = false := decide_eq_false (by omega)
  have t3 : (a : Int) < (bs.length : Int) := ha1
  have t4 : a < bs.length := by omega
  have t5 : decide (a < bs.length) = true := decide_eq_true t4
  obtain ⟨ad, hA, hx0_⟩ := Kd.at_int hC (a : Int) (by omega) ha1
  subst hA
  rw [Int.toNat_natCast] at hx0_
  obtain ⟨x, hxd⟩ : ∃ x, rd bs (a : Int) = x := ⟨_, rfl⟩
  rw [hxd] at hx0_ hx
  have L1 := Aside0.mk (show wt.RLy (w.alloc (.cells #[.int .i64 0, .int .i64 0, .string ⟨#[]⟩, .slice none 0 0, .slice none 0 0] 25)) g (some ad) bs.length c (a : Int) wq 0 p (ad.add a) x w.heap.size #[.int .i64 0, .int .i64 0, .string ⟨#[]⟩, .slice none 0 0, .slice none 0 0] from ⟨HB.out.below HBW.out, (HBW.out.cell (World.block_lt_of_cell? w _ hx0_)).trans hx0_, by simpa using heap_alloc_new w _⟩)
  clear hx0_ hxd
  have x1 : decide (x > 6) = false := decide_eq_false (by omega)
  have x2 : decide (6 < x) = false := decide_eq_false (by omega)
  have w1 : decide (within ≥ 8) = false := decide_eq_false (by omega)
  have w2 : decide (8 ≤ within) = false := decide_eq_false (by omega)
  have HWQ := Aside0.mk (And.intro hwq hwv)
  clear hx hw hwq hwv
  have h0 := L1.out.blk.c0; have h1 := L1.out.blk.c1; have h2 := L1.out.blk.c2; have h3 := L1.out.blk.c3; have f1 := L1.out.blk.fz 1; have f2 := L1.out.blk.fz 2; have hx0 := L1.out.byt; have fr_ := blk_frozen L1.out.res 0
  clear ha1 ha0
  clear hU hR hb hg hB hC hc
  generalize bs.length = m at *
  go_enter Try.func40, Try.ntmps40
  go_wp2_with (first | (go_at_call 59; refine (wt.heavN BL1.out HGG.out L1.out.blk 1 (a : Int) HWQ.out.1 (by omega) HWQ.out.2).mono ?_; rintro e_ w3 ⟨rfl, b1, b2, hx⟩; have HX := Aside0.mk hx; have LX := Aside0.mk (L1.out.fr HX.out.fr HX.out.blk); clear hx; clear h0 h1 h2 h3 f1 f2 hx0 fr_; have h0 := LX.out.blk.c0; have h1 := LX.out.blk.c1; have h2 := LX.out.blk.c2; have h3 := LX.out.blk.c3; have f1 := LX.out.blk.fz 1; have f2 := LX.out.blk.fz 2; have hx0 := LX.out.byt; have fr_ := blk_frozen LX.out.res 0) | ((with_reducible refine gate_store (p := 4) rfl ?_); refine wt.store_res rfl rfl 4 _ rfl w.heap.size rfl (.int .i64 0) (.int .i64 0) (.string ⟨#[]⟩) (.slice none 0 0) (.slice none 0 0) rfl (fun q hq => by simp at hq; rcases hq with rfl | rfl | rfl | rfl | rfl <;> rfl) _ rfl LX.out.res ?_; intro w5_ hres hgr; have HRES := Aside0.mk hres; have HGR := Aside0.mk hgr; clear hgr hres))
  go_wp2
  refine bodyPost_ret (results_cell_row rfl _ _ w.heap.size 25 _ (0, 0) _ rfl HRES.out Try.underlying25 rfl (by kernel_rfl)) rfl ?_
  exact ⟨⟨⟨0, 0, ⟨#[]⟩, [], []⟩, _, _, rfl, Kd.R_nil _ _ _ _ _, Kd.R_nil _ _ _ _ _⟩, by decide, _, _, wt.fin_rnx ((wt.Fr.of_below HBW.out).trans HX.out.fr) HX.out.blk L1.out.ne.2 HGR.out (Nat.le_refl _) HBB.out.size HX.out.bel⟩
theorem wt.rv_t1 {bs : List Int} {u i : Int → Int × Int × Int} (hU : wt.Uin bs u i) (hR : wt.Rin bs u i) {w0 w : World} {g : Nat} {A : Option Addr} {c : Nat} {a wq p : Int} (hb : Below w0.heap.size w0 w) (hg : w0.heap.size ≤ g) (hB : wt.RB w g A bs.length c a wq 0 p) (hC : (Kd.int .u8).C w A bs.length bs) (hc : bs.length ≤ c) (within : Int) (hw : within < 8) (ha0 : 0 ≤ a) (ha1 : a < (bs.length : Int)) (hwq : 0 ≤ wq ∧ wq + 1 ≤ 2048) (ht : rd bs a = 1) :
    Calls Try.prog 40 #[.pointer (some ⟨g, 0, none⟩), .int .i64 within] w (wt.RGotV (.ok ⟨1, 0, ⟨#[]⟩, [], []⟩ (a + 1) (2048 - wq - 1)) w0 w g A bs.length c p) := by
  have HB := Aside0.mk hB
  have HC := Aside0.mk hC
  have HCC := Aside0.mk hc
  have HBB := Aside0.mk hb
  have HGG := Aside0.mk hg
  have HLL := Aside0.mk hU.L
  have HUU := Aside0.mk hU
  have HRR := Aside0.mk hR
  have HGL := Aside0.mk (show g < w.heap.size from blk_lt hB)
  have hu25 := Try.underlying25
  have HBW := Aside0.mk ((Below.refl w.heap.size w).alloc (Nat.le_refl _) (.cells #[.int .i64 0, .int .i64 0, .string ⟨#[]⟩, .slice none 0 0, .slice none 0 0] 25))
  have BL1 := Aside0.mk (hb.alloc hb.size (.cells #[.int .i64 0, .int .i64 0, .string ⟨#[]⟩, .slice none 0 0, .slice none 0 0] 25))
  obtain ⟨a, rfl⟩ := Int.eq_ofNat_of_zero_le ha0
  have t0 : decide ((a : Int) ≥ (bs.length : Int)) = false := decide_eq_false (by omega)
  have t1 : decide ((bs.length : Int) ≤ (a : Int)) = false := decide_eq_false (by omega)
  have t2 : decide (bs.length ≤ a) = false := decide_eq_false (by omega)
  have t3 : (a : Int) < (bs.length : Int) := ha1
  have t4 : a < bs.length := by omega
  have t5 : decide (a < bs.length) = true := decide_eq_true t4
  obtain ⟨ad, hA, hx0_⟩ := Kd.at_int hC (a : Int) (by omega) ha1
  subst hA
  rw [Int.toNat_natCast] at hx0_
  obtain ⟨x, hxd⟩ : ∃ x, rd bs (a : Int) = x := ⟨_, rfl⟩
  rw [hxd] at hx0_ ht
  have L1 := Aside0.mk (show wt.RLy (w.alloc (.cells #[.int .i64 0, .int .i64 0, .string ⟨#[]⟩, .slice none 0 0, .slice none 0 0] 25)) g (some ad) bs.length c (a : Int) wq 0 p (ad.add a) x w.heap.size #[.int .i64 0, .int .i64 0, .string ⟨#[]⟩, .slice none 0 0, .slice none 0 0] from ⟨HB.out.below HBW.out, (HBW.out.cell (World.block_lt_of_cell? w _ hx0_)).trans hx0_, by simpa using heap_alloc_new w _⟩)
  clear hx0_ hxd
  subst ht
  have w1 : decide (within ≥ 8) = false := decide_eq_false (by omega)
  have w2 : decide (8 ≤ within) = false := decide_eq_false (by omega)
  have HWQ := Aside0.mk hwq
  have hwr : wrap64 ((a : Int) + 1) = (a : Int) + 1 := by have := HLL.out; unfold wrap64; omega
  have h0 := L1.out.blk.c0; have h1 := L1.out.blk.c1; have h2 := L1.out.blk.c2; have h3 := L1.out.blk.c3; have f1 := L1.out.blk.fz 1; have f2 := L1.out.blk.fz 2; have hx0 := L1.out.byt; have fr_ := blk_frozen L1.out.res 0
  clear ha1 ha0 hwq hw
  clear hU hR hb hg hB hC hc
  generalize bs.length = m at *
  go_enter Try.func40, Try.ntmps40
  go_wp2_with (first | (go_at_call 59; refine (wt.heavY BL1.out HGG.out L1.out.blk 1 (a : Int) HWQ.out.1 (by omega) HWQ.out.2).mono ?_; rintro e_ w3 ⟨rfl, hx⟩; have L3 := Aside0.mk (L1.out.fr hx.fr hx.blk); have FR3 := Aside0.mk ((wt.Fr.of_below HBW.out).trans hx.fr); have BL3 := Aside0.mk hx.bel; clear hx; clear h0 h1 h2 h3 f1 f2 hx0 fr_; have h0 := L3.out.blk.c0; have h1 := L3.out.blk.c1; have h2 := L3.out.blk.c2; have h3 := L3.out.blk.c3; have f1 := L3.out.blk.fz 1; have f2 := L3.out.blk.fz 2; have hx0 := L3.out.byt; have fr_ := blk_frozen L3.out.res 0) | ((with_reducible refine gate_store (p := 62) rfl ?_); go_must (refine store_event ?hg (t := 3) (p := 62) (v := .tmp 60) (w1 := w3.setCell ⟨g, 1, none⟩ (.int .i64 ((a : Int) + 1))) ?ho ?hN ?hr ?_); (case ho => rfl); (case hN => rfl); (case hg => rfl); (case hr => first | (go_simp; done) | (go_simp; rfl)); intro w4 ex; have L4 := Aside0.mk (L3.out.fr (ex ▸ wt.Fr.set _ _ _ _) (ex ▸ L3.out.blk.set1 _)); have FR4 := Aside0.mk (show wt.Fr g w w4 from ex ▸ FR3.out.trans (wt.Fr.set _ _ _ _)); have BL4 := Aside0.mk (show Below w0.heap.size w0 w4 from ex ▸ BL3.out.setCell HGG.out _); clear ex; clear h0 h1 h2 h3 f1 f2 hx0 fr_; have h0 := L4.out.blk.c0; have h1 := L4.out.blk.c1; have h2 := L4.out.blk.c2; have h3 := L4.out.blk.c3; have f1 := L4.out.blk.fz 1; have f2 := L4.out.blk.fz 2; have hx0 := L4.out.byt; have fr_ := blk_frozen L4.out.res 0) | ((with_reducible refine gate_store (p := 4) rfl ?_); refine wt.store_res rfl rfl 4 _ rfl w.heap.size rfl (.int .i64 1) (.int .i64 0) (.string ⟨#[]⟩) (.slice none 0 0) (.slice none 0 0) rfl (fun q hq => by simp at hq; rcases hq with rfl | rfl | rfl | rfl | rfl <;> rfl) _ rfl L4.out.res ?_; intro w5_ hres hgr; have HRES := Aside0.mk hres; have HGR := Aside0.mk hgr; clear hgr hres))
  go_wp2
  refine bodyPost_ret (results_cell_row rfl _ _ w.heap.size 25 _ (0, 0) _ rfl HRES.out Try.underlying25 rfl (by kernel_rfl)) rfl ?_
  refine ⟨⟨_, _, rfl, Kd.R_nil _ _ _ _ _, Kd.R_nil _ _ _ _ _⟩, ?_⟩
  rw [(show 2048 - (2048 - wq - 1) = wq + 1 by omega)]
  exact wt.fin_rnx FR4.out L4.out.blk L4.out.ne.2 HGR.out (Nat.le_refl _) HBB.out.size BL4.out
theorem wt.rv_t2 {bs : List Int} {u i : Int → Int × Int × Int} (hU : wt.Uin bs u i) (hR : wt.Rin bs u i) {w0 w : World} {g : Nat} {A : Option Addr} {c : Nat} {a wq p : Int} (hb : Below w0.heap.size w0 w) (hg : w0.heap.size ≤ g) (hB : wt.RB w g A bs.length c a wq 0 p) (hC : (Kd.int .u8).C w A bs.length bs) (hc : bs.length ≤ c) (within : Int) (hw : within < 8) (ha0 : 0 ≤ a) (ha1 : a < (bs.length : Int)) (hwq : 0 ≤ wq ∧ wq + 1 ≤ 2048) (ht : rd bs a = 2) :
    Calls Try.prog 40 #[.pointer (some ⟨g, 0, none⟩), .int .i64 within] w (wt.RGotV (.ok ⟨1, 1, ⟨#[]⟩, [], []⟩ (a + 1) (2048 - wq - 1)) w0 w g A bs.length c p) := by
  have HB := Aside0.mk hB
  have HC := Aside0.mk hC
  have HCC := Aside0.mk hc
  have HBB := Aside0.mk hb
  have HGG := Aside0.mk hg
  have HLL := Aside0.mk hU.L
  have HUU := Aside0.mk hU
  have HRR := Aside0.mk hR
  have HGL := Aside0.mk (show g < w.heap.size from blk_lt hB)
  have hu25 := Try.underlying25
  have HBW := Aside0.mk ((Below.refl w.heap.size w).alloc (Nat.le_refl _) (.cells #[.int .i64 0, .int .i64 0, .string ⟨#[]⟩, .slice none 0 0, .slice none 0 0] 25))
  have BL1 := Aside0.mk (hb.alloc hb.size (.cells #[.int .i64 0, .int .i64 0, .string ⟨#[]⟩, .slice none 0 0, .slice none 0 0] 25))
  obtain ⟨a, rfl⟩ := Int.eq_ofNat_of_zero_le ha0
  have t0 : decide ((a : Int) ≥ (bs.length : Int)) = false := decide_eq_false (by omega)
  have t1 : decide ((bs.length : Int) ≤ (a : Int)) = false := decide_eq_false (by omega)
  have t2 : decide (bs.length ≤ a) = false := decide_eq_false (by omega)
  have t3 : (a : Int) < (bs.length : Int) := ha1
  have t4 : a < bs.length := by omega
  have t5 : decide (a < bs.length) = true := decide_eq_true t4
  obtain ⟨ad, hA, hx0_⟩ := Kd.at_int hC (a : Int) (by omega) ha1
  subst hA
  rw [Int.toNat_natCast] at hx0_
  obtain ⟨x, hxd⟩ : ∃ x, rd bs (a : Int) = x := ⟨_, rfl⟩
  rw [hxd] at hx0_ ht
  have L1 := Aside0.mk (show wt.RLy (w.alloc (.cells #[.int .i64 0, .int .i64 0, .string ⟨#[]⟩, .slice none 0 0, .slice none 0 0] 25)) g (some ad) bs.length c (a : Int) wq 0 p (ad.add a) x w.heap.size #[.int .i64 0, .int .i64 0, .string ⟨#[]⟩, .slice none 0 0, .slice none 0 0] from ⟨HB.out.below HBW.out, (HBW.out.cell (World.block_lt_of_cell? w _ hx0_)).trans hx0_, by simpa using heap_alloc_new w _⟩)
  clear hx0_ hxd
  subst ht
  have w1 : decide (within ≥ 8) = false := decide_eq_false (by omega)
  have w2 : decide (8 ≤ within) = false := decide_eq_false (by omega)
  have HWQ := Aside0.mk hwq
  have hwr : wrap64 ((a : Int) + 1) = (a : Int) + 1 := by have := HLL.out; unfold wrap64; omega
  have h0 := L1.out.blk.c0; have h1 := L1.out.blk.c1; have h2 := L1.out.blk.c2; have h3 := L1.out.blk.c3; have f1 := L1.out.blk.fz 1; have f2 := L1.out.blk.fz 2; have hx0 := L1.out.byt; have fr_ := blk_frozen L1.out.res 0
  clear ha1 ha0 hwq hw
  clear hU hR hb hg hB hC hc
  generalize bs.length = m at *
  go_enter Try.func40, Try.ntmps40
  go_wp2_with (first | (go_at_call 59; refine (wt.heavY BL1.out HGG.out L1.out.blk 1 (a : Int) HWQ.out.1 (by omega) HWQ.out.2).mono ?_; rintro e_ w3 ⟨rfl, hx⟩; have L3 := Aside0.mk (L1.out.fr hx.fr hx.blk); have FR3 := Aside0.mk ((wt.Fr.of_below HBW.out).trans hx.fr); have BL3 := Aside0.mk hx.bel; clear hx; clear h0 h1 h2 h3 f1 f2 hx0 fr_; have h0 := L3.out.blk.c0; have h1 := L3.out.blk.c1; have h2 := L3.out.blk.c2; have h3 := L3.out.blk.c3; have f1 := L3.out.blk.fz 1; have f2 := L3.out.blk.fz 2; have hx0 := L3.out.byt; have fr_ := blk_frozen L3.out.res 0) | ((with_reducible refine gate_store (p := 62) rfl ?_); go_must (refine store_event ?hg (t := 3) (p := 62) (v := .tmp 60) (w1 := w3.setCell ⟨g, 1, none⟩ (.int .i64 ((a : Int) + 1))) ?ho ?hN ?hr ?_); (case ho => rfl); (case hN => rfl); (case hg => rfl); (case hr => first | (go_simp; done) | (go_simp; rfl)); intro w4 ex; have L4 := Aside0.mk (L3.out.fr (ex ▸ wt.Fr.set _ _ _ _) (ex ▸ L3.out.blk.set1 _)); have FR4 := Aside0.mk (show wt.Fr g w w4 from ex ▸ FR3.out.trans (wt.Fr.set _ _ _ _)); have BL4 := Aside0.mk (show Below w0.heap.size w0 w4 from ex ▸ BL3.out.setCell HGG.out _); clear ex; clear h0 h1 h2 h3 f1 f2 hx0 fr_; have h0 := L4.out.blk.c0; have h1 := L4.out.blk.c1; have h2 := L4.out.blk.c2; have h3 := L4.out.blk.c3; have f1 := L4.out.blk.fz 1; have f2 := L4.out.blk.fz 2; have hx0 := L4.out.byt; have fr_ := blk_frozen L4.out.res 0) | ((with_reducible refine gate_store (p := 4) rfl ?_); refine wt.store_res rfl rfl 4 _ rfl w.heap.size rfl (.int .i64 1) (.int .i64 1) (.string ⟨#[]⟩) (.slice none 0 0) (.slice none 0 0) rfl (fun q hq => by simp at hq; rcases hq with rfl | rfl | rfl | rfl | rfl <;> rfl) _ rfl L4.out.res ?_; intro w5_ hres hgr; have HRES := Aside0.mk hres; have HGR := Aside0.mk hgr; clear hgr hres))
  go_wp2
  refine bodyPost_ret (results_cell_row rfl _ _ w.heap.size 25 _ (0, 0) _ rfl HRES.out Try.underlying25 rfl (by kernel_rfl)) rfl ?_
  refine ⟨⟨_, _, rfl, Kd.R_nil _ _ _ _ _, Kd.R_nil _ _ _ _ _⟩, ?_⟩
  rw [(show 2048 - (2048 - wq - 1) = wq + 1 by omega)]
  exact wt.fin_rnx FR4.out L4.out.blk L4.out.ne.2 HGR.out (Nat.le_refl _) HBB.out.size BL4.out
theorem wt.rv_t0 {bs : List Int} {u i : Int → Int × Int × Int} (hU : wt.Uin bs u i) (hR : wt.Rin bs u i) {w0 w : World} {g : Nat} {A : Option Addr} {c : Nat} {a wq p : Int} (hb : Below w0.heap.size w0 w) (hg : w0.heap.size ≤ g) (hB : wt.RB w g A bs.length c a wq 0 p) (hC : (Kd.int .u8).C w A bs.length bs) (hc : bs.length ≤ c) (within : Int) (hw : within < 8) (ha0 : 0 ≤ a) (ha1 : a < (bs.length : Int)) (hwq : 0 ≤ wq ∧ wq + 1 ≤ 2048) (ht : rd bs a = 0) :
    Calls Try.prog 40 #[.pointer (some ⟨g, 0, none⟩), .int .i64 within] w (wt.RGotV (.ok ⟨0, 0, ⟨#[]⟩, [], []⟩ (a + 1) (2048 - wq - 1)) w0 w g A bs.length c p) := by
  have HB := Aside0.mk hB
  have HC := Aside0.mk hC
  have HCC := Aside0.mk hc
  have HBB := Aside0.mk hb
  have HGG := Aside0.mk hg
  have HLL := Aside0.mk hU.L
  have HUU := Aside0.mk hU
  have HRR := Aside0.mk hR
  have HGL := Aside0.mk (show g < w.heap.size from blk_lt hB)
  have hu25 := Try.underlying25
  have HBW := Aside0.mk ((Below.refl w.heap.size w).alloc (Nat.le_refl _) (.cells #[.int .i64 0, .int .i64 0, .string ⟨#[]⟩, .slice none 0 0, .slice none 0 0] 25))
  have BL1 := Aside0.mk (hb.alloc hb.size (.cells #[.int .i64 0, .int .i64 0, .string ⟨#[]⟩, .slice none 0 0, .slice none 0 0] 25))
  obtain ⟨a, rfl⟩ := Int.eq_ofNat_of_zero_le ha0
  have t0 : decide ((a : Int) ≥ (bs.length : Int)) = false := decide_eq_false (by omega)
  have t1 : decide ((bs.length : Int) ≤ (a : Int)) = false := decide_eq_false (by omega)
  have t2 : decide (bs.length ≤ a) = false := decide_eq_false (by omega)
  have t3 : (a : Int) < (bs.length : Int) := ha1
  have t4 : a < bs.length := by omega
  have t5 : decide (a < bs.length) = true := decide_eq_true t4
  obtain ⟨ad, hA, hx0_⟩ := Kd.at_int hC (a : Int) (by omega) ha1
  subst hA
  rw [Int.toNat_natCast] at hx0_
  obtain ⟨x, hxd⟩ : ∃ x, rd bs (a : Int) = x := ⟨_, rfl⟩
  rw [hxd] at hx0_ ht
  have L1 := Aside0.mk (show wt.RLy (w.alloc (.cells #[.int .i64 0, .int .i64 0, .string ⟨#[]⟩, .slice none 0 0, .slice none 0 0] 25)) g (some ad) bs.length c (a : Int) wq 0 p (ad.add a) x w.heap.size #[.int .i64 0, .int .i64 0, .string ⟨#[]⟩, .slice none 0 0, .slice none 0 0] from ⟨HB.out.below HBW.out, (HBW.out.cell (World.block_lt_of_cell? w _ hx0_)).trans hx0_, by simpa using heap_alloc_new w _⟩)
  clear hx0_ hxd
  subst ht
  have w1 : decide (within ≥ 8) = false := decide_eq_false (by omega)
  have w2 : decide (8 ≤ within) = false := decide_eq_false (by omega)
  have HWQ := Aside0.mk hwq
  have hwr : wrap64 ((a : Int) + 1) = (a : Int) + 1 := by have := HLL.out; unfold wrap64; omega
  have h0 := L1.out.blk.c0; have h1 := L1.out.blk.c1; have h2 := L1.out.blk.c2; have h3 := L1.out.blk.c3; have f1 := L1.out.blk.fz 1; have f2 := L1.out.blk.fz 2; have hx0 := L1.out.byt; have fr_ := blk_frozen L1.out.res 0
  clear ha1 ha0 hwq hw
  clear hU hR hb hg hB hC hc
  generalize bs.length = m at *
  go_enter Try.func40, Try.ntmps40
  go_wp2_with (first | (go_at_call 59; refine (wt.heavY BL1.out HGG.out L1.out.blk 1 (a : Int) HWQ.out.1 (by omega) HWQ.out.2).mono ?_; rintro e_ w3 ⟨rfl, hx⟩; have L3 := Aside0.mk (L1.out.fr hx.fr hx.blk); have FR3 := Aside0.mk ((wt.Fr.of_below HBW.out).trans hx.fr); have BL3 := Aside0.mk hx.bel; clear hx; clear h0 h1 h2 h3 f1 f2 hx0 fr_; have h0 := L3.out.blk.c0; have h1 := L3.out.blk.c1; have h2 := L3.out.blk.c2; have h3 := L3.out.blk.c3; have f1 := L3.out.blk.fz 1; have f2 := L3.out.blk.fz 2; have hx0 := L3.out.byt; have fr_ := blk_frozen L3.out.res 0) | ((with_reducible refine gate_store (p := 62) rfl ?_); go_must (refine store_event ?hg (t := 3) (p := 62) (v := .tmp 60) (w1 := w3.setCell ⟨g, 1, none⟩ (.int .i64 ((a : Int) + 1))) ?ho ?hN ?hr ?_); (case ho => rfl); (case hN => rfl); (case hg => rfl); (case hr => first | (go_simp; done) | (go_simp; rfl)); intro w4 ex; have L4 := Aside0.mk (L3.out.fr (ex ▸ wt.Fr.set _ _ _ _) (ex ▸ L3.out.blk.set1 _)); have FR4 := Aside0.mk (show wt.Fr g w w4 from ex ▸ FR3.out.trans (wt.Fr.set _ _ _ _)); have BL4 := Aside0.mk (show Below w0.heap.size w0 w4 from ex ▸ BL3.out.setCell HGG.out _); clear ex; clear h0 h1 h2 h3 f1 f2 hx0 fr_; have h0 := L4.out.blk.c0; have h1 := L4.out.blk.c1; have h2 := L4.out.blk.c2; have h3 := L4.out.blk.c3; have f1 := L4.out.blk.fz 1; have f2 := L4.out.blk.fz 2; have hx0 := L4.out.byt; have fr_ := blk_frozen L4.out.res 0) | ((with_reducible refine gate_store (p := 4) rfl ?_); refine wt.store_res rfl rfl 4 _ rfl w.heap.size rfl (.int .i64 0) (.int .i64 0) (.string ⟨#[]⟩) (.slice none 0 0) (.slice none 0 0) rfl (fun q hq => by simp at hq; rcases hq with rfl | rfl | rfl | rfl | rfl <;> rfl) _ rfl L4.out.res ?_; intro w5_ hres hgr; have HRES := Aside0.mk hres; have HGR := Aside0.mk hgr; clear hgr hres))
  go_wp2
  refine bodyPost_ret (results_cell_row rfl _ _ w.heap.size 25 _ (0, 0) _ rfl HRES.out Try.underlying25 rfl (by kernel_rfl)) rfl ?_
  refine ⟨⟨_, _, rfl, Kd.R_nil _ _ _ _ _, Kd.R_nil _ _ _ _ _⟩, ?_⟩
  rw [(show 2048 - (2048 - wq - 1) = wq + 1 by omega)]
  exact wt.fin_rnx FR4.out L4.out.blk L4.out.ne.2 HGR.out (Nat.le_refl _) HBB.out.size BL4.out
theorem wt.rv_t3 {bs : List Int} {u i : Int → Int × Int × Int} (hU : wt.Uin bs u i) (hR : wt.Rin bs u i) {w0 w : World} {g : Nat} {A : Option Addr} {c : Nat} {a wq p : Int} (hb : Below w0.heap.size w0 w) (hg : w0.heap.size ≤ g) (hB : wt.RB w g A bs.length c a wq 0 p) (hC : (Kd.int .u8).C w A bs.length bs) (hc : bs.length ≤ c) (within : Int) (hw : within < 8) (ha0 : 0 ≤ a) (ha1 : a < (bs.length : Int)) (hwq : 0 ≤ wq ∧ wq + 1 ≤ 2048) (ht : rd bs a = 3) (he : (i (a + 1)).2.2 = 0) :
    Calls Try.prog 40 #[.pointer (some ⟨g, 0, none⟩), .int .i64 within] w (wt.RGotV (.ok ⟨2, (i (a + 1)).1, ⟨#[]⟩, [], []⟩ (i (a + 1)).2.1 (2048 - wq - 1)) w0 w g A bs.length c p) := by
  have HB := Aside0.mk hB
  have HC := Aside0.mk hC
  have HCC := Aside0.mk hc
  have HBB := Aside0.mk hb
  have HGG := Aside0.mk hg
  have HLL := Aside0.mk hU.L
  have HUU := Aside0.mk hU
  have HRR := Aside0.mk hR
  have HGL := Aside0.mk (show g < w.heap.size from blk_lt hB)
  have hu25 := Try.underlying25
  have HBW := Aside0.mk ((Below.refl w.heap.size w).alloc (Nat.le_refl _) (.cells #[.int .i64 0, .int .i64 0, .string ⟨#[]⟩, .slice none 0 0, .slice none 0 0] 25))
  have BL1 := Aside0.mk (hb.alloc hb.size (.cells #[.int .i64 0, .int .i64 0, .string ⟨#[]⟩, .slice none 0 0, .slice none 0 0] 25))
  obtain ⟨a, rfl⟩ := Int.eq_ofNat_of_zero_le ha0
  have t0 : decide ((a : Int) ≥ (bs.length : Int)) = false := decide_eq_false (by omega)
  have t1 : decide ((bs.length : Int) ≤ (a : Int)) = false := decide_eq_false (by omega)
  have t2 : decide (bs.length ≤ a) = false := decide_eq_false (by omega)
  have t3 : (a : Int) < (bs.length : Int) := ha1
  have t4 : a < bs.length := by omega
  have t5 : decide (a < bs.length) = true := decide_eq_true t4
  obtain ⟨ad, hA, hx0_⟩ := Kd.at_int hC (a : Int) (by omega) ha1
  subst hA
  rw [Int.toNat_natCast] at hx0_
  obtain ⟨x, hxd⟩ : ∃ x, rd bs (a : Int) = x := ⟨_, rfl⟩
  rw [hxd] at hx0_ ht
  have L1 := Aside0.mk (show wt.RLy (w.alloc (.cells #[.int .i64 0, .int .i64 0, .string ⟨#[]⟩, .slice none 0 0, .slice none 0 0] 25)) g (some ad) bs.length c (a : Int) wq 0 p (ad.add a) x w.heap.size #[.int .i64 0, .int .i64 0, .string ⟨#[]⟩, .slice none 0 0, .slice none 0 0] from ⟨HB.out.below HBW.out, (HBW.out.cell (World.block_lt_of_cell? w _ hx0_)).trans hx0_, by simpa using heap_alloc_new w _⟩)
  clear hx0_ hxd
  subst ht
  have w1 : decide (within ≥ 8) = false := decide_eq_false (by omega)
  have w2 : decide (8 ≤ within) = false := decide_eq_false (by omega)
  have HWQ := Aside0.mk hwq
  have hwr : wrap64 ((a : Int) + 1) = (a : Int) + 1 := by have := HLL.out; unfold wrap64; omega
  obtain ⟨K, hK⟩ := hR.I
  have HK := Aside0.mk (hK ((a : Int) + 1))
  obtain ⟨r1, r2, r3, hr⟩ : ∃ r1 r2 r3, i ((a : Int) + 1) = (r1, r2, r3) := ⟨_, _, _, rfl⟩
  rw [hr] at he HK ⊢
  dsimp only at he ⊢
  subst he
  clear hK hr
  have h0 := L1.out.blk.c0; have h1 := L1.out.blk.c1; have h2 := L1.out.blk.c2; have h3 := L1.out.blk.c3; have f1 := L1.out.blk.fz 1; have f2 := L1.out.blk.fz 2; have hx0 := L1.out.byt; have fr_ := blk_frozen L1.out.res 0
  clear ha1 ha0 hwq hw
  clear hU hR hb hg hB hC hc
  generalize bs.length = m at *
  go_enter Try.func40, Try.ntmps40
  go_wp2_with (first | (go_at_call 59; refine (wt.heavY BL1.out HGG.out L1.out.blk 1 (a : Int) HWQ.out.1 (by omega) HWQ.out.2).mono ?_; rintro e_ w3 ⟨rfl, hx⟩; have L3 := Aside0.mk (L1.out.fr hx.fr hx.blk); have FR3 := Aside0.mk ((wt.Fr.of_below HBW.out).trans hx.fr); have BL3 := Aside0.mk hx.bel; clear hx; clear h0 h1 h2 h3 f1 f2 hx0 fr_; have h0 := L3.out.blk.c0; have h1 := L3.out.blk.c1; have h2 := L3.out.blk.c2; have h3 := L3.out.blk.c3; have f1 := L3.out.blk.fz 1; have f2 := L3.out.blk.fz 2; have hx0 := L3.out.byt; have fr_ := blk_frozen L3.out.res 0) | ((with_reducible refine gate_store (p := 62) rfl ?_); go_must (refine store_event ?hg (t := 3) (p := 62) (v := .tmp 60) (w1 := w3.setCell ⟨g, 1, none⟩ (.int .i64 ((a : Int) + 1))) ?ho ?hN ?hr ?_); (case ho => rfl); (case hN => rfl); (case hg => rfl); (case hr => first | (go_simp; done) | (go_simp; rfl)); intro w4 ex; have L4 := Aside0.mk (L3.out.fr (ex ▸ wt.Fr.set _ _ _ _) (ex ▸ L3.out.blk.set1 _)); have FR4 := Aside0.mk (show wt.Fr g w w4 from ex ▸ FR3.out.trans (wt.Fr.set _ _ _ _)); have BL4 := Aside0.mk (show Below w0.heap.size w0 w4 from ex ▸ BL3.out.setCell HGG.out _); clear ex; clear h0 h1 h2 h3 f1 f2 hx0 fr_; have h0 := L4.out.blk.c0; have h1 := L4.out.blk.c1; have h2 := L4.out.blk.c2; have h3 := L4.out.blk.c3; have f1 := L4.out.blk.fz 1; have f2 := L4.out.blk.fz 2; have hx0 := L4.out.byt; have fr_ := blk_frozen L4.out.res 0))
  clear h0 h1 h2 h3 f1 f2 hx0 fr_
  refine start_ (n := 16) (S := fun w' => w'.cell? ⟨g, 0, none⟩ = some (.slice (some ad) m c) ∧ w'.cell? ⟨g, 1, none⟩ = some (.int .i64 ((a : Int) + 1))) (ds := []) #[false, false, false, false, false, false, false, false, false, false, false, false, false, false, false, false] (by kernel_rfl) rfl rfl ⟨(L4.out.blk.below (below_drew (Below.refl _ _))).c0, (L4.out.blk.below (below_drew (Below.refl _ _))).c1⟩ (fun hHeld => ?_)
  generalize hwd : w4.drew = wd at hHeld ⊢
  have Ld := Aside0.mk (hwd ▸ L4.out.below (below_drew (Below.refl _ _)))
  have FRd := Aside0.mk (hwd ▸ FR4.out.trans (wt.Fr.of_below (g := g) (below_drew (Below.refl _ _))))
  have BLd := Aside0.mk (hwd ▸ below_drew BL4.out)
  clear hwd
  refine pure_ (i := 0) (N := some 79) (v := ?_) (a' := ?_) #[true, false, false, false, false, false, false, false, false, false, false, false, false, false, false, false] rfl rfl (by kernel_rfl) (fun _ _ _ h => h) (Or.inl ⟨by rfl, ?_⟩) ?_ ?_
  rotate_left
  · intro w'
    go_simp
    with_reducible rfl
  rotate_left
  · simp only [Act.put, List.setIfInBounds_toArray, List.set_cons_zero, List.set_cons_succ, i64_w, i32_w]
    rfl
  refine pure_ (i := 1) (N := some 80) (v := ?_) (a' := ?_) #[true, true, false, false, false, false, false, false, false, false, false, false, false, false, false, false] rfl rfl (by kernel_rfl) (fun _ _ _ h => h) (Or.inl ⟨by rfl, ?_⟩) ?_ ?_
  rotate_left
  · intro w'
    go_simp
    with_reducible rfl
  rotate_left
  · simp only [Act.put, List.setIfInBounds_toArray, List.set_cons_zero, List.set_cons_succ, i64_w, i32_w]
    rfl
  refine pure_ (i := 2) (N := some 81) (v := ?_) (a' := ?_) #[true, true, true, false, false, false, false, false, false, false, false, false, false, false, false, false] rfl rfl (by kernel_rfl) (fun _ _ _ h => h) (Or.inl ⟨by rfl, ?_⟩) ?_ ?_
  rotate_left
  · intro w'
    go_simp
    with_reducible rfl
  rotate_left
  · simp only [Act.put, List.setIfInBounds_toArray, List.set_cons_zero, List.set_cons_succ, i64_w, i32_w]
    rfl
  refine pure_ (i := 4) (N := some 83) (v := ?_) (a' := ?_) #[true, true, true, false, true, false, false, false, false, false, false, false, false, false, false, false] rfl rfl (by kernel_rfl) (fun _ _ _ h => h) (Or.inl ⟨by rfl, ?_⟩) ?_ ?_
  rotate_left
  · intro w'
    go_simp
    with_reducible rfl
  rotate_left
  · simp only [Act.put, List.setIfInBounds_toArray, List.set_cons_zero, List.set_cons_succ, i64_w, i32_w]
    rfl
  refine pure_ (i := 5) (N := some 84) (v := ?_) (a' := ?_) #[true, true, true, false, true, true, false, false, false, false, false, false, false, false, false, false] rfl rfl (by kernel_rfl) (fun _ _ _ h => h) (Or.inl ⟨by rfl, ?_⟩) ?_ ?_
  rotate_left
  · intro w'
    go_simp
    with_reducible rfl
  rotate_left
  · simp only [Act.put, List.setIfInBounds_toArray, List.set_cons_zero, List.set_cons_succ, i64_w, i32_w]
    rfl
  refine pure_ (i := 6) (N := some 85) (v := ?_) (a' := ?_) #[true, true, true, false, true, true, true, false, false, false, false, false, false, false, false, false] rfl rfl (by kernel_rfl) (fun _ _ _ h => h) (Or.inl ⟨by rfl, ?_⟩) ?_ ?_
  rotate_left
  · intro w'
    go_simp
    with_reducible rfl
  rotate_left
  · simp only [Act.put, List.setIfInBounds_toArray, List.set_cons_zero, List.set_cons_succ, i64_w, i32_w]
    rfl
  refine take_ (i := 3) (N := some 82) (v := ?_) (a' := ?_) #[true, true, true, true, true, true, true, false, false, false, false, false, false, false, false, false] rfl rfl (by kernel_rfl) (fun _ _ _ h => h) (Or.inl ⟨by rfl, ?_⟩) hHeld ?_ ?_
  rotate_left
  · rintro w' ⟨s0, s1⟩
    go_simp
    with_reducible rfl
  rotate_left
  · simp only [Act.put, List.setIfInBounds_toArray, List.set_cons_zero, List.set_cons_succ, i64_w, i32_w]
    rfl
  refine take_ (i := 7) (N := some 86) (v := ?_) (a' := ?_) #[true, true, true, true, true, true, true, true, false, false, false, false, false, false, false, false] rfl rfl (by kernel_rfl) (fun _ _ _ h => h) (Or.inl ⟨by rfl, ?_⟩) hHeld ?_ ?_
  rotate_left
  · rintro w' ⟨s0, s1⟩
    go_simp
    with_reducible rfl
  rotate_left
  · simp only [Act.put, List.setIfInBounds_toArray, List.set_cons_zero, List.set_cons_succ, i64_w, i32_w]
    rfl
  refine one_ (i := 8) (N := some 87) #[true, true, true, true, true, true, true, true, true, false, false, false, false, false, false, false] rfl rfl (by kernel_rfl) (by decide) (fun K hK => ?_)
  refine goes_ Try.func60 (by kernel_rfl) rfl #[.slice (some ad) m c, .int .i64 ((a : Int) + 1)] (by rfl) rfl rfl (by (try simp only [List.map_toArray, List.map_cons, List.map_nil]); first | done | rfl) ?_
  refine (wt.rint1 HK.out (wt.rbytes HC.out HB.out FRd.out) HCC.out).mono ?_
  rintro e w5 ⟨rfl, hd⟩
  refine ⟨_, rfl, ?_⟩
  have L5 := Aside0.mk (Ld.out.below hd.below)
  have FR5 := Aside0.mk (FRd.out.trans (wt.Fr.of_below hd.below))
  have BL5 := Aside0.mk (below_then BLd.out BLd.out.size hd.below)
  clear hd
  refine hK.out _ _ ⟨L5.out.blk.c0, L5.out.blk.c1⟩ (fun hHeld => ?_)
  clear hK K
  refine norm_ (a' := ?_) ?_ ?_
  rotate_left
  · show Act.put _ (some 87) _ = _
    simp only [Act.put, List.setIfInBounds_toArray, List.set_cons_zero, List.set_cons_succ, i64_w, i32_w]
    rfl
  refine pure_ (i := 9) (N := some 78) (v := ?_) (a' := ?_) #[true, true, true, true, true, true, true, true, true, true, false, false, false, false, false, false] rfl rfl (by kernel_rfl) (fun _ _ _ h => h) (Or.inl ⟨by rfl, ?_⟩) ?_ ?_
  rotate_left
  · intro w'
    go_simp
    with_reducible rfl
  rotate_left
  · simp only [Act.put, List.setIfInBounds_toArray, List.set_cons_zero, List.set_cons_succ, i64_w, i32_w]
    rfl
  refine pure_ (i := 10) (N := some 88) (v := ?_) (a' := ?_) #[true, true, true, true, true, true, true, true, true, true, true, false, false, false, false, false] rfl rfl (by kernel_rfl) (fun _ _ _ h => h) (Or.inl ⟨by rfl, ?_⟩) ?_ ?_
  rotate_left
  · intro w'
    go_simp
    with_reducible rfl
  rotate_left
  · simp only [Act.put, List.setIfInBounds_toArray, List.set_cons_zero, List.set_cons_succ, i64_w, i32_w]
    rfl
  refine pure_ (i := 11) (N := some 89) (v := ?_) (a' := ?_) #[true, true, true, true, true, true, true, true, true, true, true, true, false, false, false, false] rfl rfl (by kernel_rfl) (fun _ _ _ h => h) (Or.inl ⟨by rfl, ?_⟩) ?_ ?_
  rotate_left
  · intro w'
    go_simp
    with_reducible rfl
  rotate_left
  · simp only [Act.put, List.setIfInBounds_toArray, List.set_cons_zero, List.set_cons_succ, i64_w, i32_w]
    rfl
  refine pure_ (i := 12) (N := some 90) (v := ?_) (a' := ?_) #[true, true, true, true, true, true, true, true, true, true, true, true, true, false, false, false] rfl rfl (by kernel_rfl) (fun _ _ _ h => h) (Or.inl ⟨by rfl, ?_⟩) ?_ ?_
  rotate_left
  · intro w'
    go_simp
    with_reducible rfl
  rotate_left
  · simp only [Act.put, List.setIfInBounds_toArray, List.set_cons_zero, List.set_cons_succ, i64_w, i32_w]
    rfl
  refine pure_ (i := 13) (N := some 6) (v := ?_) (a' := ?_) #[true, true, true, true, true, true, true, true, true, true, true, true, true, true, false, false] rfl rfl (by kernel_rfl) (fun _ _ _ h => h) (Or.inl ⟨by rfl, ?_⟩) ?_ ?_
  rotate_left
  · intro w'
    go_simp
    with_reducible rfl
  rotate_left
  · simp only [Act.put, List.setIfInBounds_toArray, List.set_cons_zero, List.set_cons_succ, i64_w, i32_w]
    rfl
  refine pure_ (i := 14) (N := some 7) (v := ?_) (a' := ?_) #[true, true, true, true, true, true, true, true, true, true, true, true, true, true, true, false] rfl rfl (by kernel_rfl) (fun _ _ _ h => h) (Or.inl ⟨by rfl, ?_⟩) ?_ ?_
  rotate_left
  · intro w'
    go_simp
    with_reducible rfl
  rotate_left
  · simp only [Act.put, List.setIfInBounds_toArray, List.set_cons_zero, List.set_cons_succ, i64_w, i32_w]
    rfl
  refine pure_ (i := 15) (N := some 8) (v := ?_) (a' := ?_) #[true, true, true, true, true, true, true, true, true, true, true, true, true, true, true, true] rfl rfl (by kernel_rfl) (fun _ _ _ h => h) (Or.inl ⟨by rfl, ?_⟩) ?_ ?_
  rotate_left
  · intro w'
    go_simp
    with_reducible rfl
  rotate_left
  · simp only [Act.put, List.setIfInBounds_toArray, List.set_cons_zero, List.set_cons_succ, i64_w, i32_w]
    rfl
  refine done_ (by kernel_rfl) ?_
  have h0 := L5.out.blk.c0; have h1 := L5.out.blk.c1; have h2 := L5.out.blk.c2; have h3 := L5.out.blk.c3; have f1 := L5.out.blk.fz 1; have f2 := L5.out.blk.fz 2; have hx0 := L5.out.byt; have fr_ := blk_frozen L5.out.res 0
  go_wp2_with (first | ((with_reducible refine gate_store (p := 103) rfl ?_); go_must (refine store_event ?hg (t := 3) (p := 103) (v := .tmp 101) (w1 := w5.setCell ⟨g, 1, none⟩ (.int .i64 r2)) ?ho ?hN ?hr ?_); (case ho => rfl); (case hN => rfl); (case hg => rfl); (case hr => first | (go_simp; done) | (go_simp; rfl)); intro w6 ex; have L6 := Aside0.mk (L5.out.fr (ex ▸ wt.Fr.set _ _ _ _) (ex ▸ L5.out.blk.set1 _)); have FR6 := Aside0.mk (show wt.Fr g w w6 from ex ▸ FR5.out.trans (wt.Fr.set _ _ _ _)); have BL6 := Aside0.mk (show Below w0.heap.size w0 w6 from ex ▸ BL5.out.setCell HGG.out _); clear ex; clear h0 h1 h2 h3 f1 f2 hx0 fr_; have h0 := L6.out.blk.c0; have h1 := L6.out.blk.c1; have h2 := L6.out.blk.c2; have h3 := L6.out.blk.c3; have f1 := L6.out.blk.fz 1; have f2 := L6.out.blk.fz 2; have hx0 := L6.out.byt; have fr_ := blk_frozen L6.out.res 0) | ((with_reducible refine gate_store (p := 4) rfl ?_); refine wt.store_res rfl rfl 4 _ rfl w.heap.size rfl (.int .i64 2) (.int .i64 r1) (.string ⟨#[]⟩) (.slice none 0 0) (.slice none 0 0) rfl (fun q hq => by simp at hq; rcases hq with rfl | rfl | rfl | rfl | rfl <;> rfl) _ rfl L6.out.res ?_; intro w5_ hres hgr; have HRES := Aside0.mk hres; have HGR := Aside0.mk hgr; clear hgr hres))
  go_wp2
  refine bodyPost_ret (results_cell_row rfl _ _ w.heap.size 25 _ (0, 0) _ rfl HRES.out Try.underlying25 rfl (by kernel_rfl)) rfl ?_
  refine ⟨⟨_, _, rfl, Kd.R_nil _ _ _ _ _, Kd.R_nil _ _ _ _ _⟩, ?_⟩
  rw [(show 2048 - (2048 - wq - 1) = wq + 1 by omega)]
  exact wt.fin_rnx FR6.out L6.out.blk L6.out.ne.2 HGR.out (Nat.le_refl _) HBB.out.size BL6.out
theorem wt.rv_t3N {bs : List Int} {u i : Int → Int × Int × Int} (hU : wt.Uin bs u i) (hR : wt.Rin bs u i) {w0 w : World} {g : Nat} {A : Option Addr} {c : Nat} {a wq p : Int} (hb : Below w0.heap.size w0 w) (hg : w0.heap.size ≤ g) (hB : wt.RB w g A bs.length c a wq 0 p) (hC : (Kd.int .u8).C w A bs.length bs) (hc : bs.length ≤ c) (within : Int) (hw : within < 8) (ha0 : 0 ≤ a) (ha1 : a < (bs.length : Int)) (hwq : 0 ≤ wq ∧ wq + 1 ≤ 2048) (ht : rd bs a = 3) (he : (i (a + 1)).2.2 ≠ 0) :
    Calls Try.prog 40 #[.pointer (some ⟨g, 0, none⟩), .int .i64 within] w (wt.RGotV (.bad 41 (a + 1)) w0 w g A bs.length c p) := by
  have HB := Aside0.mk hB
  have HC := Aside0.mk hC
  have HCC := Aside0.mk hc
  have HBB := Aside0.mk hb
  have HGG := Aside0.mk hg
  have HLL := Aside0.mk hU.L
  have HUU := Aside0.mk hU
  have HRR := Aside0.mk hR
  have HGL := Aside0.mk (show g < w.heap.size from blk_lt hB)
  have hu25 := Try.underlying25
  have HBW := Aside0.mk ((Below.refl w.heap.size w).alloc (Nat.le_refl _) (.cells #[.int .i64 0, .int .i64 0, .string ⟨#[]⟩, .slice none 0 0, .slice none 0 0] 25))
  have BL1 := Aside0.mk (hb.alloc hb.size (.cells #[.int .i64 0, .int .i64 0, .string ⟨#[]⟩, .slice none 0 0, .slice none 0 0] 25))
  obtain ⟨a, rfl⟩ := Int.eq_ofNat_of_zero_le ha0
  have t0 : decide ((a : Int) ≥ (bs.length : Int)) = false := decide_eq_false (by omega)
  have t1 : decide ((bs.length : Int) ≤ (a : Int)) = false := decide_eq_false (by omega)
  have t2 : decide (bs.length ≤ a) = false := decide_eq_false (by omega)
  have t3 : (a : Int) < (bs.length : Int) := ha1
  have t4 : a < bs.length := by omega
  have t5 : decide (a < bs.length) = true := decide_eq_true t4
  obtain ⟨ad, hA, hx0_⟩ := Kd.at_int hC (a : Int) (by omega) ha1
  subst hA
  rw [Int.toNat_natCast] at hx0_
  obtain ⟨x, hxd⟩ : ∃ x, rd bs (a : Int) = x := ⟨_, rfl⟩
  rw [hxd] at hx0_ ht
  have L1 := Aside0.mk (show wt.RLy (w.alloc (.cells #[.int .i64 0, .int .i64 0, .string ⟨#[]⟩, .slice none 0 0, .slice none 0 0] 25)) g (some ad) bs.length c (a : Int) wq 0 p (ad.add a) x w.heap.size #[.int .i64 0, .int .i64 0, .string ⟨#[]⟩, .slice none 0 0, .slice none 0 0] from ⟨HB.out.below HBW.out, (HBW.out.cell (World.block_lt_of_cell? w _ hx0_)).trans hx0_, by simpa using heap_alloc_new w _⟩)
  clear hx0_ hxd
  subst ht
  have w1 : decide (within ≥ 8) = false := decide_eq_false (by omega)
  have w2 : decide (8 ≤ within) = false := decide_eq_false (by omega)
  have HWQ := Aside0.mk hwq
  have hwr : wrap64 ((a : Int) + 1) = (a : Int) + 1 := by have := HLL.out; unfold wrap64; omega
  obtain ⟨K, hK⟩ := hR.I
  have HK := Aside0.mk (hK ((a : Int) + 1))
  obtain ⟨r1, r2, r3, hr⟩ : ∃ r1 r2 r3, i ((a : Int) + 1) = (r1, r2, r3) := ⟨_, _, _, rfl⟩
  rw [hr] at he HK
  dsimp only at he
  have d1 : (r3 != 0) = true := bne_iff_ne.2 he
  have d2 : (r3 == 0) = false := beq_eq_false_iff_ne.2 he
  have d3 : decide (r3 = 0) = false := decide_eq_false he
  clear hK hr he
  have h0 := L1.out.blk.c0; have h1 := L1.out.blk.c1; have h2 := L1.out.blk.c2; have h3 := L1.out.blk.c3; have f1 := L1.out.blk.fz 1; have f2 := L1.out.blk.fz 2; have hx0 := L1.out.byt; have fr_ := blk_frozen L1.out.res 0
  clear ha1 ha0 hwq hw
  clear hU hR hb hg hB hC hc
  generalize bs.length = m at *
  go_enter Try.func40, Try.ntmps40
  go_wp2_with (first | (go_at_call 59; refine (wt.heavY BL1.out HGG.out L1.out.blk 1 (a : Int) HWQ.out.1 (by omega) HWQ.out.2).mono ?_; rintro e_ w3 ⟨rfl, hx⟩; have L3 := Aside0.mk (L1.out.fr hx.fr hx.blk); have FR3 := Aside0.mk ((wt.Fr.of_below HBW.out).trans hx.fr); have BL3 := Aside0.mk hx.bel; clear hx; clear h0 h1 h2 h3 f1 f2 hx0 fr_; have h0 := L3.out.blk.c0; have h1 := L3.out.blk.c1; have h2 := L3.out.blk.c2; have h3 := L3.out.blk.c3; have f1 := L3.out.blk.fz 1; have f2 := L3.out.blk.fz 2; have hx0 := L3.out.byt; have fr_ := blk_frozen L3.out.res 0) | ((with_reducible refine gate_store (p := 62) rfl ?_); go_must (refine store_event ?hg (t := 3) (p := 62) (v := .tmp 60) (w1 := w3.setCell ⟨g, 1, none⟩ (.int .i64 ((a : Int) + 1))) ?ho ?hN ?hr ?_); (case ho => rfl); (case hN => rfl); (case hg => rfl); (case hr => first | (go_simp; done) | (go_simp; rfl)); intro w4 ex; have L4 := Aside0.mk (L3.out.fr (ex ▸ wt.Fr.set _ _ _ _) (ex ▸ L3.out.blk.set1 _)); have FR4 := Aside0.mk (show wt.Fr g w w4 from ex ▸ FR3.out.trans (wt.Fr.set _ _ _ _)); have BL4 := Aside0.mk (show Below w0.heap.size w0 w4 from ex ▸ BL3.out.setCell HGG.out _); clear ex; clear h0 h1 h2 h3 f1 f2 hx0 fr_; have h0 := L4.out.blk.c0; have h1 := L4.out.blk.c1; have h2 := L4.out.blk.c2; have h3 := L4.out.blk.c3; have f1 := L4.out.blk.fz 1; have f2 := L4.out.blk.fz 2; have hx0 := L4.out.byt; have fr_ := blk_frozen L4.out.res 0))
  clear h0 h1 h2 h3 f1 f2 hx0 fr_
  refine start_ (n := 16) (S := fun w' => w'.cell? ⟨g, 0, none⟩ = some (.slice (some ad) m c) ∧ w'.cell? ⟨g, 1, none⟩ = some (.int .i64 ((a : Int) + 1))) (ds := []) #[false, false, false, false, false, false, false, false, false, false, false, false, false, false, false, false] (by kernel_rfl) rfl rfl ⟨(L4.out.blk.below (below_drew (Below.refl _ _))).c0, (L4.out.blk.below (below_drew (Below.refl _ _))).c1⟩ (fun hHeld => ?_)
  generalize hwd : w4.drew = wd at hHeld ⊢
  have Ld := Aside0.mk (hwd ▸ L4.out.below (below_drew (Below.refl _ _)))
  have FRd := Aside0.mk (hwd ▸ FR4.out.trans (wt.Fr.of_below (g := g) (below_drew (Below.refl _ _))))
  have BLd := Aside0.mk (hwd ▸ below_drew BL4.out)
  clear hwd
  refine pure_ (i := 0) (N := some 79) (v := ?_) (a' := ?_) #[true, false, false, false, false, false, false, false, false, false, false, false, false, false, false, false] rfl rfl (by kernel_rfl) (fun _ _ _ h => h) (Or.inl ⟨by rfl, ?_⟩) ?_ ?_
  rotate_left
  · intro w'
    go_simp
    with_reducible rfl
  rotate_left
  · simp only [Act.put, List.setIfInBounds_toArray, List.set_cons_zero, List.set_cons_succ, i64_w, i32_w]
    rfl
  refine pure_ (i := 1) (N := some 80) (v := ?_) (a' := ?_) #[true, true, false, false, false, false, false, false, false, false, false, false, false, false, false, false] rfl rfl (by kernel_rfl) (fun _ _ _ h => h) (Or.inl ⟨by rfl, ?_⟩) ?_ ?_
  rotate_left
  · intro w'
    go_simp
    with_reducible rfl
  rotate_left
  · simp only [Act.put, List.setIfInBounds_toArray, List.set_cons_zero, List.set_cons_succ, i64_w, i32_w]
    rfl
  refine pure_ (i := 2) (N := some 81) (v := ?_) (a' := ?_) #[true, true, true, false, false, false, false, false, false, false, false, false, false, false, false, false] rfl rfl (by kernel_rfl) (fun _ _ _ h => h) (Or.inl ⟨by rfl, ?_⟩) ?_ ?_
  rotate_left
  · intro w'
    go_simp
    with_reducible rfl
  rotate_left
  · simp only [Act.put, List.setIfInBounds_toArray, List.set_cons_zero, List.set_cons_succ, i64_w, i32_w]
    rfl
  refine pure_ (i := 4) (N := some 83) (v := ?_) (a' := ?_) #[true, true, true, false, true, false, false, false, false, false, false, false, false, false, false, false] rfl rfl (by kernel_rfl) (fun _ _ _ h => h) (Or.inl ⟨by rfl, ?_⟩) ?_ ?_
  rotate_left
  · intro w'
    go_simp
    with_reducible rfl
  rotate_left
  · simp only [Act.put, List.setIfInBounds_toArray, List.set_cons_zero, List.set_cons_succ, i64_w, i32_w]
    rfl
  refine pure_ (i := 5) (N := some 84) (v := ?_) (a' := ?_) #[true, true, true, false, true, true, false, false, false, false, false, false, false, false, false, false] rfl rfl (by kernel_rfl) (fun _ _ _ h => h) (Or.inl ⟨by rfl, ?_⟩) ?_ ?_
  rotate_left
  · intro w'
    go_simp
    with_reducible rfl
  rotate_left
  · simp only [Act.put, List.setIfInBounds_toArray, List.set_cons_zero, List.set_cons_succ, i64_w, i32_w]
    rfl
  refine pure_ (i := 6) (N := some 85) (v := ?_) (a' := ?_) #[true, true, true, false, true, true, true, false, false, false, false, false, false, false, false, false] rfl rfl (by kernel_rfl) (fun _ _ _ h => h) (Or.inl ⟨by rfl, ?_⟩) ?_ ?_
  rotate_left
  · intro w'
    go_simp
    with_reducible rfl
  rotate_left
  · simp only [Act.put, List.setIfInBounds_toArray, List.set_cons_zero, List.set_cons_succ, i64_w, i32_w]
    rfl
  refine take_ (i := 3) (N := some 82) (v := ?_) (a' := ?_) #[true, true, true, true, true, true, true, false, false, false, false, false, false, false, false, false] rfl rfl (by kernel_rfl) (fun _ _ _ h => h) (Or.inl ⟨by rfl, ?_⟩) hHeld ?_ ?_
  rotate_left
  · rintro w' ⟨s0, s1⟩
    go_simp
    with_reducible rfl
  rotate_left
  · simp only [Act.put, List.setIfInBounds_toArray, List.set_cons_zero, List.set_cons_succ, i64_w, i32_w]
    rfl
  refine take_ (i := 7) (N := some 86) (v := ?_) (a' := ?_) #[true, true, true, true, true, true, true, true, false, false, false, false, false, false, false, false] rfl rfl (by kernel_rfl) (fun _ _ _ h => h) (Or.inl ⟨by rfl, ?_⟩) hHeld ?_ ?_
  rotate_left
  · rintro w' ⟨s0, s1⟩
    go_simp
    with_reducible rfl
  rotate_left
  · simp only [Act.put, List.setIfInBounds_toArray, List.set_cons_zero, List.set_cons_succ, i64_w, i32_w]
    rfl
  refine one_ (i := 8) (N := some 87) #[true, true, true, true, true, true, true, true, true, false, false, false, false, false, false, false] rfl rfl (by kernel_rfl) (by decide) (fun K hK => ?_)
  refine goes_ Try.func60 (by kernel_rfl) rfl #[.slice (some ad) m c, .int .i64 ((a : Int) + 1)] (by rfl) rfl rfl (by (try simp only [List.map_toArray, List.map_cons, List.map_nil]); first | done | rfl) ?_
  refine (wt.rint1 HK.out (wt.rbytes HC.out HB.out FRd.out) HCC.out).mono ?_
  rintro e w5 ⟨rfl, hd⟩
  refine ⟨_, rfl, ?_⟩
  have L5 := Aside0.mk (Ld.out.below hd.below)
  have FR5 := Aside0.mk (FRd.out.trans (wt.Fr.of_below hd.below))
  have BL5 := Aside0.mk (below_then BLd.out BLd.out.size hd.below)
  clear hd
  refine hK.out _ _ ⟨L5.out.blk.c0, L5.out.blk.c1⟩ (fun hHeld => ?_)
  clear hK K
  refine norm_ (a' := ?_) ?_ ?_
  rotate_left
  · show Act.put _ (some 87) _ = _
    simp only [Act.put, List.setIfInBounds_toArray, List.set_cons_zero, List.set_cons_succ, i64_w, i32_w]
    rfl
  refine pure_ (i := 9) (N := some 78) (v := ?_) (a' := ?_) #[true, true, true, true, true, true, true, true, true, true, false, false, false, false, false, false] rfl rfl (by kernel_rfl) (fun _ _ _ h => h) (Or.inl ⟨by rfl, ?_⟩) ?_ ?_
  rotate_left
  · intro w'
    go_simp
    with_reducible rfl
  rotate_left
  · simp only [Act.put, List.setIfInBounds_toArray, List.set_cons_zero, List.set_cons_succ, i64_w, i32_w]
    rfl
  refine pure_ (i := 10) (N := some 88) (v := ?_) (a' := ?_) #[true, true, true, true, true, true, true, true, true, true, true, false, false, false, false, false] rfl rfl (by kernel_rfl) (fun _ _ _ h => h) (Or.inl ⟨by rfl, ?_⟩) ?_ ?_
  rotate_left
  · intro w'
    go_simp
    with_reducible rfl
  rotate_left
  · simp only [Act.put, List.setIfInBounds_toArray, List.set_cons_zero, List.set_cons_succ, i64_w, i32_w]
    rfl
  refine pure_ (i := 11) (N := some 89) (v := ?_) (a' := ?_) #[true, true, true, true, true, true, true, true, true, true, true, true, false, false, false, false] rfl rfl (by kernel_rfl) (fun _ _ _ h => h) (Or.inl ⟨by rfl, ?_⟩) ?_ ?_
  rotate_left
  · intro w'
    go_simp
    with_reducible rfl
  rotate_left
  · simp only [Act.put, List.setIfInBounds_toArray, List.set_cons_zero, List.set_cons_succ, i64_w, i32_w]
    rfl
  refine pure_ (i := 12) (N := some 90) (v := ?_) (a' := ?_) #[true, true, true, true, true, true, true, true, true, true, true, true, true, false, false, false] rfl rfl (by kernel_rfl) (fun _ _ _ h => h) (Or.inl ⟨by rfl, ?_⟩) ?_ ?_
  rotate_left
  · intro w'
    go_simp
    with_reducible rfl
  rotate_left
  · simp only [Act.put, List.setIfInBounds_toArray, List.set_cons_zero, List.set_cons_succ, i64_w, i32_w]
    rfl
  refine pure_ (i := 13) (N := some 6) (v := ?_) (a' := ?_) #[true, true, true, true, true, true, true, true, true, true, true, true, true, true, false, false] rfl rfl (by kernel_rfl) (fun _ _ _ h => h) (Or.inl ⟨by rfl, ?_⟩) ?_ ?_
  rotate_left
  · intro w'
    go_simp
    with_reducible rfl
  rotate_left
  · simp only [Act.put, List.setIfInBounds_toArray, List.set_cons_zero, List.set_cons_succ, i64_w, i32_w]
    rfl
  refine pure_ (i := 14) (N := some 7) (v := ?_) (a' := ?_) #[true, true, true, true, true, true, true, true, true, true, true, true, true, true, true, false] rfl rfl (by kernel_rfl) (fun _ _ _ h => h) (Or.inl ⟨by rfl, ?_⟩) ?_ ?_
  rotate_left
  · intro w'
    go_simp
    with_reducible rfl
  rotate_left
  · simp only [Act.put, List.setIfInBounds_toArray, List.set_cons_zero, List.set_cons_succ, i64_w, i32_w]
    rfl
  refine pure_ (i := 15) (N := some 8) (v := ?_) (a' := ?_) #[true, true, true, true, true, true, true, true, true, true, true, true, true, true, true, true] rfl rfl (by kernel_rfl) (fun _ _ _ h => h) (Or.inl ⟨by rfl, ?_⟩) ?_ ?_
  rotate_left
  · intro w'
    go_simp
    with_reducible rfl
  rotate_left
  · simp only [Act.put, List.setIfInBounds_toArray, List.set_cons_zero, List.set_cons_succ, i64_w, i32_w]
    rfl
  refine done_ (by kernel_rfl) ?_
  have h0 := L5.out.blk.c0; have h1 := L5.out.blk.c1; have h2 := L5.out.blk.c2; have h3 := L5.out.blk.c3; have f1 := L5.out.blk.fz 1; have f2 := L5.out.blk.fz 2; have hx0 := L5.out.byt; have fr_ := blk_frozen L5.out.res 0
  go_wp2_with (first | (go_at_call 58; refine (wt.wrong1 BL5.out HGG.out L5.out.blk 41 ((a : Int) + 1)).mono ?_; rintro e_ w6 ⟨rfl, hx⟩; have HX := Aside0.mk hx; have LX := Aside0.mk (L5.out.fr HX.out.fr HX.out.blk); clear hx; clear h0 h1 h2 h3 f1 f2 hx0 fr_; have h0 := LX.out.blk.c0; have h1 := LX.out.blk.c1; have h2 := LX.out.blk.c2; have h3 := LX.out.blk.c3; have f1 := LX.out.blk.fz 1; have f2 := LX.out.blk.fz 2; have hx0 := LX.out.byt; have fr_ := blk_frozen LX.out.res 0) | ((with_reducible refine gate_store (p := 4) rfl ?_); refine wt.store_res rfl rfl 4 _ rfl w.heap.size rfl (.int .i64 0) (.int .i64 0) (.string ⟨#[]⟩) (.slice none 0 0) (.slice none 0 0) rfl (fun q hq => by simp at hq; rcases hq with rfl | rfl | rfl | rfl | rfl <;> rfl) _ rfl LX.out.res ?_; intro w5_ hres hgr; have HRES := Aside0.mk hres; have HGR := Aside0.mk hgr; clear hgr hres))
  go_wp2
  refine bodyPost_ret (results_cell_row rfl _ _ w.heap.size 25 _ (0, 0) _ rfl HRES.out Try.underlying25 rfl (by kernel_rfl)) rfl ?_
  exact ⟨⟨⟨0, 0, ⟨#[]⟩, [], []⟩, _, _, rfl, Kd.R_nil _ _ _ _ _, Kd.R_nil _ _ _ _ _⟩, by decide, _, _, wt.fin_rnx (FR5.out.trans HX.out.fr) HX.out.blk L5.out.ne.2 HGR.out (Nat.le_refl _) HBB.out.size HX.out.bel⟩
end
end Go.Proofs.Ytnkbobblnhaclaa.X

/- Xxwref2: walks by hand, for the claim. -/
namespace Go.Proofs.Ytnkbobblnhaclaa.X
open Go.RowKit Go.Proofs.YtnkbobblnhaclaaW.PrintWords Go.Proofs.YtnkbobblnhaclaaW.PrintLast Go.Proofs.YtnkbobblnhaclaaW.PrintMore Go.Proofs.YtnkbobblnhaclaaW
section
set_option maxHeartbeats 4000000
set_option maxRecDepth 100000
theorem wt.genW1 {F : Exit → Act → World → Prop} {e : Exit} {a : Act} {w : World} (n : Nat) (h : ∀ w1, w1 = w.drewN n → F e a w1) : F e a (w.drewN n) := h _ rfl
theorem wt.countS_ne {u : Int → Int × Int × Int} {tag each a l f q : Int} (h : wt.countS u tag each a l = .bad f q) : f ≠ 0 := by
  unfold wt.countS at h
  split at h
  · injection h with e1 _; subst e1; decide
  · split at h
    · injection h with e1 _; subst e1; decide
    · cases h
theorem wt.keyS_ne {bs : List Int} {u : Int → Int × Int × Int} {ks : List ByteArray} {a l f q : Int} (h : wt.keyS bs u ks a l = .bad f q) : f ≠ 0 := by
  unfold wt.keyS at h
  split at h
  · injection h with e1 _; subst e1; decide
  split at h
  · injection h with e1 _; subst e1; decide
  split at h
  · injection h with e1 _; subst e1; decide
  dsimp only at h
  split at h
  · injection h with e1 _; subst e1; decide
  split at h
  · injection h with e1 _; subst e1; decide
  · cases h
theorem wt.rv_t4E {bs : List Int} {u i : Int → Int × Int × Int} (hU : wt.Uin bs u i) (hR : wt.Rin bs u i) {w0 w : World} {g : Nat} {A : Option Addr} {c : Nat} {a wq p : Int} (hb : Below w0.heap.size w0 w) (hg : w0.heap.size ≤ g) (hB : wt.RB w g A bs.length c a wq 0 p) (hC : (Kd.int .u8).C w A bs.length bs) (hc : bs.length ≤ c) (within : Int) (hw : within < 8) (ha0 : 0 ≤ a) (ha1 : a < (bs.length : Int)) (hwq : 0 ≤ wq ∧ wq + 1 ≤ 2048) (ht : rd bs a = 4) {f q : Int} (hf : f ≠ 0) (hcb : wt.countS u (a : Int) 1 (a + 1) (2048 - (wq + 1)) = .bad f q) :
    Calls Try.prog 40 #[.pointer (some ⟨g, 0, none⟩), .int .i64 within] w (wt.RGotV (.bad f q) w0 w g A bs.length c p) := by
  have HB := Aside0.mk hB
  have HC := Aside0.mk hC
  have HCC := Aside0.mk hc
  have HBB := Aside0.mk hb
  have HGG := Aside0.mk hg
  have HLL := Aside0.mk hU.L
  have HUU := Aside0.mk hU
  have HRR := Aside0.mk hR
  have HGL := Aside0.mk (show g < w.heap.size from blk_lt hB)
  have hu25 := Try.underlying25
  have HBW := Aside0.mk ((Below.refl w.heap.size w).alloc (Nat.le_refl _) (.cells #[.int .i64 0, .int .i64 0, .string ⟨#[]⟩, .slice none 0 0, .slice none 0 0] 25))
  have BL1 := Aside0.mk (hb.alloc hb.size (.cells #[.int .i64 0, .int .i64 0, .string ⟨#[]⟩, .slice none 0 0, .slice none 0 0] 25))
  obtain ⟨a, rfl⟩ := Int.eq_ofNat_of_zero_le ha0
  have t0 : decide ((a : Int) ≥ (bs.length : Int)) = false := decide_eq_false (by omega)
  have t1 : decide ((bs.length : Int) ≤ (a : Int)) = false := decide_eq_false (by omega)
  have t2 : decide (bs.length ≤ a) = false := decide_eq_false (by omega)
  have t3 : (a : Int) < (bs.length : Int) := ha1
  have t4 : a < bs.length := by omega
  have t5 : decide (a < bs.length) = true := decide_eq_true t4
  obtain ⟨ad, hA, hx0_⟩ := Kd.at_int hC (a : Int) (by omega) ha1
  subst hA
  rw [Int.toNat_natCast] at hx0_
  obtain ⟨x, hxd⟩ : ∃ x, rd bs (a : Int) = x := ⟨_, rfl⟩
  rw [hxd] at hx0_ ht
  have L1 := Aside0.mk (show wt.RLy (w.alloc (.cells #[.int .i64 0, .int .i64 0, .string ⟨#[]⟩, .slice none 0 0, .slice none 0 0] 25)) g (some ad) bs.length c (a : Int) wq 0 p (ad.add a) x w.heap.size #[.int .i64 0, .int .i64 0, .string ⟨#[]⟩, .slice none 0 0, .slice none 0 0] from ⟨HB.out.below HBW.out, (HBW.out.cell (World.block_lt_of_cell? w _ hx0_)).trans hx0_, by simpa using heap_alloc_new w _⟩)
  clear hx0_ hxd
  subst ht
  have w1 : decide (within ≥ 8) = false := decide_eq_false (by omega)
  have w2 : decide (8 ≤ within) = false := decide_eq_false (by omega)
  have HWQ := Aside0.mk hwq
  have hwr : wrap64 ((a : Int) + 1) = (a : Int) + 1 := by have := HLL.out; unfold wrap64; omega
  -- KEEPM
  have d1 : (f != 0) = true := bne_iff_ne.2 hf
  have d2 : (f == 0) = false := beq_eq_false_iff_ne.2 hf
  have d3 : decide (f = 0) = false := decide_eq_false hf
  have HCB := Aside0.mk hcb
  have HFN := Aside0.mk hf
  clear hf hcb
  have h0 := L1.out.blk.c0; have h1 := L1.out.blk.c1; have h2 := L1.out.blk.c2; have h3 := L1.out.blk.c3; have f1 := L1.out.blk.fz 1; have f2 := L1.out.blk.fz 2; have hx0 := L1.out.byt; have fr_ := blk_frozen L1.out.res 0
  clear ha1 ha0 hwq hw
  clear hU hR hb hg hB hC hc
  go_enter Try.func40, Try.ntmps40
  go_wp2_with (first | (go_at_call 59; refine (wt.heavY BL1.out HGG.out L1.out.blk 1 (a : Int) HWQ.out.1 (by omega) HWQ.out.2).mono ?_; rintro e_ w3 ⟨rfl, hx⟩; have L3 := Aside0.mk (L1.out.fr hx.fr hx.blk); have FR3 := Aside0.mk ((wt.Fr.of_below HBW.out).trans hx.fr); have BL3 := Aside0.mk hx.bel; clear hx; clear h0 h1 h2 h3 f1 f2 hx0 fr_; have h0 := L3.out.blk.c0; have h1 := L3.out.blk.c1; have h2 := L3.out.blk.c2; have h3 := L3.out.blk.c3; have f1 := L3.out.blk.fz 1; have f2 := L3.out.blk.fz 2; have hx0 := L3.out.byt; have fr_ := blk_frozen L3.out.res 0) | ((with_reducible refine gate_store (p := 62) rfl ?_); go_must (refine store_event ?hg (t := 3) (p := 62) (v := .tmp 60) (w1 := w3.setCell ⟨g, 1, none⟩ (.int .i64 ((a : Int) + 1))) ?ho ?hN ?hr ?_); (case ho => rfl); (case hN => rfl); (case hg => rfl); (case hr => first | (go_simp; done) | (go_simp; rfl)); intro w4 ex; have L4 := Aside0.mk (L3.out.fr (ex ▸ wt.Fr.set _ _ _ _) (ex ▸ L3.out.blk.set1 _)); have FR4 := Aside0.mk (show wt.Fr g w w4 from ex ▸ FR3.out.trans (wt.Fr.set _ _ _ _)); have BL4 := Aside0.mk (show Below w0.heap.size w0 w4 from ex ▸ BL3.out.setCell HGG.out _); clear ex; clear h0 h1 h2 h3 f1 f2 hx0 fr_; have h0 := L4.out.blk.c0; have h1 := L4.out.blk.c1; have h2 := L4.out.blk.c2; have h3 := L4.out.blk.c3; have f1 := L4.out.blk.fz 1; have f2 := L4.out.blk.fz 2; have hx0 := L4.out.byt; have fr_ := blk_frozen L4.out.res 0))
  go_wp2_with (first | (go_at_call 61; refine (wt.rnum1 HUU.out HRR.out BL4.out HGG.out L4.out.blk (wt.rbytes HC.out HB.out FR4.out) HCC.out (a : Int) 1 (by omega) (by have := HWQ.out; omega)).mono ?_; rw [HCB.out]; rintro e_ w5 ⟨⟨y, rfl⟩, b1, b2, hx⟩; have L5 := Aside0.mk (L4.out.fr hx.fr hx.blk); have FR5 := Aside0.mk (FR4.out.trans hx.fr); have BL5 := Aside0.mk hx.bel; clear hx; clear h0 h1 h2 h3 f1 f2 hx0 fr_; have h0 := L5.out.blk.c0; have h1 := L5.out.blk.c1; have h2 := L5.out.blk.c2; have h3 := L5.out.blk.c3; have f1 := L5.out.blk.fz 1; have f2 := L5.out.blk.fz 2; have hx0 := L5.out.byt; have fr_ := blk_frozen L5.out.res 0))
  go_quiet (fail)
  refine wt.genW1 _ (fun w6 hw => ?_)
  have L6 := Aside0.mk (hw ▸ L5.out.below (pw_below_drewN (Below.refl _ _) _))
  have FR6 := Aside0.mk (show wt.Fr g w w6 from hw ▸ FR5.out.trans (wt.Fr.of_below (pw_below_drewN (Below.refl _ _) _)))
  have BL6 := Aside0.mk (show Below w0.heap.size w0 w6 from hw ▸ pw_below_drewN BL5.out _)
  clear hw
  clear h0 h1 h2 h3 f1 f2 hx0 fr_
  have h0 := L6.out.blk.c0; have h1 := L6.out.blk.c1; have h2 := L6.out.blk.c2; have h3 := L6.out.blk.c3; have f1 := L6.out.blk.fz 1; have f2 := L6.out.blk.fz 2; have hx0 := L6.out.byt; have fr_ := blk_frozen L6.out.res 0
  go_wp2_with (first | ((with_reducible refine gate_store (p := 4) rfl ?_); refine wt.store_res rfl rfl 4 _ rfl w.heap.size rfl (.int .i64 0) (.int .i64 0) (.string ⟨#[]⟩) (.slice none 0 0) (.slice none 0 0) rfl (fun q hq => by simp at hq; rcases hq with rfl | rfl | rfl | rfl | rfl <;> rfl) _ rfl L6.out.res ?_; intro w5_ hres hgr; have HRES := Aside0.mk hres; have HGR := Aside0.mk hgr; clear hgr hres))
  go_wp2
  refine bodyPost_ret (results_cell_row rfl _ _ w.heap.size 25 _ (0, 0) _ rfl HRES.out Try.underlying25 rfl (by kernel_rfl)) rfl ?_
  exact ⟨⟨⟨0, 0, ⟨#[]⟩, [], []⟩, _, _, rfl, Kd.R_nil _ _ _ _ _, Kd.R_nil _ _ _ _ _⟩, HFN.out, _, _, wt.fin_rnx FR6.out L6.out.blk L6.out.ne.2 HGR.out (Nat.le_refl _) HBB.out.size BL6.out⟩
theorem wt.rv_t4C {bs : List Int} {u i : Int → Int × Int × Int} (hU : wt.Uin bs u i) (hR : wt.Rin bs u i) {w0 w : World} {g : Nat} {A : Option Addr} {c : Nat} {a wq p : Int} (hb : Below w0.heap.size w0 w) (hg : w0.heap.size ≤ g) (hB : wt.RB w g A bs.length c a wq 0 p) (hC : (Kd.int .u8).C w A bs.length bs) (hc : bs.length ≤ c) (within : Int) (hw : within < 8) (ha0 : 0 ≤ a) (ha1 : a < (bs.length : Int)) (hwq : 0 ≤ wq ∧ wq + 1 ≤ 2048) (ht : rd bs a = 4) {n a1 : Int} (hcb : wt.countS u (a : Int) 1 (a + 1) (2048 - (wq + 1)) = .ok n a1 (2048 - (wq + 1))) (hbd : 0 ≤ n ∧ n ≤ 2048 - (wq + 1) ∧ 0 ≤ a1 ∧ a1 ≤ (bs.length : Int)) (hn : (bs.length : Int) - a1 < n) :
    Calls Try.prog 40 #[.pointer (some ⟨g, 0, none⟩), .int .i64 within] w (wt.RGotV (.bad 41 (a + 1)) w0 w g A bs.length c p) := by
  have HB := Aside0.mk hB
  have HC := Aside0.mk hC
  have HCC := Aside0.mk hc
  have HBB := Aside0.mk hb
  have HGG := Aside0.mk hg
  have HLL := Aside0.mk hU.L
  have HUU := Aside0.mk hU
  have HRR := Aside0.mk hR
  have HGL := Aside0.mk (show g < w.heap.size from blk_lt hB)
  have hu25 := Try.underlying25
  have HBW := Aside0.mk ((Below.refl w.heap.size w).alloc (Nat.le_refl _) (.cells #[.int .i64 0, .int .i64 0, .string ⟨#[]⟩, .slice none 0 0, .slice none 0 0] 25))
  have BL1 := Aside0.mk (hb.alloc hb.size (.cells #[.int .i64 0, .int .i64 0, .string ⟨#[]⟩, .slice none 0 0, .slice none 0 0] 25))
  obtain ⟨a, rfl⟩ := Int.eq_ofNat_of_zero_le ha0
  have t0 : decide ((a : Int) ≥ (bs.length : Int)) = false := decide_eq_false (by omega)
  have t1 : decide ((bs.length : Int) ≤ (a : Int)) = false := decide_eq_false (by omega)
  have t2 : decide (bs.length ≤ a) = false := decide_eq_false (by omega)
  have t3 : (a : Int) < (bs.length : Int) := ha1
  have t4 : a < bs.length := by omega
  have t5 : decide (a < bs.length) = true := decide_eq_true t4
  obtain ⟨ad, hA, hx0_⟩ := Kd.at_int hC (a : Int) (by omega) ha1
  subst hA
  rw [Int.toNat_natCast] at hx0_
  obtain ⟨x, hxd⟩ : ∃ x, rd bs (a : Int) = x := ⟨_, rfl⟩
  rw [hxd] at hx0_ ht
  have L1 := Aside0.mk (show wt.RLy (w.alloc (.cells #[.int .i64 0, .int .i64 0, .string ⟨#[]⟩, .slice none 0 0, .slice none 0 0] 25)) g (some ad) bs.length c (a : Int) wq 0 p (ad.add a) x w.heap.size #[.int .i64 0, .int .i64 0, .string ⟨#[]⟩, .slice none 0 0, .slice none 0 0] from ⟨HB.out.below HBW.out, (HBW.out.cell (World.block_lt_of_cell? w _ hx0_)).trans hx0_, by simpa using heap_alloc_new w _⟩)
  clear hx0_ hxd
  subst ht
  have w1 : decide (within ≥ 8) = false := decide_eq_false (by omega)
  have w2 : decide (8 ≤ within) = false := decide_eq_false (by omega)
  have HWQ := Aside0.mk hwq
  have hwr : wrap64 ((a : Int) + 1) = (a : Int) + 1 := by have := HLL.out; unfold wrap64; omega
  -- KEEPM
  have HCB := Aside0.mk hcb
  have HBD := Aside0.mk hbd
  have hs0 : wrap64 ((bs.length : Int) - a1) = (bs.length : Int) - a1 := by have := HLL.out; unfold wrap64; omega
  have d4 : decide (n > (bs.length : Int) - a1) = true := decide_eq_true (by omega)
  have d5 : decide ((bs.length : Int) - a1 < n) = true := decide_eq_true (by omega)
  clear hn hcb hbd
  have h0 := L1.out.blk.c0; have h1 := L1.out.blk.c1; have h2 := L1.out.blk.c2; have h3 := L1.out.blk.c3; have f1 := L1.out.blk.fz 1; have f2 := L1.out.blk.fz 2; have hx0 := L1.out.byt; have fr_ := blk_frozen L1.out.res 0
  clear ha1 ha0 hwq hw
  clear hU hR hb hg hB hC hc
  go_enter Try.func40, Try.ntmps40
  go_wp2_with (first | (go_at_call 59; refine (wt.heavY BL1.out HGG.out L1.out.blk 1 (a : Int) HWQ.out.1 (by omega) HWQ.out.2).mono ?_; rintro e_ w3 ⟨rfl, hx⟩; have L3 := Aside0.mk (L1.out.fr hx.fr hx.blk); have FR3 := Aside0.mk ((wt.Fr.of_below HBW.out).trans hx.fr); have BL3 := Aside0.mk hx.bel; clear hx; clear h0 h1 h2 h3 f1 f2 hx0 fr_; have h0 := L3.out.blk.c0; have h1 := L3.out.blk.c1; have h2 := L3.out.blk.c2; have h3 := L3.out.blk.c3; have f1 := L3.out.blk.fz 1; have f2 := L3.out.blk.fz 2; have hx0 := L3.out.byt; have fr_ := blk_frozen L3.out.res 0) | ((with_reducible refine gate_store (p := 62) rfl ?_); go_must (refine store_event ?hg (t := 3) (p := 62) (v := .tmp 60) (w1 := w3.setCell ⟨g, 1, none⟩ (.int .i64 ((a : Int) + 1))) ?ho ?hN ?hr ?_); (case ho => rfl); (case hN => rfl); (case hg => rfl); (case hr => first | (go_simp; done) | (go_simp; rfl)); intro w4 ex; have L4 := Aside0.mk (L3.out.fr (ex ▸ wt.Fr.set _ _ _ _) (ex ▸ L3.out.blk.set1 _)); have FR4 := Aside0.mk (show wt.Fr g w w4 from ex ▸ FR3.out.trans (wt.Fr.set _ _ _ _)); have BL4 := Aside0.mk (show Below w0.heap.size w0 w4 from ex ▸ BL3.out.setCell HGG.out _); clear ex; clear h0 h1 h2 h3 f1 f2 hx0 fr_; have h0 := L4.out.blk.c0; have h1 := L4.out.blk.c1; have h2 := L4.out.blk.c2; have h3 := L4.out.blk.c3; have f1 := L4.out.blk.fz 1; have f2 := L4.out.blk.fz 2; have hx0 := L4.out.byt; have fr_ := blk_frozen L4.out.res 0))
  go_wp2_with (first | (go_at_call 61; refine (wt.rnum1 HUU.out HRR.out BL4.out HGG.out L4.out.blk (wt.rbytes HC.out HB.out FR4.out) HCC.out (a : Int) 1 (by omega) (by have := HWQ.out; omega)).mono ?_; rw [HCB.out]; rintro e_ w5 ⟨rfl, hx⟩; rw [show (2048 - (2048 - (wq + 1)) : Int) = wq + 1 by omega] at hx; have L5 := Aside0.mk (L4.out.fr hx.fr hx.blk); have FR5 := Aside0.mk (FR4.out.trans hx.fr); have BL5 := Aside0.mk hx.bel; clear hx; clear h0 h1 h2 h3 f1 f2 hx0 fr_; have h0 := L5.out.blk.c0; have h1 := L5.out.blk.c1; have h2 := L5.out.blk.c2; have h3 := L5.out.blk.c3; have f1 := L5.out.blk.fz 1; have f2 := L5.out.blk.fz 2; have hx0 := L5.out.byt; have fr_ := blk_frozen L5.out.res 0))
  go_quiet (fail)
  refine wt.genW1 _ (fun w6 hw => ?_)
  have L6 := Aside0.mk (hw ▸ L5.out.below (pw_below_drewN (Below.refl _ _) _))
  have FR6 := Aside0.mk (show wt.Fr g w w6 from hw ▸ FR5.out.trans (wt.Fr.of_below (pw_below_drewN (Below.refl _ _) _)))
  have BL6 := Aside0.mk (show Below w0.heap.size w0 w6 from hw ▸ pw_below_drewN BL5.out _)
  clear hw
  clear h0 h1 h2 h3 f1 f2 hx0 fr_
  have h0 := L6.out.blk.c0; have h1 := L6.out.blk.c1; have h2 := L6.out.blk.c2; have h3 := L6.out.blk.c3; have f1 := L6.out.blk.fz 1; have f2 := L6.out.blk.fz 2; have hx0 := L6.out.byt; have fr_ := blk_frozen L6.out.res 0
  go_wp2_with (first | (go_at_call 58; refine (wt.wrong1 BL6.out HGG.out L6.out.blk 41 ((a : Int) + 1)).mono ?_; rintro e_ w7 ⟨rfl, hx⟩; have HX := Aside0.mk hx; have LX := Aside0.mk (L6.out.fr HX.out.fr HX.out.blk); clear hx; clear h0 h1 h2 h3 f1 f2 hx0 fr_; have h0 := LX.out.blk.c0; have h1 := LX.out.blk.c1; have h2 := LX.out.blk.c2; have h3 := LX.out.blk.c3; have f1 := LX.out.blk.fz 1; have f2 := LX.out.blk.fz 2; have hx0 := LX.out.byt; have fr_ := blk_frozen LX.out.res 0) | ((with_reducible refine gate_store (p := 4) rfl ?_); refine wt.store_res rfl rfl 4 _ rfl w.heap.size rfl (.int .i64 0) (.int .i64 0) (.string ⟨#[]⟩) (.slice none 0 0) (.slice none 0 0) rfl (fun q hq => by simp at hq; rcases hq with rfl | rfl | rfl | rfl | rfl <;> rfl) _ rfl LX.out.res ?_; intro w5_ hres hgr; have HRES := Aside0.mk hres; have HGR := Aside0.mk hgr; clear hgr hres))
  go_wp2
  refine bodyPost_ret (results_cell_row rfl _ _ w.heap.size 25 _ (0, 0) _ rfl HRES.out Try.underlying25 rfl (by kernel_rfl)) rfl ?_
  exact ⟨⟨⟨0, 0, ⟨#[]⟩, [], []⟩, _, _, rfl, Kd.R_nil _ _ _ _ _, Kd.R_nil _ _ _ _ _⟩, by decide, _, _, wt.fin_rnx (FR6.out.trans HX.out.fr) HX.out.blk L6.out.ne.2 HGR.out (Nat.le_refl _) HBB.out.size HX.out.bel⟩
theorem wt.rv_t4 {bs : List Int} {u i : Int → Int × Int × Int} (hU : wt.Uin bs u i) (hR : wt.Rin bs u i) {w0 w : World} {g : Nat} {A : Option Addr} {c : Nat} {a wq p : Int} (hb : Below w0.heap.size w0 w) (hg : w0.heap.size ≤ g) (hB : wt.RB w g A bs.length c a wq 0 p) (hC : (Kd.int .u8).C w A bs.length bs) (hc : bs.length ≤ c) (within : Int) (hw : within < 8) (ha0 : 0 ≤ a) (ha1 : a < (bs.length : Int)) (hwq : 0 ≤ wq ∧ wq + 1 ≤ 2048) (ht : rd bs a = 4) {n a1 : Int} (hcb : wt.countS u (a : Int) 1 (a + 1) (2048 - (wq + 1)) = .ok n a1 (2048 - (wq + 1))) (hbd : 0 ≤ n ∧ n ≤ 2048 - (wq + 1) ∧ 0 ≤ a1 ∧ a1 ≤ (bs.length : Int)) (hn : n ≤ (bs.length : Int) - a1) :
    Calls Try.prog 40 #[.pointer (some ⟨g, 0, none⟩), .int .i64 within] w (wt.RGotV (.ok ⟨3, 0, strOfNums ((bs.drop a1.toNat).take n.toNat), [], []⟩ (a1 + n) (2048 - (wq + 1) - n)) w0 w g A bs.length c p) := by
  have HB := Aside0.mk hB
  have HC := Aside0.mk hC
  have HCC := Aside0.mk hc
  have HBB := Aside0.mk hb
  have HGG := Aside0.mk hg
  have HLL := Aside0.mk hU.L
  have HUU := Aside0.mk hU
  have HRR := Aside0.mk hR
  have HGL := Aside0.mk (show g < w.heap.size from blk_lt hB)
  have hu25 := Try.underlying25
  have HBW := Aside0.mk ((Below.refl w.heap.size w).alloc (Nat.le_refl _) (.cells #[.int .i64 0, .int .i64 0, .string ⟨#[]⟩, .slice none 0 0, .slice none 0 0] 25))
  have BL1 := Aside0.mk (hb.alloc hb.size (.cells #[.int .i64 0, .int .i64 0, .string ⟨#[]⟩, .slice none 0 0, .slice none 0 0] 25))
  obtain ⟨a, rfl⟩ := Int.eq_ofNat_of_zero_le ha0
  have t0 : decide ((a : Int) ≥ (bs.length : Int)) = false := decide_eq_false (by omega)
  have t1 : decide ((bs.length : Int) ≤ (a : Int)) = false := decide_eq_false (by omega)
  have t2 : decide (bs.length ≤ a) = false := decide_eq_false (by omega)
  have t3 : (a : Int) < (bs.length : Int) := ha1
  have t4 : a < bs.length := by omega
  have t5 : decide (a < bs.length) = true := decide_eq_true t4
  obtain ⟨ad, hA, hx0_⟩ := Kd.at_int hC (a : Int) (by omega) ha1
  subst hA
  rw [Int.toNat_natCast] at hx0_
  obtain ⟨x, hxd⟩ : ∃ x, rd bs (a : Int) = x := ⟨_, rfl⟩
  rw [hxd] at hx0_ ht
  have L1 := Aside0.mk (show wt.RLy (w.alloc (.cells #[.int .i64 0, .int .i64 0, .string ⟨#[]⟩, .slice none 0 0, .slice none 0 0] 25)) g (some ad) bs.length c (a : Int) wq 0 p (ad.add a) x w.heap.size #[.int .i64 0, .int .i64 0, .string ⟨#[]⟩, .slice none 0 0, .slice none 0 0] from ⟨HB.out.below HBW.out, (HBW.out.cell (World.block_lt_of_cell? w _ hx0_)).trans hx0_, by simpa using heap_alloc_new w _⟩)
  clear hx0_ hxd
  subst ht
  have w1 : decide (within ≥ 8) = false := decide_eq_false (by omega)
  have w2 : decide (8 ≤ within) = false := decide_eq_false (by omega)
  have HWQ := Aside0.mk hwq
  have hwr : wrap64 ((a : Int) + 1) = (a : Int) + 1 := by have := HLL.out; unfold wrap64; omega
  -- KEEPM
  have HCB := Aside0.mk hcb
  have HBD := Aside0.mk hbd
  have hs0 : wrap64 ((bs.length : Int) - a1) = (bs.length : Int) - a1 := by have := HLL.out; unfold wrap64; omega
  have d4 : decide (n > (bs.length : Int) - a1) = false := decide_eq_false (by omega)
  have d5 : decide ((bs.length : Int) - a1 < n) = false := decide_eq_false (by omega)
  obtain ⟨q1, rfl⟩ := Int.eq_ofNat_of_zero_le hbd.1
  obtain ⟨q2, rfl⟩ := Int.eq_ofNat_of_zero_le hbd.2.2.1
  have n1 : (q2 : Int) ≤ (q2 : Int) + (q1 : Int) := by omega
  have n2 : (q2 : Int) + (q1 : Int) ≤ (bs.length : Int) := by omega
  have n3 : q2 ≤ bs.length := by omega
  have n4 : q1 ≤ bs.length - q2 := by omega
  have n0 : (0 : Int) ≤ (q2 : Int) := Int.natCast_nonneg q2
  obtain ⟨i0, hi0, _, hsz0, _⟩ := info_parts info5
  have hcm := cut_mid (P := Try.prog) 26 5 .i64 .i64 Try.underlying26 hi0 1 hsz0 (some ad) bs.length c (q2 : Int) ((q2 : Int) + (q1 : Int)) n0 n1 n2 hc
  rw [Int.toNat_natCast, show ((q2 : Int) + (q1 : Int)).toNat - q2 = q1 by omega] at hcm
  rw [Int.toNat_natCast, Int.toNat_natCast]
  have hlen : ((bs.drop q2).take q1).length = q1 := by rw [List.length_take, List.length_drop]; omega
  have hC3 : ∀ W, wt.Fr g w W → (Kd.int .u8).C W (if c = q2 then some ad else (some ad).map (·.add (q2 * 1))) ((bs.drop q2).take q1).length ((bs.drop q2).take q1) := fun W hW => by
    have := Kd.C_take (m := q1) (Kd.C_drop (m := q2) (wt.rbytes hC HB.out hW) n3 hc) (by rw [List.length_drop]; omega)
    exact this
  have STR := fun (W : World) (hd : wt.Fr g w W) => Kd.C_string (P := Try.prog) (c := c - q2) Try.underlying26 Try.underlying5 Try.underlying9 (hC3 W hd)
  rw [hlen] at STR
  have STR := Aside0.mk STR
  have hz : wrap64 ((q2 : Int) + (q1 : Int)) = (q2 : Int) + (q1 : Int) := by have := HLL.out; unfold wrap64; omega
  have hz2 : wrap64 (wq + 1 + (q1 : Int)) = wq + 1 + (q1 : Int) := by have := hbd.2.1; have := hwq.1; unfold wrap64; omega
  clear hi0 hsz0 hlen hC3 hbd hcb n1 n2 n3 n4 n0 hn
  generalize (if c = q2 then some ad else (some ad).map (·.add (q2 * 1))) = A2 at hcm STR
  generalize hc2 : c - q2 = c2 at hcm STR
  generalize hst : strOfNums ((bs.drop q2).take q1) = st at STR ⊢
  clear hc2 hst
  have h0 := L1.out.blk.c0; have h1 := L1.out.blk.c1; have h2 := L1.out.blk.c2; have h3 := L1.out.blk.c3; have f1 := L1.out.blk.fz 1; have f2 := L1.out.blk.fz 2; have hx0 := L1.out.byt; have fr_ := blk_frozen L1.out.res 0
  clear ha1 ha0 hwq hw
  clear hU hR hb hg hB hC hc
  go_enter Try.func40, Try.ntmps40
  go_wp2_with (first | (go_at_call 59; refine (wt.heavY BL1.out HGG.out L1.out.blk 1 (a : Int) HWQ.out.1 (by omega) HWQ.out.2).mono ?_; rintro e_ w3 ⟨rfl, hx⟩; have L3 := Aside0.mk (L1.out.fr hx.fr hx.blk); have FR3 := Aside0.mk ((wt.Fr.of_below HBW.out).trans hx.fr); have BL3 := Aside0.mk hx.bel; clear hx; clear h0 h1 h2 h3 f1 f2 hx0 fr_; have h0 := L3.out.blk.c0; have h1 := L3.out.blk.c1; have h2 := L3.out.blk.c2; have h3 := L3.out.blk.c3; have f1 := L3.out.blk.fz 1; have f2 := L3.out.blk.fz 2; have hx0 := L3.out.byt; have fr_ := blk_frozen L3.out.res 0) | ((with_reducible refine gate_store (p := 62) rfl ?_); go_must (refine store_event ?hg (t := 3) (p := 62) (v := .tmp 60) (w1 := w3.setCell ⟨g, 1, none⟩ (.int .i64 ((a : Int) + 1))) ?ho ?hN ?hr ?_); (case ho => rfl); (case hN => rfl); (case hg => rfl); (case hr => first | (go_simp; done) | (go_simp; rfl)); intro w4 ex; have L4 := Aside0.mk (L3.out.fr (ex ▸ wt.Fr.set _ _ _ _) (ex ▸ L3.out.blk.set1 _)); have FR4 := Aside0.mk (show wt.Fr g w w4 from ex ▸ FR3.out.trans (wt.Fr.set _ _ _ _)); have BL4 := Aside0.mk (show Below w0.heap.size w0 w4 from ex ▸ BL3.out.setCell HGG.out _); clear ex; clear h0 h1 h2 h3 f1 f2 hx0 fr_; have h0 := L4.out.blk.c0; have h1 := L4.out.blk.c1; have h2 := L4.out.blk.c2; have h3 := L4.out.blk.c3; have f1 := L4.out.blk.fz 1; have f2 := L4.out.blk.fz 2; have hx0 := L4.out.byt; have fr_ := blk_frozen L4.out.res 0))
  go_wp2_with (first | (go_at_call 61; refine (wt.rnum1 HUU.out HRR.out BL4.out HGG.out L4.out.blk (wt.rbytes HC.out HB.out FR4.out) HCC.out (a : Int) 1 (by omega) (by have := HWQ.out; omega)).mono ?_; rw [HCB.out]; rintro e_ w5 ⟨rfl, hx⟩; rw [show (2048 - (2048 - (wq + 1)) : Int) = wq + 1 by omega] at hx; have L5 := Aside0.mk (L4.out.fr hx.fr hx.blk); have FR5 := Aside0.mk (FR4.out.trans hx.fr); have BL5 := Aside0.mk hx.bel; clear hx; clear h0 h1 h2 h3 f1 f2 hx0 fr_; have h0 := L5.out.blk.c0; have h1 := L5.out.blk.c1; have h2 := L5.out.blk.c2; have h3 := L5.out.blk.c3; have f1 := L5.out.blk.fz 1; have f2 := L5.out.blk.fz 2; have hx0 := L5.out.byt; have fr_ := blk_frozen L5.out.res 0))
  go_quiet (fail)
  refine wt.genW1 _ (fun w6 hw => ?_)
  have L6 := Aside0.mk (hw ▸ L5.out.below (pw_below_drewN (Below.refl _ _) _))
  have FR6 := Aside0.mk (show wt.Fr g w w6 from hw ▸ FR5.out.trans (wt.Fr.of_below (pw_below_drewN (Below.refl _ _) _)))
  have BL6 := Aside0.mk (show Below w0.heap.size w0 w6 from hw ▸ pw_below_drewN BL5.out _)
  clear hw
  clear h0 h1 h2 h3 f1 f2 hx0 fr_
  have h0 := L6.out.blk.c0; have h1 := L6.out.blk.c1; have h2 := L6.out.blk.c2; have h3 := L6.out.blk.c3; have f1 := L6.out.blk.fz 1; have f2 := L6.out.blk.fz 2; have hx0 := L6.out.byt; have fr_ := blk_frozen L6.out.res 0
  go_wp2
  have hst := fun (n_ : Nat) => STR.out (w6.drewN n_) (FR6.out.trans (wt.Fr.of_below (pw_below_drewN (Below.refl _ _) _)))
  go_quiet (fail)
  clear hst
  refine wt.genW1 _ (fun w7 hw => ?_)
  have L7 := Aside0.mk (hw ▸ L6.out.below (pw_below_drewN (Below.refl _ _) _))
  have FR7 := Aside0.mk (show wt.Fr g w w7 from hw ▸ FR6.out.trans (wt.Fr.of_below (pw_below_drewN (Below.refl _ _) _)))
  have BL7 := Aside0.mk (show Below w0.heap.size w0 w7 from hw ▸ pw_below_drewN BL6.out _)
  clear hw
  clear h0 h1 h2 h3 f1 f2 hx0 fr_
  have h0 := L7.out.blk.c0; have h1 := L7.out.blk.c1; have h2 := L7.out.blk.c2; have h3 := L7.out.blk.c3; have f1 := L7.out.blk.fz 1; have f2 := L7.out.blk.fz 2; have hx0 := L7.out.byt; have fr_ := blk_frozen L7.out.res 0
  go_wp2_with (first | ((with_reducible refine gate_store (p := 164) rfl ?_); go_must (refine store_event ?hg (t := 3) (p := 164) (v := .tmp 162) (w1 := w7.setCell ⟨g, 1, none⟩ (.int .i64 ((q2 : Int) + (q1 : Int)))) ?ho ?hN ?hr ?_); (case ho => rfl); (case hN => rfl); (case hg => rfl); (case hr => first | (go_simp; done) | (go_simp; rfl)); intro w8 ex; have L8 := Aside0.mk (L7.out.fr (ex ▸ wt.Fr.set _ _ _ _) (ex ▸ L7.out.blk.set1 _)); have FR8 := Aside0.mk (show wt.Fr g w w8 from ex ▸ FR7.out.trans (wt.Fr.set _ _ _ _)); have BL8 := Aside0.mk (show Below w0.heap.size w0 w8 from ex ▸ BL7.out.setCell HGG.out _); clear ex; clear h0 h1 h2 h3 f1 f2 hx0 fr_; have h0 := L8.out.blk.c0; have h1 := L8.out.blk.c1; have h2 := L8.out.blk.c2; have h3 := L8.out.blk.c3; have f1 := L8.out.blk.fz 1; have f2 := L8.out.blk.fz 2; have hx0 := L8.out.byt; have fr_ := blk_frozen L8.out.res 0) | ((with_reducible refine gate_store (p := 173) rfl ?_); go_must (refine store_event ?hg (t := 3) (p := 173) (v := .tmp 171) (w1 := w8.setCell ⟨g, 2, none⟩ (.int .i64 (wq + 1 + (q1 : Int)))) ?ho ?hN ?hr ?_); (case ho => rfl); (case hN => rfl); (case hg => rfl); (case hr => first | (go_simp; done) | (go_simp; rfl)); intro w9 ex; have L9 := Aside0.mk (L8.out.fr (ex ▸ wt.Fr.set _ _ _ _) (ex ▸ L8.out.blk.set2 _)); have FR9 := Aside0.mk (show wt.Fr g w w9 from ex ▸ FR8.out.trans (wt.Fr.set _ _ _ _)); have BL9 := Aside0.mk (show Below w0.heap.size w0 w9 from ex ▸ BL8.out.setCell HGG.out _); clear ex; clear h0 h1 h2 h3 f1 f2 hx0 fr_; have h0 := L9.out.blk.c0; have h1 := L9.out.blk.c1; have h2 := L9.out.blk.c2; have h3 := L9.out.blk.c3; have f1 := L9.out.blk.fz 1; have f2 := L9.out.blk.fz 2; have hx0 := L9.out.byt; have fr_ := blk_frozen L9.out.res 0) | ((with_reducible refine gate_store (p := 4) rfl ?_); refine wt.store_res rfl rfl 4 _ rfl w.heap.size rfl (.int .i64 3) (.int .i64 0) (.string st) (.slice none 0 0) (.slice none 0 0) rfl (fun q hq => by simp at hq; rcases hq with rfl | rfl | rfl | rfl | rfl <;> rfl) _ rfl L9.out.res ?_; intro w5_ hres hgr; have HRES := Aside0.mk hres; have HGR := Aside0.mk hgr; clear hgr hres))
  go_wp2
  refine bodyPost_ret (results_cell_row rfl _ _ w.heap.size 25 _ (0, 0) _ rfl HRES.out Try.underlying25 rfl (by kernel_rfl)) rfl ?_
  refine ⟨⟨_, _, rfl, Kd.R_nil _ _ _ _ _, Kd.R_nil _ _ _ _ _⟩, ?_⟩
  rw [show 2048 - (2048 - (wq + 1) - (q1 : Int)) = wq + 1 + (q1 : Int) by omega]
  exact wt.fin_rnx FR9.out L9.out.blk L9.out.ne.2 HGR.out (Nat.le_refl _) HBB.out.size BL9.out
end
end Go.Proofs.Ytnkbobblnhaclaa.X

/- Xxwref3: walks by hand, for the claim. -/
namespace Go.Proofs.Ytnkbobblnhaclaa.X
open Go.RowKit Go.Proofs.YtnkbobblnhaclaaW.PrintWords Go.Proofs.YtnkbobblnhaclaaW.PrintLast Go.Proofs.YtnkbobblnhaclaaW.PrintMore Go.Proofs.YtnkbobblnhaclaaW
section
set_option maxHeartbeats 4000000
set_option maxRecDepth 100000
/-- What stands in memory while the parts of a list are read: kd the kind, v3 and v4 the rows so far. -/
structure wt.LR (w0 w W : World) (g : Nat) (A : Option Addr) (m c : Nat) (vb : Nat) (a wq f p kd : Int) (v3 v4 : Value) (acc : List S25) (ks : List ByteArray) : Prop where
  blk : wt.RB W g A m c a wq f p
  fr : wt.Fr g w W
  bel : Below w0.heap.size w0 W
  box : W.heap[vb]? = some (.cells #[.int .i64 kd, .int .i64 0, .string ⟨#[]⟩, v3, v4] 25 (0, 0))
  res : W.heap[w.heap.size]? = some (.cells #[.int .i64 0, .int .i64 0, .string ⟨#[]⟩, .slice none 0 0, .slice none 0 0] 25 (0, 0))
  row : k25.R 25 W w0.heap.size (fun k => vb < k ∧ some k ≠ v4.ownBlock) v3 acc
  keys : Kd.string.R 9 W w0.heap.size (fun k => vb < k) v4 ks
  hvb : w.heap.size < vb
  hgl : g < w.heap.size
  hg : w0.heap.size ≤ g
section
variable {w0 w W W1 : World} {g : Nat} {A : Option Addr} {m c : Nat} {vb : Nat} {a wq f p a1 wq1 f1 p1 kd : Int} {v3 v4 : Value} {acc : List S25} {ks : List ByteArray}
theorem wt.LR.lt (h : wt.LR w0 w W g A m c vb a wq f p kd v3 v4 acc ks) : vb < W.heap.size := blk_lt h.box
theorem wt.LR.below (h : wt.LR w0 w W g A m c vb a wq f p kd v3 v4 acc ks) (hb : Below W.heap.size W W1) : wt.LR w0 w W1 g A m c vb a wq f p kd v3 v4 acc ks :=
  ⟨h.blk.below hb, h.fr.trans (wt.Fr.of_below hb), below_then h.bel h.bel.size hb, blk_below h.box hb, blk_below h.res hb, Kd.R_below h.row hb, Kd.R_below h.keys hb, h.hvb, h.hgl, h.hg⟩
theorem wt.LR.step (h : wt.LR w0 w W g A m c vb a wq f p kd v3 v4 acc ks) (hn : wt.RNx w0 W W1 g A m c a1 wq1 f1 p1) : wt.LR w0 w W1 g A m c vb a1 wq1 f1 p1 kd v3 v4 acc ks :=
  have h1 := h.hgl
  have h2 := h.hvb
  ⟨hn.blk, h.fr.trans hn.fr, hn.bel, (hn.fr.2 vb h.lt (by omega)).trans h.box, (hn.fr.2 _ (blk_lt h.res) (by omega)).trans h.res, Kd.R_step h.row (fun k hk hlt => hn.fr.2 k hlt (by have := hk.1; omega)), Kd.R_step h.keys (fun k hk hlt => hn.fr.2 k hlt (by omega)), h2, h1, h.hg⟩
theorem wt.LR.frV (h : wt.LR w0 w W g A m c vb a wq f p kd v3 v4 acc ks) (v : Value) (i : Nat) : wt.Fr g w (W.setCell ⟨vb, i, none⟩ v) :=
  have h2 := h.hvb
  ⟨Nat.le_trans h.fr.1 (by simp [World.setCell]), fun k hk hne => (Below.heap_setCell W ⟨vb, i, none⟩ v k (show k ≠ vb by omega)).trans (h.fr.2 k hk hne)⟩
/-- Behind an append to the values' row. -/
theorem wt.LR.app3 {v5 : Value} {acc2 : List S25} (h : wt.LR w0 w W g A m c vb a wq f p kd v3 v4 acc ks) (ho : k25.R 25 W1 w0.heap.size (fun k => vb < k ∧ some k ≠ v4.ownBlock) v5 acc2) (hb : Below w0.heap.size w0 W1) (hg : W.grownBy W1 v3.ownBlock) : wt.LR w0 w (W1.setCell ⟨vb, 3, none⟩ v5) g A m c vb a wq f p kd v5 v4 acc2 ks := by
  have h1 := h.hgl
  have h2 := h.hvb
  have h3 := h.hg
  have hne : ∀ b, b ≤ vb → some b ≠ v3.ownBlock := fun b hb2 e => by have := (h.row.1 b e.symm).1; omega
  have hsz : w.heap.size ≤ W.heap.size := h.fr.1
  have fr1 : wt.Fr g w W1 := ⟨Nat.le_trans hsz hg.size, fun k hk hkg => (hg.block k (by omega) (hne k (by omega))).trans (h.fr.2 k hk hkg)⟩
  have box1 := blk_grown h.box hg (hne vb (Nat.le_refl _))
  exact ⟨(Below.heap_setCell W1 ⟨vb, 3, none⟩ v5 g (show g ≠ vb by omega)).trans (blk_grown h.blk hg (hne g (by omega))),
    ⟨Nat.le_trans fr1.1 (by simp [World.setCell]), fun k hk hkg => (Below.heap_setCell W1 ⟨vb, 3, none⟩ v5 k (show k ≠ vb by omega)).trans (fr1.2 k hk hkg)⟩,
    hb.setCell (show w0.heap.size ≤ vb by omega) v5,
    blk_put box1 3 v5 rfl,
    (Below.heap_setCell W1 ⟨vb, 3, none⟩ v5 _ (show w.heap.size ≠ vb by omega)).trans (blk_grown h.res hg (hne _ (by omega))),
    Kd.R_far ho (fun k hk => by show k ≠ vb; have := hk.1; omega) v5,
    Kd.R_far (Kd.R_over' h.keys (Kd.R_typed h.row) (by decide) hg) (fun k hk => by show k ≠ vb; omega) v5, h2, h1, h3⟩
/-- Behind an append to the keys' row. -/
theorem wt.LR.app4 {v5 : Value} {ks2 : List ByteArray} (h : wt.LR w0 w W g A m c vb a wq f p kd v3 v4 acc ks) (ho : Kd.string.R 9 W1 w0.heap.size (fun k => vb < k) v5 ks2) (hb : Below w0.heap.size w0 W1) (hg : W.grownBy W1 v4.ownBlock) (hat : v5.ownBlock = v4.ownBlock ∨ ∃ b, v5.ownBlock = some b ∧ W.heap.size ≤ b) : wt.LR w0 w (W1.setCell ⟨vb, 4, none⟩ v5) g A m c vb a wq f p kd v3 v5 acc ks2 := by
  have h1 := h.hgl
  have h2 := h.hvb
  have h3 := h.hg
  have hne : ∀ b, b ≤ vb → some b ≠ v4.ownBlock := fun b hb2 e => by have := h.keys.1 b e.symm; omega
  have hsz : w.heap.size ≤ W.heap.size := h.fr.1
  have fr1 : wt.Fr g w W1 := ⟨Nat.le_trans hsz hg.size, fun k hk hkg => (hg.block k (by omega) (hne k (by omega))).trans (h.fr.2 k hk hkg)⟩
  have box1 := blk_grown h.box hg (hne vb (Nat.le_refl _))
  exact ⟨(Below.heap_setCell W1 ⟨vb, 4, none⟩ v5 g (show g ≠ vb by omega)).trans (blk_grown h.blk hg (hne g (by omega))),
    ⟨Nat.le_trans fr1.1 (by simp [World.setCell]), fun k hk hkg => (Below.heap_setCell W1 ⟨vb, 4, none⟩ v5 k (show k ≠ vb by omega)).trans (fr1.2 k hk hkg)⟩,
    hb.setCell (show w0.heap.size ≤ vb by omega) v5,
    blk_put box1 4 v5 rfl,
    (Below.heap_setCell W1 ⟨vb, 4, none⟩ v5 _ (show w.heap.size ≠ vb by omega)).trans (blk_grown h.res hg (hne _ (by omega))),
    Kd.R_far (Kd.R_after h.row hg hat) (fun k hk => by show k ≠ vb; have := hk.1; omega) v5,
    Kd.R_far ho (fun k hk => by show k ≠ vb; omega) v5, h2, h1, h3⟩
end
theorem wt.RGotV.open {r : wt.R3 S25} {w0 w w' : World} {g : Nat} {A : Option Addr} {m c : Nat} {p : Int} {e : Ending} (h : wt.RGotV r w0 w g A m c p e w') : ∃ (x : S25) (v3 v4 : Value) (a2 wq2 f2 p2 : Int), e = .returned (.agg #[.int .i64 x.f0, .int .i64 x.f1, .string x.f2, v3, v4]) ∧ k25.R 25 w' w0.heap.size (fun k => w.heap.size ≤ k) v3 x.f3 ∧ Kd.string.R 9 w' w0.heap.size (fun k => w.heap.size ≤ k) v4 x.f4 ∧ wt.RNx w0 w w' g A m c a2 wq2 f2 p2 ∧ ((f2 = 0 ∧ p2 = p ∧ r = .ok x a2 (2048 - wq2)) ∨ (f2 ≠ 0 ∧ r = .bad f2 p2)) := by
  cases r with
  | ok x a2 l2 =>
    obtain ⟨⟨v3, v4, h1, h2, h3⟩, h4⟩ := h
    exact ⟨x, v3, v4, _, _, _, _, h1, h2, h3, h4, Or.inl ⟨rfl, rfl, by rw [show 2048 - (2048 - l2) = l2 by omega]⟩⟩
  | bad f q =>
    obtain ⟨⟨x, v3, v4, h1, h2, h3⟩, hf, a2, wq2, h4⟩ := h
    exact ⟨x, v3, v4, _, _, _, _, h1, h2, h3, h4, Or.inr ⟨hf, rfl⟩⟩
theorem wt.arr_step {f : Int → Int → wt.R3 S25} {n j : Nat} {acc : List S25} {a' l' : Int} {T : wt.R3 (List S25)} {x : S25} {a2 wq2 f2 p2 p : Int} (hj : j < n) (hrem : wt.arrL f (n - j) acc a' l' = T) (hout : (f2 = 0 ∧ p2 = p ∧ f a' l' = .ok x a2 (2048 - wq2)) ∨ (f2 ≠ 0 ∧ f a' l' = .bad f2 p2)) : (f2 = 0 ∧ p2 = p ∧ wt.arrL f (n - (j + 1)) (acc ++ [x]) a2 (2048 - wq2) = T ∧ f a' l' = .ok x a2 (2048 - wq2)) ∨ (f2 ≠ 0 ∧ T = .bad f2 p2) := by
  rw [show n - j = (n - (j + 1)) + 1 by omega] at hrem
  unfold wt.arrL at hrem
  rcases hout with ⟨h1, h2, h3⟩ | ⟨h1, h2⟩
  · rw [h3] at hrem
    exact Or.inl ⟨h1, h2, hrem, h3⟩
  · rw [h2] at hrem
    exact Or.inr ⟨h1, hrem.symm⟩
theorem wt.rec_step {bs : List Int} {u : Int → Int × Int × Int} {f : Int → Int → wt.R3 S25} {n j : Nat} {acc : List S25} {ks : List ByteArray} {kk : ByteArray} {a' l' ak lk : Int} {T : wt.R3 (List ByteArray × List S25)} {x : S25} {a2 wq2 f2 p2 p : Int} (hj : j < n) (hrem : wt.recL bs u f (n - j) ks acc a' l' = T) (hk : wt.keyS bs u ks a' l' = .ok kk ak lk) (hout : (f2 = 0 ∧ p2 = p ∧ f ak lk = .ok x a2 (2048 - wq2)) ∨ (f2 ≠ 0 ∧ f ak lk = .bad f2 p2)) : (f2 = 0 ∧ p2 = p ∧ wt.recL bs u f (n - (j + 1)) (ks ++ [kk]) (acc ++ [x]) a2 (2048 - wq2) = T ∧ f ak lk = .ok x a2 (2048 - wq2)) ∨ (f2 ≠ 0 ∧ T = .bad f2 p2) := by
  rw [show n - j = (n - (j + 1)) + 1 by omega] at hrem
  unfold wt.recL at hrem
  rw [hk] at hrem
  dsimp only at hrem
  rcases hout with ⟨h1, h2, h3⟩ | ⟨h1, h2⟩
  · rw [h3] at hrem
    exact Or.inl ⟨h1, h2, hrem, h3⟩
  · rw [h2] at hrem
    exact Or.inr ⟨h1, hrem.symm⟩
theorem wt.rec_bad {bs : List Int} {u : Int → Int × Int × Int} {f : Int → Int → wt.R3 S25} {n j : Nat} {acc : List S25} {ks : List ByteArray} {a' l' ee pp : Int} {T : wt.R3 (List ByteArray × List S25)} (hj : j < n) (hrem : wt.recL bs u f (n - j) ks acc a' l' = T) (hk : wt.keyS bs u ks a' l' = .bad ee pp) : T = .bad ee pp := by
  rw [show n - j = (n - (j + 1)) + 1 by omega] at hrem
  unfold wt.recL at hrem
  rw [hk] at hrem
  exact hrem.symm
theorem wt.rd_last (ks : List ByteArray) (k : ByteArray) (j : Nat) (h : ks.length = j) : k = rdOf ByteArray.empty (ks ++ [k]) (((j + 1 : Nat) : Int) - 1) := by
  have e : (((j + 1 : Nat) : Int) - 1).toNat = j := by omega
  unfold rdOf
  rw [e, List.getD_eq_getElem?_getD, List.getElem?_append_right (by omega), h, Nat.sub_self]
  rfl
theorem wt.rv_t5E {bs : List Int} {u i : Int → Int × Int × Int} (hU : wt.Uin bs u i) (hR : wt.Rin bs u i) {w0 w : World} {g : Nat} {A : Option Addr} {c : Nat} {a wq p : Int} (hb : Below w0.heap.size w0 w) (hg : w0.heap.size ≤ g) (hB : wt.RB w g A bs.length c a wq 0 p) (hC : (Kd.int .u8).C w A bs.length bs) (hc : bs.length ≤ c) (within : Int) (hw : within < 8) (ha0 : 0 ≤ a) (ha1 : a < (bs.length : Int)) (hwq : 0 ≤ wq ∧ wq + 1 ≤ 2048) (ht : rd bs a = 5) {f q : Int} (hf : f ≠ 0) (hcb : wt.countS u a 1 (a + 1) (2048 - (wq + 1)) = .bad f q) :
    Calls Try.prog 40 #[.pointer (some ⟨g, 0, none⟩), .int .i64 within] w (wt.RGotV (.bad f q) w0 w g A bs.length c p) := by
  have HB := Aside0.mk hB
  have HC := Aside0.mk hC
  have HCC := Aside0.mk hc
  have HBB := Aside0.mk hb
  have HGG := Aside0.mk hg
  have HLL := Aside0.mk hU.L
  have HUU := Aside0.mk hU
  have HRR := Aside0.mk hR
  have HGL := Aside0.mk (show g < w.heap.size from blk_lt hB)
  have hu25 := Try.underlying25
  have HBW := Aside0.mk ((Below.refl w.heap.size w).alloc (Nat.le_refl _) (.cells #[.int .i64 0, .int .i64 0, .string ⟨#[]⟩, .slice none 0 0, .slice none 0 0] 25))
  have BL1 := Aside0.mk (hb.alloc hb.size (.cells #[.int .i64 0, .int .i64 0, .string ⟨#[]⟩, .slice none 0 0, .slice none 0 0] 25))
  obtain ⟨a, rfl⟩ := Int.eq_ofNat_of_zero_le ha0
  have t0 : decide ((a : Int) ≥ (bs.length : Int)) = false := decide_eq_false (by omega)
  have t1 : decide ((bs.length : Int) ≤ (a : Int)) = false := decide_eq_false (by omega)
  have t2 : decide (bs.length ≤ a) = false := decide_eq_false (by omega)
  have t3 : (a : Int) < (bs.length : Int) := ha1
  have t4 : a < bs.length := by omega
  have t5 : decide (a < bs.length) = true := decide_eq_true t4
  obtain ⟨ad, hA, hx0_⟩ := Kd.at_int hC (a : Int) (by omega) ha1
  subst hA
  rw [Int.toNat_natCast] at hx0_
  obtain ⟨x, hxd⟩ : ∃ x, rd bs (a : Int) = x := ⟨_, rfl⟩
  rw [hxd] at hx0_ ht
  have L1 := Aside0.mk (show wt.RLy (w.alloc (.cells #[.int .i64 0, .int .i64 0, .string ⟨#[]⟩, .slice none 0 0, .slice none 0 0] 25)) g (some ad) bs.length c (a : Int) wq 0 p (ad.add a) x w.heap.size #[.int .i64 0, .int .i64 0, .string ⟨#[]⟩, .slice none 0 0, .slice none 0 0] from ⟨HB.out.below HBW.out, (HBW.out.cell (World.block_lt_of_cell? w _ hx0_)).trans hx0_, by simpa using heap_alloc_new w _⟩)
  clear hx0_ hxd
  subst ht
  have w1 : decide (within ≥ 8) = false := decide_eq_false (by omega)
  have w2 : decide (8 ≤ within) = false := decide_eq_false (by omega)
  have HWQ := Aside0.mk hwq
  have hwr : wrap64 ((a : Int) + 1) = (a : Int) + 1 := by have := HLL.out; unfold wrap64; omega
  have HCB := Aside0.mk hcb
  have HFN := Aside0.mk hf
  have g1 : (f == 0) = false := beq_eq_false_iff_ne.2 hf
  have g2 : decide (f = 0) = false := decide_eq_false hf
  have h0 := L1.out.blk.c0; have h1 := L1.out.blk.c1; have h2 := L1.out.blk.c2; have h3 := L1.out.blk.c3; have f1 := L1.out.blk.fz 1; have f2 := L1.out.blk.fz 2; have hx0 := L1.out.byt; have fr_ := blk_frozen L1.out.res 0
  clear ha1 ha0 hwq hw hf hcb
  clear hU hR hb hg hB hC hc
  go_enter Try.func40, Try.ntmps40
  go_wp2_with (first | (go_at_call 59; refine (wt.heavY BL1.out HGG.out L1.out.blk 1 (a : Int) HWQ.out.1 (by omega) HWQ.out.2).mono ?_; rintro e_ w3 ⟨rfl, hx⟩; have L3 := Aside0.mk (L1.out.fr hx.fr hx.blk); have FR3 := Aside0.mk ((wt.Fr.of_below HBW.out).trans hx.fr); have BL3 := Aside0.mk hx.bel; clear hx; clear h0 h1 h2 h3 f1 f2 hx0 fr_; have h0 := L3.out.blk.c0; have h1 := L3.out.blk.c1; have h2 := L3.out.blk.c2; have h3 := L3.out.blk.c3; have f1 := L3.out.blk.fz 1; have f2 := L3.out.blk.fz 2; have hx0 := L3.out.byt; have fr_ := blk_frozen L3.out.res 0) | ((with_reducible refine gate_store (p := 62) rfl ?_); go_must (refine store_event ?hg (t := 3) (p := 62) (v := .tmp 60) (w1 := w3.setCell ⟨g, 1, none⟩ (.int .i64 ((a : Int) + 1))) ?ho ?hN ?hr ?_); (case ho => rfl); (case hN => rfl); (case hg => rfl); (case hr => first | (go_simp; done) | (go_simp; rfl)); intro w4 ex; have L4 := Aside0.mk (L3.out.fr (ex ▸ wt.Fr.set _ _ _ _) (ex ▸ L3.out.blk.set1 _)); have FR4 := Aside0.mk (show wt.Fr g w w4 from ex ▸ FR3.out.trans (wt.Fr.set _ _ _ _)); have BL4 := Aside0.mk (show Below w0.heap.size w0 w4 from ex ▸ BL3.out.setCell HGG.out _); have HV4 := Aside0.mk (show w.heap.size < w4.heap.size from by { rw [ex, Deep.nblk_setCell]; have := blk_lt L3.out.res; exact this }); clear ex; clear h0 h1 h2 h3 f1 f2 hx0 fr_; have h0 := L4.out.blk.c0; have h1 := L4.out.blk.c1; have h2 := L4.out.blk.c2; have h3 := L4.out.blk.c3; have f1 := L4.out.blk.fz 1; have f2 := L4.out.blk.fz 2; have hx0 := L4.out.byt; have fr_ := blk_frozen L4.out.res 0) | ((with_reducible refine gate_store (p := 11) rfl ?_); refine wt.store_res rfl rfl 11 _ rfl w4.heap.size rfl (.int .i64 4) (.int .i64 0) (.string ⟨#[]⟩) (.slice none 0 0) (.slice none 0 0) rfl (fun q hq => by simp at hq; rcases hq with rfl | rfl | rfl | rfl | rfl <;> rfl) _ rfl (by simpa using heap_alloc_new w4 _) ?_; intro w5 hres hgr; have HB5 := Aside0.mk (wt.own_res hgr); have L5 := Aside0.mk (L4.out.below HB5.out); have Q5 := Aside0.mk (show wt.LR w0 w w5 g (some ad) bs.length c w4.heap.size ((a : Int) + 1) (wq + 1) 0 p 4 (.slice none 0 0) (.slice none 0 0) [] [] from ⟨L5.out.blk, FR4.out.trans (wt.Fr.of_below HB5.out), below_then BL4.out BL4.out.size HB5.out, hres, L5.out.res, Kd.R_nil _ _ _ _ _, Kd.R_nil _ _ _ _ _, HV4.out, HGL.out, HGG.out⟩); clear hres hgr; clear h0 h1 h2 h3 f1 f2 hx0 fr_; have h0 := L5.out.blk.c0; have h1 := L5.out.blk.c1; have h2 := L5.out.blk.c2; have h3 := L5.out.blk.c3; have f1 := L5.out.blk.fz 1; have f2 := L5.out.blk.fz 2; have hx0 := L5.out.byt; have fr_ := blk_frozen L5.out.res 0) | (go_at_call 61; refine (wt.rnum1 HUU.out HRR.out Q5.out.bel HGG.out Q5.out.blk (wt.rbytes HC.out HB.out Q5.out.fr) HCC.out (a : Int) 1 (by omega) (by have := HWQ.out; omega)).mono ?_; rw [HCB.out]; rintro e_ w6 ⟨⟨y, rfl⟩, b1, b2, hx⟩; have Q6 := Aside0.mk (Q5.out.step hx); clear hx; clear h0 h1 h2 h3 f1 f2 hx0 fr_))
  generalize w4.heap.size = vb at *
  go_loopw [13] (fun v13 wr => (v13 = .int .i64 0) ∧ Aside0 (wt.LR w0 w wr g (some ad) bs.length c vb b1 b2 f q 4 (.slice none 0 0) (.slice none 0 0) [] [])) (fun v13 _ => 0)
  case atStart => exact ⟨rfl, Q6⟩
  case round =>
    clear Q6 Q5 HB5 L5
    obtain ⟨rfl, HL⟩ := hrel
    have h3 := HL.out.blk.c3
    obtain ⟨v3, hv3⟩ : ∃ v3, v3 = (Value.slice none 0 0) := ⟨_, rfl⟩
    by_cases hlt : 0 < y
    · have i1 : decide (0 < y) = true := decide_eq_true hlt
      have hz0 : wr.cell? ⟨vb, 0, none⟩ = some (.int .i64 4) := (blk_cell HL.out.box 0).trans rfl
      have hz1 : wr.cell? ⟨vb, 1, none⟩ = some (.int .i64 0) := (blk_cell HL.out.box 1).trans rfl
      have hz2 : wr.cell? ⟨vb, 2, none⟩ = some (.string ⟨#[]⟩) := (blk_cell HL.out.box 2).trans rfl
      have hz3 : wr.cell? ⟨vb, 3, none⟩ = some (.slice none 0 0) := (blk_cell HL.out.box 3).trans rfl
      have hz4 : wr.cell? ⟨vb, 4, none⟩ = some (.slice none 0 0) := (blk_cell HL.out.box 4).trans rfl
      go_wp2_with (first | ((with_reducible refine gate_store (p := 4) rfl ?_); refine wt.store_res rfl rfl 4 _ rfl w.heap.size rfl (.int .i64 4) (.int .i64 0) (.string ⟨#[]⟩) (.slice none 0 0) (.slice none 0 0) rfl (fun q hq => by simp at hq; rcases hq with rfl | rfl | rfl | rfl | rfl <;> rfl) _ rfl HL.out.res ?_; intro w5_ hres hgr; have HRES := Aside0.mk hres; have HGR := Aside0.mk hgr; clear hgr hres))
      go_wp2
      refine bodyPost_ret (results_cell_row rfl _ _ w.heap.size 25 _ (0, 0) _ rfl HRES.out Try.underlying25 rfl (by kernel_rfl)) rfl ?_
      have e1 := HL.out.hgl; have e2 := HL.out.hvb
      exact ⟨⟨⟨4, 0, ⟨#[]⟩, [], []⟩, _, _, rfl, Kd.R_nil _ _ _ _ _, Kd.R_nil _ _ _ _ _⟩, HFN.out, _, _, wt.fin_rnx HL.out.fr HL.out.blk (by omega) HGR.out (Nat.le_refl _) HBB.out.size HL.out.bel⟩
    · have i1 : decide (0 < y) = false := decide_eq_false hlt
      have hz0 : wr.cell? ⟨vb, 0, none⟩ = some (.int .i64 4) := (blk_cell HL.out.box 0).trans rfl
      have hz1 : wr.cell? ⟨vb, 1, none⟩ = some (.int .i64 0) := (blk_cell HL.out.box 1).trans rfl
      have hz2 : wr.cell? ⟨vb, 2, none⟩ = some (.string ⟨#[]⟩) := (blk_cell HL.out.box 2).trans rfl
      have hz3 : wr.cell? ⟨vb, 3, none⟩ = some (.slice none 0 0) := (blk_cell HL.out.box 3).trans rfl
      have hz4 : wr.cell? ⟨vb, 4, none⟩ = some (.slice none 0 0) := (blk_cell HL.out.box 4).trans rfl
      go_wp2_with (first | ((with_reducible refine gate_store (p := 4) rfl ?_); refine wt.store_res rfl rfl 4 _ rfl w.heap.size rfl (.int .i64 4) (.int .i64 0) (.string ⟨#[]⟩) (.slice none 0 0) (.slice none 0 0) rfl (fun q hq => by simp at hq; rcases hq with rfl | rfl | rfl | rfl | rfl <;> rfl) _ rfl HL.out.res ?_; intro w5_ hres hgr; have HRES := Aside0.mk hres; have HGR := Aside0.mk hgr; clear hgr hres))
      go_wp2
      refine bodyPost_ret (results_cell_row rfl _ _ w.heap.size 25 _ (0, 0) _ rfl HRES.out Try.underlying25 rfl (by kernel_rfl)) rfl ?_
      have e1 := HL.out.hgl; have e2 := HL.out.hvb
      exact ⟨⟨⟨4, 0, ⟨#[]⟩, [], []⟩, _, _, rfl, Kd.R_nil _ _ _ _ _, Kd.R_nil _ _ _ _ _⟩, HFN.out, _, _, wt.fin_rnx HL.out.fr HL.out.blk (by omega) HGR.out (Nat.le_refl _) HBB.out.size HL.out.bel⟩
theorem wt.rv_t6E {bs : List Int} {u i : Int → Int × Int × Int} (hU : wt.Uin bs u i) (hR : wt.Rin bs u i) {w0 w : World} {g : Nat} {A : Option Addr} {c : Nat} {a wq p : Int} (hb : Below w0.heap.size w0 w) (hg : w0.heap.size ≤ g) (hB : wt.RB w g A bs.length c a wq 0 p) (hC : (Kd.int .u8).C w A bs.length bs) (hc : bs.length ≤ c) (within : Int) (hw : within < 8) (ha0 : 0 ≤ a) (ha1 : a < (bs.length : Int)) (hwq : 0 ≤ wq ∧ wq + 1 ≤ 2048) (ht : rd bs a = 6) {f q : Int} (hf : f ≠ 0) (hcb : wt.countS u a 2 (a + 1) (2048 - (wq + 1)) = .bad f q) :
    Calls Try.prog 40 #[.pointer (some ⟨g, 0, none⟩), .int .i64 within] w (wt.RGotV (.bad f q) w0 w g A bs.length c p) := by
  have HB := Aside0.mk hB
  have HC := Aside0.mk hC
  have HCC := Aside0.mk hc
  have HBB := Aside0.mk hb
  have HGG := Aside0.mk hg
  have HLL := Aside0.mk hU.L
  have HUU := Aside0.mk hU
  have HRR := Aside0.mk hR
  have HGL := Aside0.mk (show g < w.heap.size from blk_lt hB)
  have hu25 := Try.underlying25
  have HBW := Aside0.mk ((Below.refl w.heap.size w).alloc (Nat.le_refl _) (.cells #[.int .i64 0, .int .i64 0, .string ⟨#[]⟩, .slice none 0 0, .slice none 0 0] 25))
  have BL1 := Aside0.mk (hb.alloc hb.size (.cells #[.int .i64 0, .int .i64 0, .string ⟨#[]⟩, .slice none 0 0, .slice none 0 0] 25))
  obtain ⟨a, rfl⟩ := Int.eq_ofNat_of_zero_le ha0
  have t0 : decide ((a : Int) ≥ (bs.length : Int)) = false := decide_eq_false (by omega)
  have t1 : decide ((bs.length : Int) ≤ (a : Int)) = false := decide_eq_false (by omega)
  have t2 : decide (bs.length ≤ a) = false := decide_eq_false (by omega)
  have t3 : (a : Int) < (bs.length : Int) := ha1
  have t4 : a < bs.length := by omega
  have t5 : decide (a < bs.length) = true := decide_eq_true t4
  obtain ⟨ad, hA, hx0_⟩ := Kd.at_int hC (a : Int) (by omega) ha1
  subst hA
  rw [Int.toNat_natCast] at hx0_
  obtain ⟨x, hxd⟩ : ∃ x, rd bs (a : Int) = x := ⟨_, rfl⟩
  rw [hxd] at hx0_ ht
  have L1 := Aside0.mk (show wt.RLy (w.alloc (.cells #[.int .i64 0, .int .i64 0, .string ⟨#[]⟩, .slice none 0 0, .slice none 0 0] 25)) g (some ad) bs.length c (a : Int) wq 0 p (ad.add a) x w.heap.size #[.int .i64 0, .int .i64 0, .string ⟨#[]⟩, .slice none 0 0, .slice none 0 0] from ⟨HB.out.below HBW.out, (HBW.out.cell (World.block_lt_of_cell? w _ hx0_)).trans hx0_, by simpa using heap_alloc_new w _⟩)
  clear hx0_ hxd
  subst ht
  have w1 : decide (within ≥ 8) = false := decide_eq_false (by omega)
  have w2 : decide (8 ≤ within) = false := decide_eq_false (by omega)
  have HWQ := Aside0.mk hwq
  have hwr : wrap64 ((a : Int) + 1) = (a : Int) + 1 := by have := HLL.out; unfold wrap64; omega
  have HCB := Aside0.mk hcb
  have HFN := Aside0.mk hf
  have g1 : (f == 0) = false := beq_eq_false_iff_ne.2 hf
  have g2 : decide (f = 0) = false := decide_eq_false hf
  have h0 := L1.out.blk.c0; have h1 := L1.out.blk.c1; have h2 := L1.out.blk.c2; have h3 := L1.out.blk.c3; have f1 := L1.out.blk.fz 1; have f2 := L1.out.blk.fz 2; have hx0 := L1.out.byt; have fr_ := blk_frozen L1.out.res 0
  clear ha1 ha0 hwq hw hf hcb
  clear hU hR hb hg hB hC hc
  go_enter Try.func40, Try.ntmps40
  go_wp2_with (first | (go_at_call 59; refine (wt.heavY BL1.out HGG.out L1.out.blk 1 (a : Int) HWQ.out.1 (by omega) HWQ.out.2).mono ?_; rintro e_ w3 ⟨rfl, hx⟩; have L3 := Aside0.mk (L1.out.fr hx.fr hx.blk); have FR3 := Aside0.mk ((wt.Fr.of_below HBW.out).trans hx.fr); have BL3 := Aside0.mk hx.bel; clear hx; clear h0 h1 h2 h3 f1 f2 hx0 fr_; have h0 := L3.out.blk.c0; have h1 := L3.out.blk.c1; have h2 := L3.out.blk.c2; have h3 := L3.out.blk.c3; have f1 := L3.out.blk.fz 1; have f2 := L3.out.blk.fz 2; have hx0 := L3.out.byt; have fr_ := blk_frozen L3.out.res 0) | ((with_reducible refine gate_store (p := 62) rfl ?_); go_must (refine store_event ?hg (t := 3) (p := 62) (v := .tmp 60) (w1 := w3.setCell ⟨g, 1, none⟩ (.int .i64 ((a : Int) + 1))) ?ho ?hN ?hr ?_); (case ho => rfl); (case hN => rfl); (case hg => rfl); (case hr => first | (go_simp; done) | (go_simp; rfl)); intro w4 ex; have L4 := Aside0.mk (L3.out.fr (ex ▸ wt.Fr.set _ _ _ _) (ex ▸ L3.out.blk.set1 _)); have FR4 := Aside0.mk (show wt.Fr g w w4 from ex ▸ FR3.out.trans (wt.Fr.set _ _ _ _)); have BL4 := Aside0.mk (show Below w0.heap.size w0 w4 from ex ▸ BL3.out.setCell HGG.out _); have HV4 := Aside0.mk (show w.heap.size < w4.heap.size from by { rw [ex, Deep.nblk_setCell]; have := blk_lt L3.out.res; exact this }); clear ex; clear h0 h1 h2 h3 f1 f2 hx0 fr_; have h0 := L4.out.blk.c0; have h1 := L4.out.blk.c1; have h2 := L4.out.blk.c2; have h3 := L4.out.blk.c3; have f1 := L4.out.blk.fz 1; have f2 := L4.out.blk.fz 2; have hx0 := L4.out.byt; have fr_ := blk_frozen L4.out.res 0) | ((with_reducible refine gate_store (p := 14) rfl ?_); refine wt.store_res rfl rfl 14 _ rfl w4.heap.size rfl (.int .i64 5) (.int .i64 0) (.string ⟨#[]⟩) (.slice none 0 0) (.slice none 0 0) rfl (fun q hq => by simp at hq; rcases hq with rfl | rfl | rfl | rfl | rfl <;> rfl) _ rfl (by simpa using heap_alloc_new w4 _) ?_; intro w5 hres hgr; have HB5 := Aside0.mk (wt.own_res hgr); have L5 := Aside0.mk (L4.out.below HB5.out); have Q5 := Aside0.mk (show wt.LR w0 w w5 g (some ad) bs.length c w4.heap.size ((a : Int) + 1) (wq + 1) 0 p 5 (.slice none 0 0) (.slice none 0 0) [] [] from ⟨L5.out.blk, FR4.out.trans (wt.Fr.of_below HB5.out), below_then BL4.out BL4.out.size HB5.out, hres, L5.out.res, Kd.R_nil _ _ _ _ _, Kd.R_nil _ _ _ _ _, HV4.out, HGL.out, HGG.out⟩); clear hres hgr; clear h0 h1 h2 h3 f1 f2 hx0 fr_; have h0 := L5.out.blk.c0; have h1 := L5.out.blk.c1; have h2 := L5.out.blk.c2; have h3 := L5.out.blk.c3; have f1 := L5.out.blk.fz 1; have f2 := L5.out.blk.fz 2; have hx0 := L5.out.byt; have fr_ := blk_frozen L5.out.res 0) | (go_at_call 61; refine (wt.rnum1 HUU.out HRR.out Q5.out.bel HGG.out Q5.out.blk (wt.rbytes HC.out HB.out Q5.out.fr) HCC.out (a : Int) 2 (by omega) (by have := HWQ.out; omega)).mono ?_; rw [HCB.out]; rintro e_ w6 ⟨⟨y, rfl⟩, b1, b2, hx⟩; have Q6 := Aside0.mk (Q5.out.step hx); clear hx; clear h0 h1 h2 h3 f1 f2 hx0 fr_))
  generalize w4.heap.size = vb at *
  go_loopw [16, 17] (fun v16 v17 wr => (∃ last : ByteArray, v16 = .string last ∧ v17 = .int .i64 0) ∧ Aside0 (wt.LR w0 w wr g (some ad) bs.length c vb b1 b2 f q 5 (.slice none 0 0) (.slice none 0 0) [] [])) (fun v16 v17 _ => 0)
  case atStart => exact ⟨⟨_, rfl, rfl⟩, Q6⟩
  case round =>
    clear Q6 Q5 HB5 L5
    obtain ⟨⟨last, rfl, rfl⟩, HL⟩ := hrel
    have h3 := HL.out.blk.c3
    obtain ⟨v3, hv3⟩ : ∃ v3, v3 = (Value.slice none 0 0) := ⟨_, rfl⟩
    by_cases hlt : 0 < y
    · have i1 : decide (0 < y) = true := decide_eq_true hlt
      have hz0 : wr.cell? ⟨vb, 0, none⟩ = some (.int .i64 5) := (blk_cell HL.out.box 0).trans rfl
      have hz1 : wr.cell? ⟨vb, 1, none⟩ = some (.int .i64 0) := (blk_cell HL.out.box 1).trans rfl
      have hz2 : wr.cell? ⟨vb, 2, none⟩ = some (.string ⟨#[]⟩) := (blk_cell HL.out.box 2).trans rfl
      have hz3 : wr.cell? ⟨vb, 3, none⟩ = some (.slice none 0 0) := (blk_cell HL.out.box 3).trans rfl
      have hz4 : wr.cell? ⟨vb, 4, none⟩ = some (.slice none 0 0) := (blk_cell HL.out.box 4).trans rfl
      go_wp2_with (first | ((with_reducible refine gate_store (p := 4) rfl ?_); refine wt.store_res rfl rfl 4 _ rfl w.heap.size rfl (.int .i64 5) (.int .i64 0) (.string ⟨#[]⟩) (.slice none 0 0) (.slice none 0 0) rfl (fun q hq => by simp at hq; rcases hq with rfl | rfl | rfl | rfl | rfl <;> rfl) _ rfl HL.out.res ?_; intro w5_ hres hgr; have HRES := Aside0.mk hres; have HGR := Aside0.mk hgr; clear hgr hres))
      go_wp2
      refine bodyPost_ret (results_cell_row rfl _ _ w.heap.size 25 _ (0, 0) _ rfl HRES.out Try.underlying25 rfl (by kernel_rfl)) rfl ?_
      have e1 := HL.out.hgl; have e2 := HL.out.hvb
      exact ⟨⟨⟨5, 0, ⟨#[]⟩, [], []⟩, _, _, rfl, Kd.R_nil _ _ _ _ _, Kd.R_nil _ _ _ _ _⟩, HFN.out, _, _, wt.fin_rnx HL.out.fr HL.out.blk (by omega) HGR.out (Nat.le_refl _) HBB.out.size HL.out.bel⟩
    · have i1 : decide (0 < y) = false := decide_eq_false hlt
      have hz0 : wr.cell? ⟨vb, 0, none⟩ = some (.int .i64 5) := (blk_cell HL.out.box 0).trans rfl
      have hz1 : wr.cell? ⟨vb, 1, none⟩ = some (.int .i64 0) := (blk_cell HL.out.box 1).trans rfl
      have hz2 : wr.cell? ⟨vb, 2, none⟩ = some (.string ⟨#[]⟩) := (blk_cell HL.out.box 2).trans rfl
      have hz3 : wr.cell? ⟨vb, 3, none⟩ = some (.slice none 0 0) := (blk_cell HL.out.box 3).trans rfl
      have hz4 : wr.cell? ⟨vb, 4, none⟩ = some (.slice none 0 0) := (blk_cell HL.out.box 4).trans rfl
      go_wp2_with (first | ((with_reducible refine gate_store (p := 4) rfl ?_); refine wt.store_res rfl rfl 4 _ rfl w.heap.size rfl (.int .i64 5) (.int .i64 0) (.string ⟨#[]⟩) (.slice none 0 0) (.slice none 0 0) rfl (fun q hq => by simp at hq; rcases hq with rfl | rfl | rfl | rfl | rfl <;> rfl) _ rfl HL.out.res ?_; intro w5_ hres hgr; have HRES := Aside0.mk hres; have HGR := Aside0.mk hgr; clear hgr hres))
      go_wp2
      refine bodyPost_ret (results_cell_row rfl _ _ w.heap.size 25 _ (0, 0) _ rfl HRES.out Try.underlying25 rfl (by kernel_rfl)) rfl ?_
      have e1 := HL.out.hgl; have e2 := HL.out.hvb
      exact ⟨⟨⟨5, 0, ⟨#[]⟩, [], []⟩, _, _, rfl, Kd.R_nil _ _ _ _ _, Kd.R_nil _ _ _ _ _⟩, HFN.out, _, _, wt.fin_rnx HL.out.fr HL.out.blk (by omega) HGR.out (Nat.le_refl _) HBB.out.size HL.out.bel⟩
theorem wt.rv_t5 {bs : List Int} {u i : Int → Int × Int × Int} (hU : wt.Uin bs u i) (hR : wt.Rin bs u i) {w0 w : World} {g : Nat} {A : Option Addr} {c : Nat} {a wq p : Int} (hb : Below w0.heap.size w0 w) (hg : w0.heap.size ≤ g) (hB : wt.RB w g A bs.length c a wq 0 p) (hC : (Kd.int .u8).C w A bs.length bs) (hc : bs.length ≤ c) (within : Int) (hw : within < 8) (ha0 : 0 ≤ a) (ha1 : a < (bs.length : Int)) (hwq : 0 ≤ wq ∧ wq + 1 ≤ 2048) (ht : rd bs a = 5) {n : Nat} {a1 : Int} (hcb : wt.countS u a 1 (a + 1) (2048 - (wq + 1)) = .ok (n : Int) a1 (2048 - (wq + 1))) (hn2 : n ≤ 2048) (hbd : 0 ≤ a1 ∧ a1 ≤ (bs.length : Int)) (hwi : 0 ≤ within) (f : Int → Int → wt.R3 S25) (hfb : ∀ (a l : Int) (x : S25) (a2 l2 : Int), 0 ≤ a → a ≤ (bs.length : Int) → 0 ≤ l → l ≤ 2048 → f a l = .ok x a2 l2 → 0 ≤ a2 ∧ a2 ≤ (bs.length : Int) ∧ 0 ≤ l2 ∧ l2 ≤ 2048) (IH : ∀ (W : World) (a wq : Int), Below w0.heap.size w0 W → wt.RB W g A bs.length c a wq 0 p → (Kd.int .u8).C W A bs.length bs → 0 ≤ a → a ≤ (bs.length : Int) → 0 ≤ wq → wq ≤ 2048 → Calls Try.prog 40 #[.pointer (some ⟨g, 0, none⟩), .int .i64 (within + 1)] W (wt.RGotV (f a (2048 - wq)) w0 W g A bs.length c p)) :
    Calls Try.prog 40 #[.pointer (some ⟨g, 0, none⟩), .int .i64 within] w (wt.RGotV (wt.arrV (wt.arrL f n [] a1 (2048 - (wq + 1)))) w0 w g A bs.length c p) := by
  have HB := Aside0.mk hB
  have HC := Aside0.mk hC
  have HCC := Aside0.mk hc
  have HBB := Aside0.mk hb
  have HGG := Aside0.mk hg
  have HLL := Aside0.mk hU.L
  have HUU := Aside0.mk hU
  have HRR := Aside0.mk hR
  have HGL := Aside0.mk (show g < w.heap.size from blk_lt hB)
  have hu25 := Try.underlying25
  have HBW := Aside0.mk ((Below.refl w.heap.size w).alloc (Nat.le_refl _) (.cells #[.int .i64 0, .int .i64 0, .string ⟨#[]⟩, .slice none 0 0, .slice none 0 0] 25))
  have BL1 := Aside0.mk (hb.alloc hb.size (.cells #[.int .i64 0, .int .i64 0, .string ⟨#[]⟩, .slice none 0 0, .slice none 0 0] 25))
  obtain ⟨a, rfl⟩ := Int.eq_ofNat_of_zero_le ha0
  have t0 : decide ((a : Int) ≥ (bs.length : Int)) = false := decide_eq_false (by omega)
  have t1 : decide ((bs.length : Int) ≤ (a : Int)) = false := decide_eq_false (by omega)
  have t2 : decide (bs.length ≤ a) = false := decide_eq_false (by omega)
  have t3 : (a : Int) < (bs.length : Int) := ha1
  have t4 : a < bs.length := by omega
  have t5 : decide (a < bs.length) = true := decide_eq_true t4
  obtain ⟨ad, hA, hx0_⟩ := Kd.at_int hC (a : Int) (by omega) ha1
  subst hA
  rw [Int.toNat_natCast] at hx0_
  obtain ⟨x, hxd⟩ : ∃ x, rd bs (a : Int) = x := ⟨_, rfl⟩
  rw [hxd] at hx0_ ht
  have L1 := Aside0.mk (show wt.RLy (w.alloc (.cells #[.int .i64 0, .int .i64 0, .string ⟨#[]⟩, .slice none 0 0, .slice none 0 0] 25)) g (some ad) bs.length c (a : Int) wq 0 p (ad.add a) x w.heap.size #[.int .i64 0, .int .i64 0, .string ⟨#[]⟩, .slice none 0 0, .slice none 0 0] from ⟨HB.out.below HBW.out, (HBW.out.cell (World.block_lt_of_cell? w _ hx0_)).trans hx0_, by simpa using heap_alloc_new w _⟩)
  clear hx0_ hxd
  subst ht
  have w1 : decide (within ≥ 8) = false := decide_eq_false (by omega)
  have w2 : decide (8 ≤ within) = false := decide_eq_false (by omega)
  have HWQ := Aside0.mk hwq
  have hwr : wrap64 ((a : Int) + 1) = (a : Int) + 1 := by have := HLL.out; unfold wrap64; omega
  have HCB := Aside0.mk hcb
  have hwi2 : wrap64 (within + 1) = within + 1 := by unfold wrap64; omega
  rw [← hwi2] at IH
  clear hwi2
  have HIH := Aside0.mk IH
  have HFB := Aside0.mk hfb
  have HN2 := Aside0.mk hn2
  obtain ⟨T, hT⟩ : ∃ T, wt.arrL f n [] a1 (2048 - (wq + 1)) = T := ⟨_, rfl⟩
  rw [hT]
  have HP0 := Aside0.mk (And.intro hT (And.intro hbd.1 (And.intro hbd.2 (show 0 ≤ wq + 1 ∧ wq + 1 ≤ 2048 by omega))))
  have h0 := L1.out.blk.c0; have h1 := L1.out.blk.c1; have h2 := L1.out.blk.c2; have h3 := L1.out.blk.c3; have f1 := L1.out.blk.fz 1; have f2 := L1.out.blk.fz 2; have hx0 := L1.out.byt; have fr_ := blk_frozen L1.out.res 0
  clear hT hn2 IH hfb hwi ha1 ha0 hwq hw hbd hcb
  clear hU hR hb hg hB hC hc
  go_enter Try.func40, Try.ntmps40
  go_wp2_with (first | (go_at_call 59; refine (wt.heavY BL1.out HGG.out L1.out.blk 1 (a : Int) HWQ.out.1 (by omega) HWQ.out.2).mono ?_; rintro e_ w3 ⟨rfl, hx⟩; have L3 := Aside0.mk (L1.out.fr hx.fr hx.blk); have FR3 := Aside0.mk ((wt.Fr.of_below HBW.out).trans hx.fr); have BL3 := Aside0.mk hx.bel; clear hx; clear h0 h1 h2 h3 f1 f2 hx0 fr_; have h0 := L3.out.blk.c0; have h1 := L3.out.blk.c1; have h2 := L3.out.blk.c2; have h3 := L3.out.blk.c3; have f1 := L3.out.blk.fz 1; have f2 := L3.out.blk.fz 2; have hx0 := L3.out.byt; have fr_ := blk_frozen L3.out.res 0) | ((with_reducible refine gate_store (p := 62) rfl ?_); go_must (refine store_event ?hg (t := 3) (p := 62) (v := .tmp 60) (w1 := w3.setCell ⟨g, 1, none⟩ (.int .i64 ((a : Int) + 1))) ?ho ?hN ?hr ?_); (case ho => rfl); (case hN => rfl); (case hg => rfl); (case hr => first | (go_simp; done) | (go_simp; rfl)); intro w4 ex; have L4 := Aside0.mk (L3.out.fr (ex ▸ wt.Fr.set _ _ _ _) (ex ▸ L3.out.blk.set1 _)); have FR4 := Aside0.mk (show wt.Fr g w w4 from ex ▸ FR3.out.trans (wt.Fr.set _ _ _ _)); have BL4 := Aside0.mk (show Below w0.heap.size w0 w4 from ex ▸ BL3.out.setCell HGG.out _); have HV4 := Aside0.mk (show w.heap.size < w4.heap.size from by { rw [ex, Deep.nblk_setCell]; have := blk_lt L3.out.res; exact this }); clear ex; clear h0 h1 h2 h3 f1 f2 hx0 fr_; have h0 := L4.out.blk.c0; have h1 := L4.out.blk.c1; have h2 := L4.out.blk.c2; have h3 := L4.out.blk.c3; have f1 := L4.out.blk.fz 1; have f2 := L4.out.blk.fz 2; have hx0 := L4.out.byt; have fr_ := blk_frozen L4.out.res 0) | ((with_reducible refine gate_store (p := 11) rfl ?_); refine wt.store_res rfl rfl 11 _ rfl w4.heap.size rfl (.int .i64 4) (.int .i64 0) (.string ⟨#[]⟩) (.slice none 0 0) (.slice none 0 0) rfl (fun q hq => by simp at hq; rcases hq with rfl | rfl | rfl | rfl | rfl <;> rfl) _ rfl (by simpa using heap_alloc_new w4 _) ?_; intro w5 hres hgr; have HB5 := Aside0.mk (wt.own_res hgr); have L5 := Aside0.mk (L4.out.below HB5.out); have Q5 := Aside0.mk (show wt.LR w0 w w5 g (some ad) bs.length c w4.heap.size ((a : Int) + 1) (wq + 1) 0 p 4 (.slice none 0 0) (.slice none 0 0) [] [] from ⟨L5.out.blk, FR4.out.trans (wt.Fr.of_below HB5.out), below_then BL4.out BL4.out.size HB5.out, hres, L5.out.res, Kd.R_nil _ _ _ _ _, Kd.R_nil _ _ _ _ _, HV4.out, HGL.out, HGG.out⟩); clear hres hgr; clear h0 h1 h2 h3 f1 f2 hx0 fr_; have h0 := L5.out.blk.c0; have h1 := L5.out.blk.c1; have h2 := L5.out.blk.c2; have h3 := L5.out.blk.c3; have f1 := L5.out.blk.fz 1; have f2 := L5.out.blk.fz 2; have hx0 := L5.out.byt; have fr_ := blk_frozen L5.out.res 0) | (go_at_call 61; refine (wt.rnum1 HUU.out HRR.out Q5.out.bel HGG.out Q5.out.blk (wt.rbytes HC.out HB.out Q5.out.fr) HCC.out (a : Int) 1 (by omega) (by have := HWQ.out; omega)).mono ?_; rw [HCB.out]; rintro e_ w6 ⟨rfl, hx⟩; rw [show (2048 - (2048 - (wq + 1)) : Int) = wq + 1 by omega] at hx; have Q6 := Aside0.mk (Q5.out.step hx); clear hx; clear h0 h1 h2 h3 f1 f2 hx0 fr_))
  generalize w4.heap.size = vb at *
  go_loopw [13] (fun v13 wr => ∃ (j : Nat) (acc : List S25) (v3 : Value) (a' wq' f' p' : Int), v13 = .int .i64 (j : Int) ∧ Aside0 ((f' = 0 ∧ p' = p ∧ wt.arrL f (n - j) acc a' (2048 - wq') = T ∧ acc.length = j ∧ j ≤ n ∧ (0 ≤ a' ∧ a' ≤ (bs.length : Int) ∧ 0 ≤ wq' ∧ wq' ≤ 2048)) ∨ (f' ≠ 0 ∧ T = .bad f' p')) ∧ Aside0 (wt.LR w0 w wr g (some ad) bs.length c vb a' wq' f' p' 4 v3 (.slice none 0 0) acc [])) (fun v13 _ => n - (intOf v13).toNat)
  case atStart => exact ⟨0, [], _, a1, wq + 1, 0, p, rfl, ⟨Or.inl ⟨rfl, rfl, HP0.out.1, rfl, Nat.zero_le _, HP0.out.2.1, HP0.out.2.2.1, HP0.out.2.2.2.1, HP0.out.2.2.2.2⟩⟩, Q6⟩
  case round =>
    clear Q6 Q5 HP0 HB5 L5
    obtain ⟨j, acc, v3, a', wq', f', p', rfl, HS, HL⟩ := hrel
    have h3 := HL.out.blk.c3
    rcases HS.out with ⟨rfl, rfl, hrem, hlen, hjn, hbd⟩ | ⟨hf, rfl⟩
    · clear HS
      have HP := Aside0.mk (And.intro hrem (And.intro hlen (And.intro hjn hbd)))
      by_cases hlt : j < n
      · have i1 : decide ((j : Int) < (n : Int)) = true := decide_eq_true (by omega)
        have i2 : decide (j < n) = true := decide_eq_true hlt
        have i3 : (j < n) = True := eq_true hlt
        have HWR := Aside0.mk (show wrap64 ((j : Int) + 1) = (j : Int) + 1 by have := HN2.out; unfold wrap64; omega)
        have HM := Aside0.mk (wt.meas j n hlt HWR.out)
        have HJ := Aside0.mk hlt
        clear hlt hrem hlen hjn hbd
        go_wp2
        refine start_ (n := 10) (S := fun w' => w'.cell? ⟨vb, 3, none⟩ = some v3) (ds := [9]) #[false, false, false, false, false, false, false, false, false, false] (by kernel_rfl) rfl rfl ((blk_cell (HL.out.below (below_drew (Below.refl _ _))).box 3).trans rfl) (fun hHeld => ?_)
        generalize hwd : wr.drew = wd at hHeld ⊢
        have QD := Aside0.mk (hwd ▸ HL.out.below (below_drew (Below.refl _ _)))
        clear hwd
        refine pure_ (i := 0) (N := some 194) (v := ?_) (a' := ?_) #[true, false, false, false, false, false, false, false, false, false] rfl rfl (by kernel_rfl) (fun _ _ _ h => h) (Or.inl ⟨by rfl, ?_⟩) ?_ ?_
        rotate_left
        · intro w'
          go_simp
          with_reducible rfl
        rotate_left
        · simp only [Act.put, List.setIfInBounds_toArray, List.set_cons_zero, List.set_cons_succ, i64_w, i32_w]
          rfl
        refine pure_ (i := 2) (N := some 196) (v := ?_) (a' := ?_) #[true, false, true, false, false, false, false, false, false, false] rfl rfl (by kernel_rfl) (fun _ _ _ h => h) (Or.inl ⟨by rfl, ?_⟩) ?_ ?_
        rotate_left
        · intro w'
          go_simp
          with_reducible rfl
        rotate_left
        · simp only [Act.put, List.setIfInBounds_toArray, List.set_cons_zero, List.set_cons_succ, i64_w, i32_w]
          rfl
        refine pure_ (i := 3) (N := some 197) (v := ?_) (a' := ?_) #[true, false, true, true, false, false, false, false, false, false] rfl rfl (by kernel_rfl) (fun _ _ _ h => h) (Or.inl ⟨by rfl, ?_⟩) ?_ ?_
        rotate_left
        · intro w'
          go_simp
          with_reducible rfl
        rotate_left
        · simp only [Act.put, List.setIfInBounds_toArray, List.set_cons_zero, List.set_cons_succ, i64_w, i32_w]
          rfl
        refine pure_ (i := 4) (N := some 198) (v := ?_) (a' := ?_) #[true, false, true, true, true, false, false, false, false, false] rfl rfl (by kernel_rfl) (fun _ _ _ h => h) (Or.inl ⟨by rfl, ?_⟩) ?_ ?_
        rotate_left
        · intro w'
          go_simp
          with_reducible rfl
        rotate_left
        · simp only [Act.put, List.setIfInBounds_toArray, List.set_cons_zero, List.set_cons_succ, i64_w, i32_w]
          rfl
        refine take_ (i := 1) (N := some 195) (v := ?_) (a' := ?_) #[true, true, true, true, true, false, false, false, false, false] rfl rfl (by kernel_rfl) (fun _ _ _ h => h) (Or.inl ⟨by rfl, ?_⟩) hHeld ?_ ?_
        rotate_left
        · intro w' s0
          go_simp
          with_reducible rfl
        rotate_left
        · simp only [Act.put, List.setIfInBounds_toArray, List.set_cons_zero, List.set_cons_succ, i64_w, i32_w]
          rfl
        refine one_ (i := 5) (N := some 199) #[true, true, true, true, true, true, false, false, false, false] rfl rfl (by kernel_rfl) (by decide) (fun K hK => ?_)
        refine goes_ Try.func40 (by kernel_rfl) rfl #[.pointer (some ⟨g, 0, none⟩), .int .i64 (wrap64 (within + 1))] (by rfl) rfl rfl (by (try simp only [List.map_toArray, List.map_cons, List.map_nil]); first | done | rfl) ?_
        refine (HIH.out _ _ _ QD.out.bel QD.out.blk (wt.rbytes HC.out HB.out QD.out.fr) HP.out.2.2.2.1 HP.out.2.2.2.2.1 HP.out.2.2.2.2.2.1 HP.out.2.2.2.2.2.2).mono ?_
        rintro e w7_ hgot
        obtain ⟨x, u3, u4, a2, wq2, f2, p2, rfl, hr3, hr4, hnx, hout⟩ := hgot.open
        refine ⟨_, rfl, ?_⟩
        have HOUT := Aside0.mk hout
        have Q7_ := Aside0.mk (QD.out.step hnx)
        have R3_ := Aside0.mk hr3
        have R4_ := Aside0.mk hr4
        have HSZ := Aside0.mk (show wd.heap.size ≤ w7_.heap.size from hnx.fr.1)
        clear hgot hnx hr3 hr4 hout
        refine hK.out _ _ ((blk_cell Q7_.out.box 3).trans rfl) (fun hHeld => ?_)
        clear hK K
        refine norm_ (a' := ?_) ?_ ?_
        rotate_left
        · show Act.put _ (some 199) _ = _
          simp only [Act.put, List.setIfInBounds_toArray, List.set_cons_zero, List.set_cons_succ, i64_w, i32_w]
          rfl
        refine one_ (i := 6) (N := some 200) #[true, true, true, true, true, true, true, false, false, false] rfl rfl (by kernel_rfl) (by decide) (fun K hK => ?_)
        refine value_ (w1 := ?_) (v := ?_) (by rfl) rfl ?_ ?_
        rotate_left 2
        · go_simp
          constructor
          · rfl
          · rfl
        refine hK.out _ _ ((blk_cell (blk_alloc Q7_.out.box _) 3).trans rfl) (fun hHeld => ?_)
        clear hK K
        refine norm_ (a' := ?_) ?_ ?_
        rotate_left
        · show Act.put _ (some 200) _ = _
          simp only [Act.put, List.setIfInBounds_toArray, List.set_cons_zero, List.set_cons_succ, i64_w, i32_w]
          rfl
        refine one_ (i := 7) (N := some 201) #[true, true, true, true, true, true, true, true, false, false] rfl rfl (by kernel_rfl) (by decide) (fun K hK => ?_)
        refine Kd.R_append_step k25 (w0 := w0) w0.heap.size (by rfl) (.tmp 195) (.tmp 200) 22 25 (.agg #[(.int .i64 0), (.int .i64 0), (.string ⟨#[]⟩), (.slice none 0 0), (.slice none 0 0)]) 80 rfl Try.underlying22 info25 rfl (by decide) (by omega) v3 acc x [.int .i64 x.f0, .int .i64 x.f1, .string x.f2, u3, u4] (fun k => vb < k ∧ some k ≠ (.slice none 0 0 : Value).ownBlock) (fun k => wd.heap.size ≤ k) rfl rfl ?aP ?aK ?aF ?aO ?aB ?aS ?aL ?_
        (case aP => exact k25_mkM _ _ _ x R3_.out R4_.out)
        (case aK => exact fun k hk => ⟨⟨Nat.lt_of_lt_of_le QD.out.lt hk, fun e => absurd (Kd.R_lt QD.out.keys k e.symm) (by omega)⟩, fun e => absurd (Kd.R_lt QD.out.row k e.symm) (by omega)⟩)
        (case aF => exact fun k hk => ⟨Nat.lt_of_lt_of_le Q7_.out.lt hk, fun e => absurd (Kd.R_lt Q7_.out.keys k e.symm) (by omega)⟩)
        (case aO => exact Q7_.out.row)
        (case aB => exact Q7_.out.bel)
        (case aS => exact Q7_.out.bel.size)
        (case aL => have e1 := HP.out.2.1; have e2 := HJ.out; have e3 := HN2.out; omega)
        intro v5 w8_ ho hb hg2 hat
        obtain ⟨A5, c5, e5⟩ := Kd.R_slice ho
        subst e5
        have Q9 := Aside0.mk (Q7_.out.app3 ho hb hg2)
        have B8_ := Aside0.mk (blk_grown Q7_.out.box hg2 (fun e => absurd (Q7_.out.row.1 vb e.symm).1 (Nat.lt_irrefl _)))
        have fv8_ := blk_frozen B8_.out 3
        clear ho hb hg2 hat
        refine hK.out _ _ ((blk_cell B8_.out 3).trans rfl) (fun hHeld => ?_)
        clear hK K
        refine norm_ (a' := ?_) ?_ ?_
        rotate_left
        · show Act.put _ (some 201) _ = _
          simp only [Act.put, List.setIfInBounds_toArray, List.set_cons_zero, List.set_cons_succ, i64_w, i32_w]
          rfl
        refine pure_ (i := 8) (N := some 202) (v := ?_) (a' := ?_) #[true, true, true, true, true, true, true, true, true, false] rfl rfl (by kernel_rfl) (fun _ _ _ h => h) (Or.inl ⟨by rfl, ?_⟩) ?_ ?_
        rotate_left
        · intro w'
          go_simp
          with_reducible rfl
        rotate_left
        · simp only [Act.put, List.setIfInBounds_toArray, List.set_cons_zero, List.set_cons_succ, i64_w, i32_w]
          rfl
        refine last_ (i := 9) (N := none) #[true, true, true, true, true, true, true, true, true, true] rfl rfl (by kernel_rfl) (by decide) (fun K hK => ?_)
        refine skip_ (w1 := ?_) (by rfl) rfl ?_ ?_
        rotate_left
        · go_simp
          rfl
        refine hK.out _ _ ?_
        clear hK K
        refine done_ (by kernel_rfl) ?_
        go_wp2
        rw [show (acc ++ [x]).length = acc.length + 1 from by simp] at Q9
        go_roundw
        case rel =>
          refine ⟨j + 1, acc ++ [x], _, a2, wq2, f2, p2, by rw [HWR.out]; rfl, ⟨?_⟩, Q9⟩
          rcases wt.arr_step HJ.out HP.out.1 HOUT.out with ⟨q1, q2, q3, q4⟩ | ⟨q1, q2⟩
          · have hb2 := HFB.out _ _ _ _ _ HP.out.2.2.2.1 HP.out.2.2.2.2.1 (by have := HP.out.2.2.2.2.2; omega) (by have := HP.out.2.2.2.2.2; omega) q4
            exact Or.inl ⟨q1, q2, q3, by rw [List.length_append, HP.out.2.1]; rfl, HJ.out, hb2.1, hb2.2.1, by omega, by omega⟩
          · exact Or.inr ⟨q1, q2⟩
        case measure => exact HM.out
      · have i1 : decide ((j : Int) < (n : Int)) = false := decide_eq_false (by omega)
        have i2 : decide (j < n) = false := decide_eq_false hlt
        have i3 : (j < n) = False := eq_false hlt
        have hjn2 : n - j = 0 := by omega
        rw [hjn2] at hrem
        have hT2 : T = .ok acc a' (2048 - wq') := hrem.symm
        subst hT2
        clear hrem hjn2 hlt hlen hjn hbd HP
        have hz0 : wr.cell? ⟨vb, 0, none⟩ = some (.int .i64 4) := (blk_cell HL.out.box 0).trans rfl
        have hz1 : wr.cell? ⟨vb, 1, none⟩ = some (.int .i64 0) := (blk_cell HL.out.box 1).trans rfl
        have hz2 : wr.cell? ⟨vb, 2, none⟩ = some (.string ⟨#[]⟩) := (blk_cell HL.out.box 2).trans rfl
        have hz3 : wr.cell? ⟨vb, 3, none⟩ = some v3 := (blk_cell HL.out.box 3).trans rfl
        have hz4 : wr.cell? ⟨vb, 4, none⟩ = some (.slice none 0 0) := (blk_cell HL.out.box 4).trans rfl
        have hv1 : v3.oneCell' = true := by obtain ⟨A_, c_, e_⟩ := Kd.R_slice HL.out.row; subst e_; rfl
        go_wp2_with (first | ((with_reducible refine gate_store (p := 4) rfl ?_); refine wt.store_res rfl rfl 4 _ rfl w.heap.size rfl (.int .i64 4) (.int .i64 0) (.string ⟨#[]⟩) v3 (.slice none 0 0) rfl (fun q hq => by simp at hq; rcases hq with rfl | rfl | rfl | rfl | rfl <;> first | rfl | exact hv1) _ rfl HL.out.res ?_; intro w5_ hres hgr; have HRES := Aside0.mk hres; have HGR := Aside0.mk hgr; clear hgr hres))
        go_wp2
        refine bodyPost_ret (results_cell_row rfl _ _ w.heap.size 25 _ (0, 0) _ rfl HRES.out Try.underlying25 rfl (by kernel_rfl)) rfl ?_
        have e1 := HL.out.hgl; have e2 := HL.out.hvb
        refine ⟨⟨_, _, rfl, Kd.R_mono (Kd.R_grown HL.out.row HGR.out (fun k hk e => by have := Option.some.inj e; have := hk.1; omega)) (fun k hk => by have := hk.1; omega), Kd.R_nil _ _ _ _ _⟩, ?_⟩
        rw [show 2048 - (2048 - wq') = wq' by omega]
        exact wt.fin_rnx HL.out.fr HL.out.blk (by omega) HGR.out (Nat.le_refl _) HBB.out.size HL.out.bel
    · have g1 : (f' == 0) = false := beq_eq_false_iff_ne.2 hf
      have g2 : decide (f' = 0) = false := decide_eq_false hf
      have HNE := Aside0.mk hf
      clear hf HS
      by_cases hlt : j < n
      · have i1 : decide ((j : Int) < (n : Int)) = true := decide_eq_true (by omega)
        have i2 : decide (j < n) = true := decide_eq_true hlt
        have i3 : (j < n) = True := eq_true hlt
        clear hlt
        have hz0 : wr.cell? ⟨vb, 0, none⟩ = some (.int .i64 4) := (blk_cell HL.out.box 0).trans rfl
        have hz1 : wr.cell? ⟨vb, 1, none⟩ = some (.int .i64 0) := (blk_cell HL.out.box 1).trans rfl
        have hz2 : wr.cell? ⟨vb, 2, none⟩ = some (.string ⟨#[]⟩) := (blk_cell HL.out.box 2).trans rfl
        have hz3 : wr.cell? ⟨vb, 3, none⟩ = some v3 := (blk_cell HL.out.box 3).trans rfl
        have hz4 : wr.cell? ⟨vb, 4, none⟩ = some (.slice none 0 0) := (blk_cell HL.out.box 4).trans rfl
        have hv1 : v3.oneCell' = true := by obtain ⟨A_, c_, e_⟩ := Kd.R_slice HL.out.row; subst e_; rfl
        go_wp2_with (first | ((with_reducible refine gate_store (p := 4) rfl ?_); refine wt.store_res rfl rfl 4 _ rfl w.heap.size rfl (.int .i64 4) (.int .i64 0) (.string ⟨#[]⟩) v3 (.slice none 0 0) rfl (fun q hq => by simp at hq; rcases hq with rfl | rfl | rfl | rfl | rfl <;> first | rfl | exact hv1) _ rfl HL.out.res ?_; intro w5_ hres hgr; have HRES := Aside0.mk hres; have HGR := Aside0.mk hgr; clear hgr hres))
        go_wp2
        refine bodyPost_ret (results_cell_row rfl _ _ w.heap.size 25 _ (0, 0) _ rfl HRES.out Try.underlying25 rfl (by kernel_rfl)) rfl ?_
        have e1 := HL.out.hgl; have e2 := HL.out.hvb
        exact ⟨⟨⟨4, 0, ⟨#[]⟩, acc, []⟩, _, _, rfl, Kd.R_mono (Kd.R_grown HL.out.row HGR.out (fun k hk e => by have := Option.some.inj e; have := hk.1; omega)) (fun k hk => by have := hk.1; omega), Kd.R_nil _ _ _ _ _⟩, HNE.out, _, _, wt.fin_rnx HL.out.fr HL.out.blk (by omega) HGR.out (Nat.le_refl _) HBB.out.size HL.out.bel⟩
      · have i1 : decide ((j : Int) < (n : Int)) = false := decide_eq_false (by omega)
        have i2 : decide (j < n) = false := decide_eq_false hlt
        have i3 : (j < n) = False := eq_false hlt
        clear hlt
        have hz0 : wr.cell? ⟨vb, 0, none⟩ = some (.int .i64 4) := (blk_cell HL.out.box 0).trans rfl
        have hz1 : wr.cell? ⟨vb, 1, none⟩ = some (.int .i64 0) := (blk_cell HL.out.box 1).trans rfl
        have hz2 : wr.cell? ⟨vb, 2, none⟩ = some (.string ⟨#[]⟩) := (blk_cell HL.out.box 2).trans rfl
        have hz3 : wr.cell? ⟨vb, 3, none⟩ = some v3 := (blk_cell HL.out.box 3).trans rfl
        have hz4 : wr.cell? ⟨vb, 4, none⟩ = some (.slice none 0 0) := (blk_cell HL.out.box 4).trans rfl
        have hv1 : v3.oneCell' = true := by obtain ⟨A_, c_, e_⟩ := Kd.R_slice HL.out.row; subst e_; rfl
        go_wp2_with (first | ((with_reducible refine gate_store (p := 4) rfl ?_); refine wt.store_res rfl rfl 4 _ rfl w.heap.size rfl (.int .i64 4) (.int .i64 0) (.string ⟨#[]⟩) v3 (.slice none 0 0) rfl (fun q hq => by simp at hq; rcases hq with rfl | rfl | rfl | rfl | rfl <;> first | rfl | exact hv1) _ rfl HL.out.res ?_; intro w5_ hres hgr; have HRES := Aside0.mk hres; have HGR := Aside0.mk hgr; clear hgr hres))
        go_wp2
        refine bodyPost_ret (results_cell_row rfl _ _ w.heap.size 25 _ (0, 0) _ rfl HRES.out Try.underlying25 rfl (by kernel_rfl)) rfl ?_
        have e1 := HL.out.hgl; have e2 := HL.out.hvb
        exact ⟨⟨⟨4, 0, ⟨#[]⟩, acc, []⟩, _, _, rfl, Kd.R_mono (Kd.R_grown HL.out.row HGR.out (fun k hk e => by have := Option.some.inj e; have := hk.1; omega)) (fun k hk => by have := hk.1; omega), Kd.R_nil _ _ _ _ _⟩, HNE.out, _, _, wt.fin_rnx HL.out.fr HL.out.blk (by omega) HGR.out (Nat.le_refl _) HBB.out.size HL.out.bel⟩
theorem wt.rv_t6 {bs : List Int} {u i : Int → Int × Int × Int} (hU : wt.Uin bs u i) (hR : wt.Rin bs u i) {w0 w : World} {g : Nat} {A : Option Addr} {c : Nat} {a wq p : Int} (hb : Below w0.heap.size w0 w) (hg : w0.heap.size ≤ g) (hB : wt.RB w g A bs.length c a wq 0 p) (hC : (Kd.int .u8).C w A bs.length bs) (hc : bs.length ≤ c) (within : Int) (hw : within < 8) (ha0 : 0 ≤ a) (ha1 : a < (bs.length : Int)) (hwq : 0 ≤ wq ∧ wq + 1 ≤ 2048) (ht : rd bs a = 6) {n : Nat} {a1 : Int} (hcb : wt.countS u a 2 (a + 1) (2048 - (wq + 1)) = .ok (n : Int) a1 (2048 - (wq + 1))) (hn2 : n ≤ 2048) (hbd : 0 ≤ a1 ∧ a1 ≤ (bs.length : Int)) (hwi : 0 ≤ within) (f : Int → Int → wt.R3 S25) (hfb : ∀ (a l : Int) (x : S25) (a2 l2 : Int), 0 ≤ a → a ≤ (bs.length : Int) → 0 ≤ l → l ≤ 2048 → f a l = .ok x a2 l2 → 0 ≤ a2 ∧ a2 ≤ (bs.length : Int) ∧ 0 ≤ l2 ∧ l2 ≤ 2048) (IH : ∀ (W : World) (a wq : Int), Below w0.heap.size w0 W → wt.RB W g A bs.length c a wq 0 p → (Kd.int .u8).C W A bs.length bs → 0 ≤ a → a ≤ (bs.length : Int) → 0 ≤ wq → wq ≤ 2048 → Calls Try.prog 40 #[.pointer (some ⟨g, 0, none⟩), .int .i64 (within + 1)] W (wt.RGotV (f a (2048 - wq)) w0 W g A bs.length c p)) :
    Calls Try.prog 40 #[.pointer (some ⟨g, 0, none⟩), .int .i64 within] w (wt.RGotV (wt.recV (wt.recL bs u f n [] [] a1 (2048 - (wq + 1)))) w0 w g A bs.length c p) := by
  have HB := Aside0.mk hB
  have HC := Aside0.mk hC
  have HCC := Aside0.mk hc
  have HBB := Aside0.mk hb
  have HGG := Aside0.mk hg
  have HLL := Aside0.mk hU.L
  have HUU := Aside0.mk hU
  have HRR := Aside0.mk hR
  have HGL := Aside0.mk (show g < w.heap.size from blk_lt hB)
  have hu25 := Try.underlying25
  have HBW := Aside0.mk ((Below.refl w.heap.size w).alloc (Nat.le_refl _) (.cells #[.int .i64 0, .int .i64 0, .string ⟨#[]⟩, .slice none 0 0, .slice none 0 0] 25))
  have BL1 := Aside0.mk (hb.alloc hb.size (.cells #[.int .i64 0, .int .i64 0, .string ⟨#[]⟩, .slice none 0 0, .slice none 0 0] 25))
  obtain ⟨a, rfl⟩ := Int.eq_ofNat_of_zero_le ha0
  have t0 : decide ((a : Int) ≥ (bs.length : Int)) = false := decide_eq_false (by omega)
  have t1 : decide ((bs.length : Int) ≤ (a : Int)) = false := decide_eq_false (by omega)
  have t2 : decide (bs.length ≤ a) = false := decide_eq_false (by omega)
  have t3 : (a : Int) < (bs.length : Int) := ha1
  have t4 : a < bs.length := by omega
  have t5 : decide (a < bs.length) = true := decide_eq_true t4
  obtain ⟨ad, hA, hx0_⟩ := Kd.at_int hC (a : Int) (by omega) ha1
  subst hA
  rw [Int.toNat_natCast] at hx0_
  obtain ⟨x, hxd⟩ : ∃ x, rd bs (a : Int) = x := ⟨_, rfl⟩
  rw [hxd] at hx0_ ht
  have L1 := Aside0.mk (show wt.RLy (w.alloc (.cells #[.int .i64 0, .int .i64 0, .string ⟨#[]⟩, .slice none 0 0, .slice none 0 0] 25)) g (some ad) bs.length c (a : Int) wq 0 p (ad.add a) x w.heap.size #[.int .i64 0, .int .i64 0, .string ⟨#[]⟩, .slice none 0 0, .slice none 0 0] from ⟨HB.out.below HBW.out, (HBW.out.cell (World.block_lt_of_cell? w _ hx0_)).trans hx0_, by simpa using heap_alloc_new w _⟩)
  clear hx0_ hxd
  subst ht
  have w1 : decide (within ≥ 8) = false := decide_eq_false (by omega)
  have w2 : decide (8 ≤ within) = false := decide_eq_false (by omega)
  have HWQ := Aside0.mk hwq
  have hwr : wrap64 ((a : Int) + 1) = (a : Int) + 1 := by have := HLL.out; unfold wrap64; omega
  have HCB := Aside0.mk hcb
  have hwi2 : wrap64 (within + 1) = within + 1 := by unfold wrap64; omega
  rw [← hwi2] at IH
  clear hwi2
  have HIH := Aside0.mk IH
  have HFB := Aside0.mk hfb
  have HN2 := Aside0.mk hn2
  obtain ⟨T, hT⟩ : ∃ T, wt.recL bs u f n [] [] a1 (2048 - (wq + 1)) = T := ⟨_, rfl⟩
  rw [hT]
  have HP0 := Aside0.mk (And.intro hT (And.intro hbd.1 (And.intro hbd.2 (show 0 ≤ wq + 1 ∧ wq + 1 ≤ 2048 by omega))))
  have h0 := L1.out.blk.c0; have h1 := L1.out.blk.c1; have h2 := L1.out.blk.c2; have h3 := L1.out.blk.c3; have f1 := L1.out.blk.fz 1; have f2 := L1.out.blk.fz 2; have hx0 := L1.out.byt; have fr_ := blk_frozen L1.out.res 0
  clear hT hn2 IH hfb hwi ha1 ha0 hwq hw hbd hcb
  clear hU hR hb hg hB hC hc
  go_enter Try.func40, Try.ntmps40
  go_wp2_with (first | (go_at_call 59; refine (wt.heavY BL1.out HGG.out L1.out.blk 1 (a : Int) HWQ.out.1 (by omega) HWQ.out.2).mono ?_; rintro e_ w3 ⟨rfl, hx⟩; have L3 := Aside0.mk (L1.out.fr hx.fr hx.blk); have FR3 := Aside0.mk ((wt.Fr.of_below HBW.out).trans hx.fr); have BL3 := Aside0.mk hx.bel; clear hx; clear h0 h1 h2 h3 f1 f2 hx0 fr_; have h0 := L3.out.blk.c0; have h1 := L3.out.blk.c1; have h2 := L3.out.blk.c2; have h3 := L3.out.blk.c3; have f1 := L3.out.blk.fz 1; have f2 := L3.out.blk.fz 2; have hx0 := L3.out.byt; have fr_ := blk_frozen L3.out.res 0) | ((with_reducible refine gate_store (p := 62) rfl ?_); go_must (refine store_event ?hg (t := 3) (p := 62) (v := .tmp 60) (w1 := w3.setCell ⟨g, 1, none⟩ (.int .i64 ((a : Int) + 1))) ?ho ?hN ?hr ?_); (case ho => rfl); (case hN => rfl); (case hg => rfl); (case hr => first | (go_simp; done) | (go_simp; rfl)); intro w4 ex; have L4 := Aside0.mk (L3.out.fr (ex ▸ wt.Fr.set _ _ _ _) (ex ▸ L3.out.blk.set1 _)); have FR4 := Aside0.mk (show wt.Fr g w w4 from ex ▸ FR3.out.trans (wt.Fr.set _ _ _ _)); have BL4 := Aside0.mk (show Below w0.heap.size w0 w4 from ex ▸ BL3.out.setCell HGG.out _); have HV4 := Aside0.mk (show w.heap.size < w4.heap.size from by { rw [ex, Deep.nblk_setCell]; have := blk_lt L3.out.res; exact this }); clear ex; clear h0 h1 h2 h3 f1 f2 hx0 fr_; have h0 := L4.out.blk.c0; have h1 := L4.out.blk.c1; have h2 := L4.out.blk.c2; have h3 := L4.out.blk.c3; have f1 := L4.out.blk.fz 1; have f2 := L4.out.blk.fz 2; have hx0 := L4.out.byt; have fr_ := blk_frozen L4.out.res 0) | ((with_reducible refine gate_store (p := 14) rfl ?_); refine wt.store_res rfl rfl 14 _ rfl w4.heap.size rfl (.int .i64 5) (.int .i64 0) (.string ⟨#[]⟩) (.slice none 0 0) (.slice none 0 0) rfl (fun q hq => by simp at hq; rcases hq with rfl | rfl | rfl | rfl | rfl <;> rfl) _ rfl (by simpa using heap_alloc_new w4 _) ?_; intro w5 hres hgr; have HB5 := Aside0.mk (wt.own_res hgr); have L5 := Aside0.mk (L4.out.below HB5.out); have Q5 := Aside0.mk (show wt.LR w0 w w5 g (some ad) bs.length c w4.heap.size ((a : Int) + 1) (wq + 1) 0 p 5 (.slice none 0 0) (.slice none 0 0) [] [] from ⟨L5.out.blk, FR4.out.trans (wt.Fr.of_below HB5.out), below_then BL4.out BL4.out.size HB5.out, hres, L5.out.res, Kd.R_nil _ _ _ _ _, Kd.R_nil _ _ _ _ _, HV4.out, HGL.out, HGG.out⟩); clear hres hgr; clear h0 h1 h2 h3 f1 f2 hx0 fr_; have h0 := L5.out.blk.c0; have h1 := L5.out.blk.c1; have h2 := L5.out.blk.c2; have h3 := L5.out.blk.c3; have f1 := L5.out.blk.fz 1; have f2 := L5.out.blk.fz 2; have hx0 := L5.out.byt; have fr_ := blk_frozen L5.out.res 0) | (go_at_call 61; refine (wt.rnum1 HUU.out HRR.out Q5.out.bel HGG.out Q5.out.blk (wt.rbytes HC.out HB.out Q5.out.fr) HCC.out (a : Int) 2 (by omega) (by have := HWQ.out; omega)).mono ?_; rw [HCB.out]; rintro e_ w6 ⟨rfl, hx⟩; rw [show (2048 - (2048 - (wq + 1)) : Int) = wq + 1 by omega] at hx; have Q6 := Aside0.mk (Q5.out.step hx); clear hx; clear h0 h1 h2 h3 f1 f2 hx0 fr_))
  generalize w4.heap.size = vb at *
  go_loopw [16, 17] (fun v16 v17 wr => ∃ (j : Nat) (acc : List S25) (ks : List ByteArray) (v3 v4 : Value) (a' wq' f' p' : Int) (last : ByteArray), v16 = .string last ∧ v17 = .int .i64 (j : Int) ∧ Aside0 ((f' = 0 ∧ p' = p ∧ wt.recL bs u f (n - j) ks acc a' (2048 - wq') = T ∧ (acc.length = j ∧ ks.length = j) ∧ j ≤ n ∧ (0 ≤ a' ∧ a' ≤ (bs.length : Int) ∧ 0 ≤ wq' ∧ wq' ≤ 2048) ∧ (0 < j → last = rdOf ByteArray.empty ks ((j : Int) - 1))) ∨ (f' ≠ 0 ∧ T = .bad f' p')) ∧ Aside0 (wt.LR w0 w wr g (some ad) bs.length c vb a' wq' f' p' 5 v3 v4 acc ks)) (fun _ v17 _ => n - (intOf v17).toNat)
  case atStart => exact ⟨0, [], [], _, _, a1, wq + 1, 0, p, _, rfl, rfl, ⟨Or.inl ⟨rfl, rfl, HP0.out.1, ⟨rfl, rfl⟩, Nat.zero_le _, ⟨HP0.out.2.1, HP0.out.2.2.1, HP0.out.2.2.2.1, HP0.out.2.2.2.2⟩, fun h => absurd h (Nat.lt_irrefl 0)⟩⟩, Q6⟩
  case round =>
    clear Q6 Q5 HP0 HB5 L5
    obtain ⟨j, acc, ks, v3, v4, a', wq', f', p', last, rfl, rfl, HS, HL⟩ := hrel
    obtain ⟨A4, c4, e4⟩ := Kd.R_slice HL.out.keys
    subst e4
    have h3 := HL.out.blk.c3
    rcases HS.out with ⟨rfl, rfl, hrem, hlen, hjn, hbd, hlast⟩ | ⟨hf, rfl⟩
    · clear HS
      have HP := Aside0.mk (And.intro hrem (And.intro hlen (And.intro hjn hbd)))
      by_cases hlt : j < n
      · have i1 : decide ((j : Int) < (n : Int)) = true := decide_eq_true (by omega)
        have i2 : decide (j < n) = true := decide_eq_true hlt
        have i3 : (j < n) = True := eq_true hlt
        have HWR := Aside0.mk (show wrap64 ((j : Int) + 1) = (j : Int) + 1 by have := HN2.out; unfold wrap64; omega)
        have HM := Aside0.mk (wt.meas j n hlt HWR.out)
        have HJ := Aside0.mk hlt
        obtain ⟨fb, hfb⟩ : ∃ fb, decide (ks.length = 0) = fb := ⟨_, rfl⟩
        have HFI := Aside0.mk (show fb = decide (ks.length = 0) ∧ (0 < ks.length → last = rdOf ByteArray.empty ks ((ks.length : Int) - 1)) from ⟨hfb.symm, fun h => by rw [hlen.2] at h ⊢; exact hlast h⟩)
        have eb1 : ((j : Int) == 0) = fb := by rw [← hfb, hlen.2]; by_cases h : j = 0 <;> simp [h]
        have eb2 : decide ((j : Int) = 0) = fb := by rw [← hfb, hlen.2]; by_cases h : j = 0 <;> simp [h]
        have eb3 : decide (j = 0) = fb := by rw [← hfb, hlen.2]
        have KY := fun (W : World) (q1 : Below w0.heap.size w0 W) (q2 : wt.RB W g (some ad) bs.length c a' wq' 0 p') (q3 : (Kd.int .u8).C W (some ad) bs.length bs) => wt.rkey1 HUU.out HRR.out q1 HGG.out q2 q3 HCC.out ⟨hbd.2.2.1, hbd.2.2.2⟩ ks fb last HFI.out.1 HFI.out.2
        rcases hka : wt.keyS bs u ks a' (2048 - wq') with ⟨kk, ak, lk⟩ | ⟨ee, pp⟩
        · rw [hka] at KY
          have KY := Aside0.mk KY
          have HKA := Aside0.mk hka
          obtain ⟨wk, hwk⟩ : ∃ wk, lk = 2048 - wk := ⟨2048 - lk, by omega⟩
          subst hwk
          have HBK := Aside0.mk (wt.keyS_b HUU.out (by omega) hka)
          clear hlt hrem hlen hjn hbd hlast hfb hka
          go_wp2_with (first | (go_at_call 62; refine (KY.out _ HL.out.bel HL.out.blk (wt.rbytes HC.out HB.out HL.out.fr)).mono ?_; rintro e_ w7 ⟨rfl, hx⟩; rw [show (2048 - (2048 - wk) : Int) = wk by omega] at hx; have Q7 := Aside0.mk (HL.out.step hx); clear hx h3; have h3 := Q7.out.blk.c3; have hy4 := (blk_cell Q7.out.box 4).trans rfl) | (at_builtin; go_must (refine Kd.R_append Kd.string (w0 := w0) w0.heap.size rfl (.tmp 233) (.tmp 235) 23 9 (.string ⟨#[]⟩) 16 rfl Try.underlying23 info9 rfl (by decide) (by omega) (.slice A4 ks.length c4) ks kk [.string kk] (fun k => vb < k) (fun _ => False) rfl rfl rfl (fun _ h => h.elim) ?aF ?aO ?aB ?aS ?aL ?_); go_must ((case aF => exact fun k hk => Nat.lt_of_lt_of_le Q7.out.lt hk)); go_must ((case aO => exact Q7.out.keys)); go_must ((case aB => exact Q7.out.bel)); go_must ((case aS => exact Q7.out.bel.size)); go_must ((case aL => have e1 := HP.out.2.1.2; have e2 := HJ.out; have e3 := HN2.out; omega)); intro v6 w8 ho hb hg2 hat; obtain ⟨A6, c6, e6⟩ := Kd.R_slice ho; subst e6; have Q8 := Aside0.mk (Q7.out.app4 ho hb hg2 hat); have B8 := Aside0.mk (blk_grown Q7.out.box hg2 (fun e => absurd (Q7.out.keys.1 vb e.symm) (Nat.lt_irrefl _))); have fv8 := blk_frozen B8.out 4; have hy8 := (blk_cell B8.out 4).trans rfl; clear ho hb hg2 hat))
          rw [show (ks ++ [kk]).length = ks.length + 1 from by simp] at Q8
          generalize hw9 : w8.setCell ⟨vb, 4, none⟩ (.slice A6 (ks.length + 1) c6) = w9 at Q8 ⊢
          clear hw9 hy8 fv8 hy4
          refine start_ (n := 10) (S := fun w' => w'.cell? ⟨vb, 3, none⟩ = some v3) (ds := [9]) #[false, false, false, false, false, false, false, false, false, false] (by kernel_rfl) rfl rfl ((blk_cell (Q8.out.below (below_drew (Below.refl _ _))).box 3).trans rfl) (fun hHeld => ?_)
          generalize hwd : w9.drew = wd at hHeld ⊢
          have QD := Aside0.mk (hwd ▸ Q8.out.below (below_drew (Below.refl _ _)))
          clear hwd
          refine pure_ (i := 0) (N := some 238) (v := ?_) (a' := ?_) #[true, false, false, false, false, false, false, false, false, false] rfl rfl (by kernel_rfl) (fun _ _ _ h => h) (Or.inl ⟨by rfl, ?_⟩) ?_ ?_
          rotate_left
          · intro w'
            go_simp
            with_reducible rfl
          rotate_left
          · simp only [Act.put, List.setIfInBounds_toArray, List.set_cons_zero, List.set_cons_succ, i64_w, i32_w]
            rfl
          refine pure_ (i := 2) (N := some 240) (v := ?_) (a' := ?_) #[true, false, true, false, false, false, false, false, false, false] rfl rfl (by kernel_rfl) (fun _ _ _ h => h) (Or.inl ⟨by rfl, ?_⟩) ?_ ?_
          rotate_left
          · intro w'
            go_simp
            with_reducible rfl
          rotate_left
          · simp only [Act.put, List.setIfInBounds_toArray, List.set_cons_zero, List.set_cons_succ, i64_w, i32_w]
            rfl
          refine pure_ (i := 3) (N := some 241) (v := ?_) (a' := ?_) #[true, false, true, true, false, false, false, false, false, false] rfl rfl (by kernel_rfl) (fun _ _ _ h => h) (Or.inl ⟨by rfl, ?_⟩) ?_ ?_
          rotate_left
          · intro w'
            go_simp
            with_reducible rfl
          rotate_left
          · simp only [Act.put, List.setIfInBounds_toArray, List.set_cons_zero, List.set_cons_succ, i64_w, i32_w]
            rfl
          refine pure_ (i := 4) (N := some 242) (v := ?_) (a' := ?_) #[true, false, true, true, true, false, false, false, false, false] rfl rfl (by kernel_rfl) (fun _ _ _ h => h) (Or.inl ⟨by rfl, ?_⟩) ?_ ?_
          rotate_left
          · intro w'
            go_simp
            with_reducible rfl
          rotate_left
          · simp only [Act.put, List.setIfInBounds_toArray, List.set_cons_zero, List.set_cons_succ, i64_w, i32_w]
            rfl
          refine take_ (i := 1) (N := some 239) (v := ?_) (a' := ?_) #[true, true, true, true, true, false, false, false, false, false] rfl rfl (by kernel_rfl) (fun _ _ _ h => h) (Or.inl ⟨by rfl, ?_⟩) hHeld ?_ ?_
          rotate_left
          · intro w' s0
            go_simp
            with_reducible rfl
          rotate_left
          · simp only [Act.put, List.setIfInBounds_toArray, List.set_cons_zero, List.set_cons_succ, i64_w, i32_w]
            rfl
          refine one_ (i := 5) (N := some 243) #[true, true, true, true, true, true, false, false, false, false] rfl rfl (by kernel_rfl) (by decide) (fun K hK => ?_)
          refine goes_ Try.func40 (by kernel_rfl) rfl #[.pointer (some ⟨g, 0, none⟩), .int .i64 (wrap64 (within + 1))] (by rfl) rfl rfl (by (try simp only [List.map_toArray, List.map_cons, List.map_nil]); first | done | rfl) ?_
          refine (HIH.out _ _ _ QD.out.bel QD.out.blk (wt.rbytes HC.out HB.out QD.out.fr) HBK.out.1 HBK.out.2.1 (by have := HBK.out; omega) (by have := HBK.out; omega)).mono ?_
          rintro e w7_ hgot
          obtain ⟨x, u3, u4, a2, wq2, f2, p2, rfl, hr3, hr4, hnx, hout⟩ := hgot.open
          refine ⟨_, rfl, ?_⟩
          have HOUT := Aside0.mk hout
          have Q7_ := Aside0.mk (QD.out.step hnx)
          have R3_ := Aside0.mk hr3
          have R4_ := Aside0.mk hr4
          have HSZ := Aside0.mk (show wd.heap.size ≤ w7_.heap.size from hnx.fr.1)
          clear hgot hnx hr3 hr4 hout
          refine hK.out _ _ ((blk_cell Q7_.out.box 3).trans rfl) (fun hHeld => ?_)
          clear hK K
          refine norm_ (a' := ?_) ?_ ?_
          rotate_left
          · show Act.put _ (some 243) _ = _
            simp only [Act.put, List.setIfInBounds_toArray, List.set_cons_zero, List.set_cons_succ, i64_w, i32_w]
            rfl
          refine one_ (i := 6) (N := some 244) #[true, true, true, true, true, true, true, false, false, false] rfl rfl (by kernel_rfl) (by decide) (fun K hK => ?_)
          refine value_ (w1 := ?_) (v := ?_) (by rfl) rfl ?_ ?_
          rotate_left 2
          · go_simp
            constructor
            · rfl
            · rfl
          refine hK.out _ _ ((blk_cell (blk_alloc Q7_.out.box _) 3).trans rfl) (fun hHeld => ?_)
          clear hK K
          refine norm_ (a' := ?_) ?_ ?_
          rotate_left
          · show Act.put _ (some 244) _ = _
            simp only [Act.put, List.setIfInBounds_toArray, List.set_cons_zero, List.set_cons_succ, i64_w, i32_w]
            rfl
          refine one_ (i := 7) (N := some 245) #[true, true, true, true, true, true, true, true, false, false] rfl rfl (by kernel_rfl) (by decide) (fun K hK => ?_)
          refine Kd.R_append_step k25 (w0 := w0) w0.heap.size (by rfl) (.tmp 239) (.tmp 244) 22 25 (.agg #[(.int .i64 0), (.int .i64 0), (.string ⟨#[]⟩), (.slice none 0 0), (.slice none 0 0)]) 80 rfl Try.underlying22 info25 rfl (by decide) (by omega) v3 acc x [.int .i64 x.f0, .int .i64 x.f1, .string x.f2, u3, u4] (fun k => vb < k ∧ some k ≠ (.slice A6 (ks.length + 1) c6 : Value).ownBlock) (fun k => wd.heap.size ≤ k) rfl rfl ?aP ?aK ?aF ?aO ?aB ?aS ?aL ?_
          (case aP => exact k25_mkM _ _ _ x R3_.out R4_.out)
          (case aK => exact fun k hk => ⟨⟨Nat.lt_of_lt_of_le QD.out.lt hk, fun e => absurd (Kd.R_lt QD.out.keys k e.symm) (by omega)⟩, fun e => absurd (Kd.R_lt QD.out.row k e.symm) (by omega)⟩)
          (case aF => exact fun k hk => ⟨Nat.lt_of_lt_of_le Q7_.out.lt hk, fun e => absurd (Kd.R_lt Q7_.out.keys k e.symm) (by omega)⟩)
          (case aO => exact Q7_.out.row)
          (case aB => exact Q7_.out.bel)
          (case aS => exact Q7_.out.bel.size)
          (case aL => have e1 := HP.out.2.1; have e2 := HJ.out; have e3 := HN2.out; omega)
          intro v5 w8_ ho hb hg2 hat
          obtain ⟨A5, c5, e5⟩ := Kd.R_slice ho
          subst e5
          have Q9 := Aside0.mk (Q7_.out.app3 ho hb hg2)
          have B8_ := Aside0.mk (blk_grown Q7_.out.box hg2 (fun e => absurd (Q7_.out.row.1 vb e.symm).1 (Nat.lt_irrefl _)))
          have fv8_ := blk_frozen B8_.out 3
          clear ho hb hg2 hat
          refine hK.out _ _ ((blk_cell B8_.out 3).trans rfl) (fun hHeld => ?_)
          clear hK K
          refine norm_ (a' := ?_) ?_ ?_
          rotate_left
          · show Act.put _ (some 245) _ = _
            simp only [Act.put, List.setIfInBounds_toArray, List.set_cons_zero, List.set_cons_succ, i64_w, i32_w]
            rfl
          refine pure_ (i := 8) (N := some 246) (v := ?_) (a' := ?_) #[true, true, true, true, true, true, true, true, true, false] rfl rfl (by kernel_rfl) (fun _ _ _ h => h) (Or.inl ⟨by rfl, ?_⟩) ?_ ?_
          rotate_left
          · intro w'
            go_simp
            with_reducible rfl
          rotate_left
          · simp only [Act.put, List.setIfInBounds_toArray, List.set_cons_zero, List.set_cons_succ, i64_w, i32_w]
            rfl
          refine last_ (i := 9) (N := none) #[true, true, true, true, true, true, true, true, true, true] rfl rfl (by kernel_rfl) (by decide) (fun K hK => ?_)
          refine skip_ (w1 := ?_) (by rfl) rfl ?_ ?_
          rotate_left
          · go_simp
            rfl
          refine hK.out _ _ ?_
          clear hK K
          refine done_ (by kernel_rfl) ?_
          go_wp2
          rw [show (acc ++ [x]).length = acc.length + 1 from by simp] at Q9
          go_roundw
          case rel =>
            refine ⟨j + 1, acc ++ [x], ks ++ [kk], _, _, a2, wq2, f2, p2, _, rfl, by rw [HWR.out]; rfl, ⟨?_⟩, Q9⟩
            rcases wt.rec_step HJ.out HP.out.1 HKA.out HOUT.out with ⟨q1, q2, q3, q4⟩ | ⟨q1, q2⟩
            · have hb2 := HFB.out _ _ _ _ _ HBK.out.1 HBK.out.2.1 HBK.out.2.2.1 HBK.out.2.2.2 q4
              exact Or.inl ⟨q1, q2, q3, ⟨by rw [List.length_append, HP.out.2.1.1]; rfl, by rw [List.length_append, HP.out.2.1.2]; rfl⟩, HJ.out, ⟨hb2.1, hb2.2.1, by omega, by omega⟩, fun _ => wt.rd_last ks kk j HP.out.2.1.2⟩
            · exact Or.inr ⟨q1, q2⟩
          case measure => exact HM.out
        · rw [hka] at KY
          have KY := Aside0.mk KY
          have HTB := Aside0.mk (And.intro (wt.keyS_ne hka) (wt.rec_bad hlt hrem hka))
          have g1 : (ee == 0) = false := beq_eq_false_iff_ne.2 HTB.out.1
          have g2 : decide (ee = 0) = false := decide_eq_false HTB.out.1
          clear hlt hrem hlen hjn hbd hlast hfb hka
          go_wp2_with (first | (go_at_call 62; refine (KY.out _ HL.out.bel HL.out.blk (wt.rbytes HC.out HB.out HL.out.fr)).mono ?_; rintro e_ w7 ⟨⟨kk, rfl⟩, b1, b2, hx⟩; have Q7 := Aside0.mk (HL.out.step hx); clear hx h3; have h3 := Q7.out.blk.c3))
          go_roundw
          case rel => exact ⟨j + 1, acc, ks, _, _, b1, b2, ee, pp, _, rfl, by rw [HWR.out]; rfl, ⟨Or.inr HTB.out⟩, Q7⟩
          case measure => exact HM.out
      · have i1 : decide ((j : Int) < (n : Int)) = false := decide_eq_false (by omega)
        have i2 : decide (j < n) = false := decide_eq_false hlt
        have i3 : (j < n) = False := eq_false hlt
        have hjn2 : n - j = 0 := by omega
        rw [hjn2] at hrem
        have hT2 : T = .ok (ks, acc) a' (2048 - wq') := hrem.symm
        subst hT2
        clear hrem hjn2 hlt hlen hjn hbd HP hlast
        have hz0 : wr.cell? ⟨vb, 0, none⟩ = some (.int .i64 5) := (blk_cell HL.out.box 0).trans rfl
        have hz1 : wr.cell? ⟨vb, 1, none⟩ = some (.int .i64 0) := (blk_cell HL.out.box 1).trans rfl
        have hz2 : wr.cell? ⟨vb, 2, none⟩ = some (.string ⟨#[]⟩) := (blk_cell HL.out.box 2).trans rfl
        have hz3 : wr.cell? ⟨vb, 3, none⟩ = some v3 := (blk_cell HL.out.box 3).trans rfl
        have hz4 : wr.cell? ⟨vb, 4, none⟩ = some (.slice A4 ks.length c4) := (blk_cell HL.out.box 4).trans rfl
        have hv1 : v3.oneCell' = true := by obtain ⟨A_, c_, e_⟩ := Kd.R_slice HL.out.row; subst e_; rfl
        go_wp2_with (first | ((with_reducible refine gate_store (p := 4) rfl ?_); refine wt.store_res rfl rfl 4 _ rfl w.heap.size rfl (.int .i64 5) (.int .i64 0) (.string ⟨#[]⟩) v3 (.slice A4 ks.length c4) rfl (fun q hq => by simp at hq; rcases hq with rfl | rfl | rfl | rfl | rfl <;> first | rfl | exact hv1) _ rfl HL.out.res ?_; intro w5_ hres hgr; have HRES := Aside0.mk hres; have HGR := Aside0.mk hgr; clear hgr hres))
        go_wp2
        refine bodyPost_ret (results_cell_row rfl _ _ w.heap.size 25 _ (0, 0) _ rfl HRES.out Try.underlying25 rfl (by kernel_rfl)) rfl ?_
        have e1 := HL.out.hgl; have e2 := HL.out.hvb
        refine ⟨⟨_, _, rfl, Kd.R_mono (Kd.R_grown HL.out.row HGR.out (fun k hk e => by have := Option.some.inj e; have := hk.1; omega)) (fun k hk => by have := hk.1; omega), Kd.R_mono (Kd.R_grown HL.out.keys HGR.out (fun k hk e => by have := Option.some.inj e; omega)) (fun k hk => by omega)⟩, ?_⟩
        rw [show 2048 - (2048 - wq') = wq' by omega]
        exact wt.fin_rnx HL.out.fr HL.out.blk (by omega) HGR.out (Nat.le_refl _) HBB.out.size HL.out.bel
    · have g1 : (f' == 0) = false := beq_eq_false_iff_ne.2 hf
      have g2 : decide (f' = 0) = false := decide_eq_false hf
      have HNE := Aside0.mk hf
      clear hf HS
      by_cases hlt : j < n
      · have i1 : decide ((j : Int) < (n : Int)) = true := decide_eq_true (by omega)
        have i2 : decide (j < n) = true := decide_eq_true hlt
        have i3 : (j < n) = True := eq_true hlt
        clear hlt
        have hz0 : wr.cell? ⟨vb, 0, none⟩ = some (.int .i64 5) := (blk_cell HL.out.box 0).trans rfl
        have hz1 : wr.cell? ⟨vb, 1, none⟩ = some (.int .i64 0) := (blk_cell HL.out.box 1).trans rfl
        have hz2 : wr.cell? ⟨vb, 2, none⟩ = some (.string ⟨#[]⟩) := (blk_cell HL.out.box 2).trans rfl
        have hz3 : wr.cell? ⟨vb, 3, none⟩ = some v3 := (blk_cell HL.out.box 3).trans rfl
        have hz4 : wr.cell? ⟨vb, 4, none⟩ = some (.slice A4 ks.length c4) := (blk_cell HL.out.box 4).trans rfl
        have hv1 : v3.oneCell' = true := by obtain ⟨A_, c_, e_⟩ := Kd.R_slice HL.out.row; subst e_; rfl
        go_wp2_with (first | ((with_reducible refine gate_store (p := 4) rfl ?_); refine wt.store_res rfl rfl 4 _ rfl w.heap.size rfl (.int .i64 5) (.int .i64 0) (.string ⟨#[]⟩) v3 (.slice A4 ks.length c4) rfl (fun q hq => by simp at hq; rcases hq with rfl | rfl | rfl | rfl | rfl <;> first | rfl | exact hv1) _ rfl HL.out.res ?_; intro w5_ hres hgr; have HRES := Aside0.mk hres; have HGR := Aside0.mk hgr; clear hgr hres))
        go_wp2
        refine bodyPost_ret (results_cell_row rfl _ _ w.heap.size 25 _ (0, 0) _ rfl HRES.out Try.underlying25 rfl (by kernel_rfl)) rfl ?_
        have e1 := HL.out.hgl; have e2 := HL.out.hvb
        exact ⟨⟨⟨5, 0, ⟨#[]⟩, acc, ks⟩, _, _, rfl, Kd.R_mono (Kd.R_grown HL.out.row HGR.out (fun k hk e => by have := Option.some.inj e; have := hk.1; omega)) (fun k hk => by have := hk.1; omega), Kd.R_mono (Kd.R_grown HL.out.keys HGR.out (fun k hk e => by have := Option.some.inj e; omega)) (fun k hk => by omega)⟩, HNE.out, _, _, wt.fin_rnx HL.out.fr HL.out.blk (by omega) HGR.out (Nat.le_refl _) HBB.out.size HL.out.bel⟩
      · have i1 : decide ((j : Int) < (n : Int)) = false := decide_eq_false (by omega)
        have i2 : decide (j < n) = false := decide_eq_false hlt
        have i3 : (j < n) = False := eq_false hlt
        clear hlt
        have hz0 : wr.cell? ⟨vb, 0, none⟩ = some (.int .i64 5) := (blk_cell HL.out.box 0).trans rfl
        have hz1 : wr.cell? ⟨vb, 1, none⟩ = some (.int .i64 0) := (blk_cell HL.out.box 1).trans rfl
        have hz2 : wr.cell? ⟨vb, 2, none⟩ = some (.string ⟨#[]⟩) := (blk_cell HL.out.box 2).trans rfl
        have hz3 : wr.cell? ⟨vb, 3, none⟩ = some v3 := (blk_cell HL.out.box 3).trans rfl
        have hz4 : wr.cell? ⟨vb, 4, none⟩ = some (.slice A4 ks.length c4) := (blk_cell HL.out.box 4).trans rfl
        have hv1 : v3.oneCell' = true := by obtain ⟨A_, c_, e_⟩ := Kd.R_slice HL.out.row; subst e_; rfl
        go_wp2_with (first | ((with_reducible refine gate_store (p := 4) rfl ?_); refine wt.store_res rfl rfl 4 _ rfl w.heap.size rfl (.int .i64 5) (.int .i64 0) (.string ⟨#[]⟩) v3 (.slice A4 ks.length c4) rfl (fun q hq => by simp at hq; rcases hq with rfl | rfl | rfl | rfl | rfl <;> first | rfl | exact hv1) _ rfl HL.out.res ?_; intro w5_ hres hgr; have HRES := Aside0.mk hres; have HGR := Aside0.mk hgr; clear hgr hres))
        go_wp2
        refine bodyPost_ret (results_cell_row rfl _ _ w.heap.size 25 _ (0, 0) _ rfl HRES.out Try.underlying25 rfl (by kernel_rfl)) rfl ?_
        have e1 := HL.out.hgl; have e2 := HL.out.hvb
        exact ⟨⟨⟨5, 0, ⟨#[]⟩, acc, ks⟩, _, _, rfl, Kd.R_mono (Kd.R_grown HL.out.row HGR.out (fun k hk e => by have := Option.some.inj e; have := hk.1; omega)) (fun k hk => by have := hk.1; omega), Kd.R_mono (Kd.R_grown HL.out.keys HGR.out (fun k hk e => by have := Option.some.inj e; omega)) (fun k hk => by omega)⟩, HNE.out, _, _, wt.fin_rnx HL.out.fr HL.out.blk (by omega) HGR.out (Nat.le_refl _) HBB.out.size HL.out.bel⟩
end
end Go.Proofs.Ytnkbobblnhaclaa.X

/- Xxwref4: walks by hand, for the claim. -/
namespace Go.Proofs.Ytnkbobblnhaclaa.X
open Go.RowKit Go.Proofs.YtnkbobblnhaclaaW.PrintWords Go.Proofs.YtnkbobblnhaclaaW.PrintLast Go.Proofs.YtnkbobblnhaclaaW.PrintMore Go.Proofs.YtnkbobblnhaclaaW
section
set_option maxHeartbeats 4000000
set_option maxRecDepth 100000
/-- The reference's reader.value: the same as the program's. -/
theorem wt.rvalue1 {bs : List Int} {u i : Int → Int × Int × Int} (hU : wt.Uin bs u i) (hR : wt.Rin bs u i) {w0 : World} {g : Nat} {A : Option Addr} {c : Nat} {p : Int} (hg : w0.heap.size ≤ g) (hc : bs.length ≤ c) : ∀ (d : Nat), d ≤ 8 → ∀ (within : Int), within = 8 - (d : Int) → ∀ (w : World) (a wq : Int), Below w0.heap.size w0 w → wt.RB w g A bs.length c a wq 0 p → (Kd.int .u8).C w A bs.length bs → 0 ≤ a → a ≤ (bs.length : Int) → 0 ≤ wq → wq ≤ 2048 →
    Calls Try.prog 40 #[.pointer (some ⟨g, 0, none⟩), .int .i64 within] w (wt.RGotV (wt.valS bs u i d a (2048 - wq)) w0 w g A bs.length c p) := by
  intro d
  induction d with
  | zero =>
    intro _ within hw w a wq hb hB hC ha0 ha1 hl0 hl1
    rw [wt.valS]
    by_cases h0 : a = (bs.length : Int) ∨ rd bs a > 6
    · rw [if_pos h0]
      by_cases h00 : a = (bs.length : Int)
      · exact wt.rv_b1 hU hR hb hg hB hC hc within h00
      · exact wt.rv_b2 hU hR hb hg hB hC hc within ha0 (by omega) (h0.resolve_left h00)
    rw [if_neg h0]
    exact wt.rv_bd hU hR hb hg hB hC hc within ha0 (by have : a ≠ (bs.length : Int) := fun e => h0 (Or.inl e); omega) (by have : ¬ rd bs a > 6 := fun e => h0 (Or.inr e); omega) (by omega)
  | succ d ih =>
    intro hd within hw w a wq hb hB hC ha0 ha1 hl0 hl1
    rw [wt.valS_s]
    by_cases h0 : a = (bs.length : Int) ∨ rd bs a > 6
    · rw [if_pos h0]
      by_cases h00 : a = (bs.length : Int)
      · exact wt.rv_b1 hU hR hb hg hB hC hc within h00
      · exact wt.rv_b2 hU hR hb hg hB hC hc within ha0 (by omega) (h0.resolve_left h00)
    rw [if_neg h0]
    have ha2 : a < (bs.length : Int) := by
      have : a ≠ (bs.length : Int) := fun e => h0 (Or.inl e)
      omega
    have hx : rd bs a ≤ 6 := by
      have : ¬ rd bs a > 6 := fun e => h0 (Or.inr e)
      omega
    have hw8 : within < 8 := by omega
    by_cases h1 : 1 > 2048 - wq
    · rw [if_pos h1]
      exact wt.rv_bw hU hR hb hg hB hC hc within ha0 ha2 hx hw8 hl1 (by omega)
    rw [if_neg h1]
    have hwq : 0 ≤ wq ∧ wq + 1 ≤ 2048 := by omega
    by_cases k1 : rd bs a = 1
    · rw [if_pos k1]; exact wt.rv_t1 hU hR hb hg hB hC hc within hw8 ha0 ha2 hwq k1
    rw [if_neg k1]
    by_cases k2 : rd bs a = 2
    · rw [if_pos k2]; exact wt.rv_t2 hU hR hb hg hB hC hc within hw8 ha0 ha2 hwq k2
    rw [if_neg k2]
    by_cases k3 : rd bs a = 3
    · rw [if_pos k3]
      by_cases e1 : (i (a + 1)).2.2 ≠ 0
      · rw [if_pos e1]; exact wt.rv_t3N hU hR hb hg hB hC hc within hw8 ha0 ha2 hwq k3 e1
      · rw [if_neg e1]; exact wt.rv_t3 hU hR hb hg hB hC hc within hw8 ha0 ha2 hwq k3 (Classical.byContradiction e1)
    rw [if_neg k3]
    have hL : 2048 - wq - 1 = 2048 - (wq + 1) := by omega
    rw [hL]
    have hIH : ∀ (W : World) (a wq : Int), Below w0.heap.size w0 W → wt.RB W g A bs.length c a wq 0 p → (Kd.int .u8).C W A bs.length bs → 0 ≤ a → a ≤ (bs.length : Int) → 0 ≤ wq → wq ≤ 2048 → Calls Try.prog 40 #[.pointer (some ⟨g, 0, none⟩), .int .i64 (within + 1)] W (wt.RGotV (wt.valS bs u i d a (2048 - wq)) w0 W g A bs.length c p) := ih (by omega) (within + 1) (by omega)
    have hFB : ∀ (a l : Int) (x : S25) (a2 l2 : Int), 0 ≤ a → a ≤ (bs.length : Int) → 0 ≤ l → l ≤ 2048 → wt.valS bs u i d a l = .ok x a2 l2 → 0 ≤ a2 ∧ a2 ≤ (bs.length : Int) ∧ 0 ≤ l2 ∧ l2 ≤ 2048 := fun a l x a2 l2 q1 q2 q3 q4 q => wt.valS_b hU d a l x a2 l2 ⟨q1, q2, q3, q4⟩ q
    have cE : ∀ t, (u (a + 1)).2.2 ≠ 0 → wt.countS u a t (a + 1) (2048 - (wq + 1)) = .bad 41 (a + 1) := fun t e1 => by unfold wt.countS; rw [if_pos e1]
    have cS : ∀ t, ¬ (u (a + 1)).2.2 ≠ 0 → (2048 - (wq + 1)) / t < (u (a + 1)).1 → wt.countS u a t (a + 1) (2048 - (wq + 1)) = .bad 42 a := fun t e1 e2 => by unfold wt.countS; rw [if_neg e1, if_pos e2]
    have cK : ∀ t, ¬ (u (a + 1)).2.2 ≠ 0 → ¬ (2048 - (wq + 1)) / t < (u (a + 1)).1 → wt.countS u a t (a + 1) (2048 - (wq + 1)) = .ok (u (a + 1)).1 (u (a + 1)).2.1 (2048 - (wq + 1)) := fun t e1 e2 => by unfold wt.countS; rw [if_neg e1, if_neg e2]
    have hRR := hU.R (a + 1)
    by_cases k4 : rd bs a = 4
    · rw [if_pos k4]
      by_cases e1 : (u (a + 1)).2.2 ≠ 0
      · rw [if_pos e1]; exact wt.rv_t4E hU hR hb hg hB hC hc within hw8 ha0 ha2 hwq k4 (by decide) (cE 1 e1)
      rw [if_neg e1]
      by_cases e2 : (2048 - (wq + 1)) / 1 < (u (a + 1)).1
      · rw [if_pos e2]; exact wt.rv_t4E hU hR hb hg hB hC hc within hw8 ha0 ha2 hwq k4 (by decide) (cS 1 e1 e2)
      rw [if_neg e2]
      have hN := hU.N (a + 1) (Classical.byContradiction e1)
      have hcb := cK 1 e1 e2
      rw [Int.ediv_one] at e2
      by_cases e3 : (bs.length : Int) - (u (a + 1)).2.1 < (u (a + 1)).1
      · rw [if_pos e3]; exact wt.rv_t4C hU hR hb hg hB hC hc within hw8 ha0 ha2 hwq k4 hcb ⟨hRR.1, by omega, by omega, hN.2.2⟩ e3
      · rw [if_neg e3]; exact wt.rv_t4 hU hR hb hg hB hC hc within hw8 ha0 ha2 hwq k4 hcb ⟨hRR.1, by omega, by omega, hN.2.2⟩ (Int.not_lt.1 e3)
    rw [if_neg k4]
    by_cases k5 : rd bs a = 5
    · rw [if_pos k5]
      by_cases e1 : (u (a + 1)).2.2 ≠ 0
      · rw [if_pos e1]; exact wt.rv_t5E hU hR hb hg hB hC hc within hw8 ha0 ha2 hwq k5 (by decide) (cE 1 e1)
      rw [if_neg e1]
      by_cases e2 : (2048 - (wq + 1)) / 1 < (u (a + 1)).1
      · rw [if_pos e2]; exact wt.rv_t5E hU hR hb hg hB hC hc within hw8 ha0 ha2 hwq k5 (by decide) (cS 1 e1 e2)
      rw [if_neg e2]
      have hN := hU.N (a + 1) (Classical.byContradiction e1)
      have hcb := cK 1 e1 e2
      rw [Int.ediv_one] at e2
      obtain ⟨n, hn⟩ := Int.eq_ofNat_of_zero_le hRR.1
      rw [hn] at hcb e2 ⊢
      rw [Int.toNat_natCast]
      exact wt.rv_t5 hU hR hb hg hB hC hc within hw8 ha0 ha2 hwq k5 hcb (by omega) ⟨by omega, hN.2.2⟩ (by omega) _ hFB hIH
    rw [if_neg k5]
    by_cases k6 : rd bs a = 6
    · rw [if_pos k6]
      by_cases e1 : (u (a + 1)).2.2 ≠ 0
      · rw [if_pos e1]; exact wt.rv_t6E hU hR hb hg hB hC hc within hw8 ha0 ha2 hwq k6 (by decide) (cE 2 e1)
      rw [if_neg e1]
      by_cases e2 : (2048 - (wq + 1)) / 2 < (u (a + 1)).1
      · rw [if_pos e2]; exact wt.rv_t6E hU hR hb hg hB hC hc within hw8 ha0 ha2 hwq k6 (by decide) (cS 2 e1 e2)
      rw [if_neg e2]
      have hN := hU.N (a + 1) (Classical.byContradiction e1)
      have hcb := cK 2 e1 e2
      obtain ⟨n, hn⟩ := Int.eq_ofNat_of_zero_le hRR.1
      rw [hn] at hcb e2 ⊢
      rw [Int.toNat_natCast]
      have hle : (2048 - (wq + 1)) / 2 ≤ 2048 - (wq + 1) := Int.ediv_le_self _ (by omega)
      exact wt.rv_t6 hU hR hb hg hB hC hc within hw8 ha0 ha2 hwq k6 hcb (by omega) ⟨by omega, hN.2.2⟩ (by omega) _ hFB hIH
    rw [if_neg k6]
    have hbx : 0 ≤ rd bs a := by
      have hlt : a.toNat < bs.length := by omega
      have : rd bs a = bs[a.toNat] := by unfold rd; rw [List.getD_eq_getElem?_getD, List.getElem?_eq_getElem hlt]; rfl
      rw [this]
      exact (hU.B _ (List.getElem_mem hlt)).1
    rw [← hL]
    exact wt.rv_t0 hU hR hb hg hB hC hc within hw8 ha0 ha2 hwq (by omega)
theorem wt.res23 {tmps : Array Value} {w : World} {bv : Nat} (hp4 : tmps[4]? = some (.pointer (some ⟨bv, 0, none⟩))) {v0 v1 v2 v3 v4 : Value} {x y : Int} (hp5 : tmps[5]? = some (.int .i64 x)) (hp6 : tmps[6]? = some (.int .i64 y)) (hv : w.heap[bv]? = some (.cells #[v0, v1, v2, v3, v4] 25 (0, 0))) :
    (results Try.f23 tmps).run Try.prog w = .ok (.tuple #[.agg #[v0, v1, v2, v3, v4], .int .i64 x, .int .i64 y]) w := by
  have z0 : w.cell? ⟨bv, 0, none⟩ = some v0 := (blk_cell hv 0).trans rfl
  have z1 : w.cell? ⟨bv, 1, none⟩ = some v1 := (blk_cell hv 1).trans rfl
  have z2 : w.cell? ⟨bv, 2, none⟩ = some v2 := (blk_cell hv 2).trans rfl
  have z3 : w.cell? ⟨bv, 3, none⟩ = some v3 := (blk_cell hv 3).trans rfl
  have z4 : w.cell? ⟨bv, 4, none⟩ = some v4 := (blk_cell hv 4).trans rfl
  simp [results, Try.results23, hp4, hp5, hp6, asAddr, z0, z1, z2, z3, z4, go_sem]
/-- Behind the reference's Take. -/
def wt.RGotT (r : wt.R3 S25) (w : World) (e : Ending) (w' : World) : Prop :=
  match r with
  | .ok x a' _ => ∃ v3 v4 : Value, e = .returned (.tuple #[.agg #[.int .i64 x.f0, .int .i64 x.f1, .string x.f2, v3, v4], .int .i64 a', .int .i64 0]) ∧ k25.R 25 w' w.heap.size (fun _ => True) v3 x.f3 ∧ Kd.string.R 9 w' w.heap.size (fun _ => True) v4 x.f4 ∧ Below w.heap.size w w'
  | .bad f p => e = .returned (.tuple #[.agg #[.int .i64 0, .int .i64 0, .string ⟨#[]⟩, .slice none 0 0, .slice none 0 0], .int .i64 p, .int .i64 f]) ∧ Below w.heap.size w w'
theorem wt.rtakeA {bs : List Int} {w : World} {A : Option Addr} {c : Nat} {at_ : Int} (h : at_ < 0 ∨ at_ > (bs.length : Int)) : Calls Try.prog 23 #[.slice A bs.length c, .int .i64 at_] w (wt.RGotT (.bad 41 0) w) := by
  obtain ⟨m, hm⟩ : ∃ m, bs.length = m := ⟨_, rfl⟩
  rw [hm] at h ⊢
  have FIN := Aside0.mk (show (w.alloc (.cells #[.int .i64 0, .int .i64 0, .string ⟨#[]⟩, .slice none 0 0, .slice none 0 0] 25)).heap[w.heap.size]? = some (.cells #[.int .i64 0, .int .i64 0, .string ⟨#[]⟩, .slice none 0 0, .slice none 0 0] 25 (0, 0)) ∧ Below w.heap.size w (w.alloc (.cells #[.int .i64 0, .int .i64 0, .string ⟨#[]⟩, .slice none 0 0, .slice none 0 0] 25)) from ⟨by simpa using heap_alloc_new w _, (Below.refl _ _).alloc (Nat.le_refl _) _⟩)
  by_cases h1 : at_ < 0
  · have d1 : decide (at_ < 0) = true := decide_eq_true h1
    clear h
    go_enter Try.func23, Try.ntmps23
    go_wp2
    refine bodyPost_ret (wt.res23 rfl rfl rfl FIN.out.1) rfl ?_
    exact ⟨rfl, FIN.out.2⟩
  · have d1 : decide (at_ < 0) = false := decide_eq_false h1
    have h2 : at_ > (m : Int) := h.resolve_left h1
    have d2 : decide (at_ > (m : Int)) = true := decide_eq_true h2
    have d3 : decide ((m : Int) < at_) = true := decide_eq_true h2
    clear h h1
    go_enter Try.func23, Try.ntmps23
    go_wp2
    refine bodyPost_ret (wt.res23 rfl rfl rfl FIN.out.1) rfl ?_
    exact ⟨rfl, FIN.out.2⟩
theorem wt.rtakeC {bs : List Int} {u i : Int → Int × Int × Int} (hU : wt.Uin bs u i) (hRR : wt.Rin bs u i) {w : World} {A : Option Addr} {c : Nat} {at_ : Int} (hC : (Kd.int .u8).C w A bs.length bs) (hc : bs.length ≤ c) (h0 : 0 ≤ at_) (h1 : at_ ≤ (bs.length : Int)) {ee pp : Int} (hr : wt.valS bs u i 8 at_ 2048 = .bad ee pp) :
    Calls Try.prog 23 #[.slice A bs.length c, .int .i64 at_] w (wt.RGotT (.bad ee pp) w) := by
  have d1 : decide (at_ < 0) = false := decide_eq_false (by omega)
  have d2 : decide (at_ > (bs.length : Int)) = false := decide_eq_false (by omega)
  have d3 : decide ((bs.length : Int) < at_) = false := decide_eq_false (by omega)
  have HU := Aside0.mk hU
  have HRR := Aside0.mk hRR
  have HC := Aside0.mk hC
  have HCC := Aside0.mk hc
  have H0 := Aside0.mk h0
  have H1 := Aside0.mk h1
  have HR := Aside0.mk hr
  have HT := Aside0.mk (show (w.alloc (.cells #[.int .i64 0, .int .i64 0, .string ⟨#[]⟩, .slice none 0 0, .slice none 0 0] 25)).heap[w.heap.size]? = some (.cells #[.int .i64 0, .int .i64 0, .string ⟨#[]⟩, .slice none 0 0, .slice none 0 0] 25 (0, 0)) ∧ (w.alloc (.cells #[.int .i64 0, .int .i64 0, .string ⟨#[]⟩, .slice none 0 0, .slice none 0 0] 25)).heap.size = w.heap.size + 1 ∧ Below w.heap.size w (w.alloc (.cells #[.int .i64 0, .int .i64 0, .string ⟨#[]⟩, .slice none 0 0, .slice none 0 0] 25)) from ⟨by simpa using heap_alloc_new w _, Deep.nblk_alloc _ _, (Below.refl _ _).alloc (Nat.le_refl _) _⟩)
  clear hU hRR hC hc h0 h1 hr
  go_enter Try.func23, Try.ntmps23
  go_wp2_with (first | ((with_reducible refine gate_dst (N := 21) rfl ?_); refine box_event ?hg (N := 21) ?hd (cs := #[.slice A bs.length c, .int .i64 at_, .int .i64 0, .int .i64 0, .int .i64 0]) (t := 62) ?hr ?_; (case hd => rfl); (case hg => rfl); (case hr => first | (go_simp; done) | (go_simp; rfl)); intro g hg w2 hbox hb1; have HB2 := Aside0.mk (below_then HT.out.2.2 HT.out.2.2.size hb1); have V2 := Aside0.mk (blk_below HT.out.1 hb1); have G2 := Aside0.mk (show wt.RB w2 g A bs.length c at_ 0 0 0 from hbox); have HG := Aside0.mk (hg.trans HT.out.2.1); clear hbox hb1 hg) | (go_at_call 40; refine (wt.rvalue1 HU.out HRR.out (show w.heap.size ≤ g by have := HG.out; omega) HCC.out 8 (by omega) 0 rfl w2 at_ 0 HB2.out G2.out (Kd.C_below HC.out HB2.out) H0.out H1.out (by omega) (by omega)).mono ?_; rw [show (2048 - 0 : Int) = 2048 from rfl, HR.out]; rintro e_ w3 ⟨⟨x, v3, v4, rfl, hr3, hr4⟩, hf, b1, b2, hx⟩; have g1 : (ee != 0) = true := bne_iff_ne.2 hf; have g2 : (ee == 0) = false := beq_eq_false_iff_ne.2 hf; have g3 : decide (ee = 0) = false := decide_eq_false hf; clear hf; have HV := Aside0.mk (wt.one_slice (by obtain ⟨A_, c_, e_⟩ := Kd.R_slice hr3; exact ⟨_, _, _, e_⟩)); have HW := Aside0.mk (wt.one_slice (by obtain ⟨A_, c_, e_⟩ := Kd.R_slice hr4; exact ⟨_, _, _, e_⟩)); have R3_ := Aside0.mk hr3; have R4_ := Aside0.mk hr4; have V3 := Aside0.mk ((hx.fr.2 _ (blk_lt V2.out) (by have := HG.out; omega)).trans V2.out); have G3 := Aside0.mk hx.blk; have HB3 := Aside0.mk hx.bel; clear hx hr3 hr4) | ((with_reducible refine gate_store (p := 8) rfl ?_); refine wt.store_res rfl rfl 8 _ rfl w3.heap.size rfl (.int .i64 x.f0) (.int .i64 x.f1) (.string x.f2) v3 v4 rfl (fun q hq => by simp at hq; rcases hq with rfl | rfl | rfl | rfl | rfl <;> first | rfl | exact HV.out.1 | exact HW.out.1) _ rfl (by simpa using heap_alloc_new w3 _) ?_; intro w4 hres hgr; have HB4 := Aside0.mk (wt.own_res hgr); have X4 := Aside0.mk hres; have V4 := Aside0.mk (blk_below V3.out HB4.out); have G4 := Aside0.mk (G3.out.below HB4.out); have BL4 := Aside0.mk (below_then HB3.out HB3.out.size HB4.out); have HLT := Aside0.mk (blk_lt V3.out); clear hres hgr; have h3 := G4.out.c3))
  clear h3
  refine start_ (n := 12) (S := fun w' => w'.cell? ⟨g, 4, none⟩ = some (.int .i64 pp) ∧ w'.cell? ⟨g, 3, none⟩ = some (.int .i64 ee)) (ds := []) #[false, false, false, false, false, false, false, false, false, false, false, false] (by kernel_rfl) rfl rfl ⟨(G4.out.below (below_drew (Below.refl _ _))).c4, (G4.out.below (below_drew (Below.refl _ _))).c3⟩ (fun hHeld => ?_)
  generalize hwd : w4.drew = wd at hHeld ⊢
  have Gd := Aside0.mk (hwd ▸ G4.out.below (below_drew (Below.refl _ _)))
  have Vd := Aside0.mk (hwd ▸ blk_drew V4.out)
  have Xd := Aside0.mk (hwd ▸ blk_drew X4.out)
  have BLd := Aside0.mk (hwd ▸ below_drew BL4.out)
  clear hwd
  refine pure_ (i := 0) (N := some 29) (v := ?_) (a' := ?_) #[true, false, false, false, false, false, false, false, false, false, false, false] rfl rfl (by kernel_rfl) (fun _ _ _ h => h) (Or.inl ⟨by rfl, ?_⟩) ?_ ?_
  rotate_left
  · intro w'
    go_simp
    with_reducible rfl
  rotate_left
  · simp only [Act.put, List.setIfInBounds_toArray, List.set_cons_zero, List.set_cons_succ, i64_w, i32_w]
    rfl
  refine pure_ (i := 1) (N := some 30) (v := ?_) (a' := ?_) #[true, true, false, false, false, false, false, false, false, false, false, false] rfl rfl (by kernel_rfl) (fun _ _ _ h => h) (Or.inl ⟨by rfl, ?_⟩) ?_ ?_
  rotate_left
  · intro w'
    go_simp
    with_reducible rfl
  rotate_left
  · simp only [Act.put, List.setIfInBounds_toArray, List.set_cons_zero, List.set_cons_succ, i64_w, i32_w]
    rfl
  refine pure_ (i := 2) (N := some 31) (v := ?_) (a' := ?_) #[true, true, true, false, false, false, false, false, false, false, false, false] rfl rfl (by kernel_rfl) (fun _ _ _ h => h) (Or.inl ⟨by rfl, ?_⟩) ?_ ?_
  rotate_left
  · intro w'
    go_simp
    with_reducible rfl
  rotate_left
  · simp only [Act.put, List.setIfInBounds_toArray, List.set_cons_zero, List.set_cons_succ, i64_w, i32_w]
    rfl
  refine pure_ (i := 3) (N := some 32) (v := ?_) (a' := ?_) #[true, true, true, true, false, false, false, false, false, false, false, false] rfl rfl (by kernel_rfl) (fun _ _ _ h => h) (Or.inl ⟨by rfl, ?_⟩) ?_ ?_
  rotate_left
  · intro w'
    go_simp
    with_reducible rfl
  rotate_left
  · simp only [Act.put, List.setIfInBounds_toArray, List.set_cons_zero, List.set_cons_succ, i64_w, i32_w]
    rfl
  refine pure_ (i := 5) (N := some 34) (v := ?_) (a' := ?_) #[true, true, true, true, false, true, false, false, false, false, false, false] rfl rfl (by kernel_rfl) (fun _ _ _ h => h) (Or.inl ⟨by rfl, ?_⟩) ?_ ?_
  rotate_left
  · intro w'
    go_simp
    with_reducible rfl
  rotate_left
  · simp only [Act.put, List.setIfInBounds_toArray, List.set_cons_zero, List.set_cons_succ, i64_w, i32_w]
    rfl
  refine pure_ (i := 6) (N := some 35) (v := ?_) (a' := ?_) #[true, true, true, true, false, true, true, false, false, false, false, false] rfl rfl (by kernel_rfl) (fun _ _ _ h => h) (Or.inl ⟨by rfl, ?_⟩) ?_ ?_
  rotate_left
  · intro w'
    go_simp
    with_reducible rfl
  rotate_left
  · simp only [Act.put, List.setIfInBounds_toArray, List.set_cons_zero, List.set_cons_succ, i64_w, i32_w]
    rfl
  refine pure_ (i := 7) (N := some 36) (v := ?_) (a' := ?_) #[true, true, true, true, false, true, true, true, false, false, false, false] rfl rfl (by kernel_rfl) (fun _ _ _ h => h) (Or.inl ⟨by rfl, ?_⟩) ?_ ?_
  rotate_left
  · intro w'
    go_simp
    with_reducible rfl
  rotate_left
  · simp only [Act.put, List.setIfInBounds_toArray, List.set_cons_zero, List.set_cons_succ, i64_w, i32_w]
    rfl
  refine take_ (i := 4) (N := some 33) (v := ?_) (a' := ?_) #[true, true, true, true, true, true, true, true, false, false, false, false] rfl rfl (by kernel_rfl) (fun _ _ _ h => h) (Or.inl ⟨by rfl, ?_⟩) hHeld ?_ ?_
  rotate_left
  · rintro w' ⟨s0, s1⟩
    go_simp
    with_reducible rfl
  rotate_left
  · simp only [Act.put, List.setIfInBounds_toArray, List.set_cons_zero, List.set_cons_succ, i64_w, i32_w]
    rfl
  refine take_ (i := 8) (N := some 37) (v := ?_) (a' := ?_) #[true, true, true, true, true, true, true, true, true, false, false, false] rfl rfl (by kernel_rfl) (fun _ _ _ h => h) (Or.inl ⟨by rfl, ?_⟩) hHeld ?_ ?_
  rotate_left
  · rintro w' ⟨s0, s1⟩
    go_simp
    with_reducible rfl
  rotate_left
  · simp only [Act.put, List.setIfInBounds_toArray, List.set_cons_zero, List.set_cons_succ, i64_w, i32_w]
    rfl
  refine one_ (i := 9) (N := none) #[true, true, true, true, true, true, true, true, true, true, false, false] rfl rfl (by kernel_rfl) (by decide) (fun K hK => ?_)
  refine wt.st25 25 (by rfl) rfl 4 (.tmp 29) rfl (by kernel_rfl) w.heap.size 0 rfl (.int .i64 0) (.int .i64 0) (.string ⟨#[]⟩) (.slice none 0 0) (.slice none 0 0) rfl ?hone _ 25 (Nat.le_refl _) Vd.out ?_
  (case hone => intro q hq; simp at hq; rcases hq with rfl | rfl | rfl | rfl | rfl <;> rfl)
  intro w6 cv' q1 q2 q3 q4 q5
  have V6 := Aside0.mk q1
  have SZ6 := Aside0.mk q2
  have GR6 := Aside0.mk q3
  have G6 := Aside0.mk (show wt.RB w6 g A bs.length c _ _ _ _ from (q5.block _ (blk_lt Gd.out) (fun e_ => by have := Option.some.inj e_; have := HG.out; omega)).trans Gd.out)
  have X6 := Aside0.mk ((q5.block _ (blk_lt Xd.out) (fun e_ => by have := Option.some.inj e_; have := HLT.out; omega)).trans Xd.out)
  have HB6 := Aside0.mk (show Below w.heap.size w w6 from ⟨q5.os.trans BLd.out.os, q5.tape.trans BLd.out.tape, q5.output.trans BLd.out.output, Nat.le_trans BLd.out.size q5.size, fun k hk => (q5.block k (Nat.lt_of_lt_of_le hk BLd.out.size) (fun e_ => by have := Option.some.inj e_; omega)).trans (BLd.out.block k hk)⟩)
  clear q1 q2 q3 q4 q5
  refine hK.out _ _ ⟨G6.out.c4, G6.out.c3⟩ (fun hHeld => ?_)
  clear hK K
  refine pure_ (i := 10) (N := some 5) (v := ?_) (a' := ?_) #[true, true, true, true, true, true, true, true, true, true, true, false] rfl rfl (by kernel_rfl) (fun _ _ _ h => h) (Or.inl ⟨by rfl, ?_⟩) ?_ ?_
  rotate_left
  · intro w'
    go_simp
    with_reducible rfl
  rotate_left
  · simp only [Act.put, List.setIfInBounds_toArray, List.set_cons_zero, List.set_cons_succ, i64_w, i32_w]
    rfl
  refine pure_ (i := 11) (N := some 6) (v := ?_) (a' := ?_) #[true, true, true, true, true, true, true, true, true, true, true, true] rfl rfl (by kernel_rfl) (fun _ _ _ h => h) (Or.inl ⟨by rfl, ?_⟩) ?_ ?_
  rotate_left
  · intro w'
    go_simp
    with_reducible rfl
  rotate_left
  · simp only [Act.put, List.setIfInBounds_toArray, List.set_cons_zero, List.set_cons_succ, i64_w, i32_w]
    rfl
  refine done_ (by kernel_rfl) ?_
  go_wp2
  have hcv := wt.grp_eq SZ6.out GR6.out
  have V9 := V6.out
  rw [hcv] at V9
  refine bodyPost_ret (wt.res23 rfl rfl rfl V9) rfl ?_
  exact ⟨rfl, HB6.out⟩
theorem wt.rtakeB {bs : List Int} {u i : Int → Int × Int × Int} (hU : wt.Uin bs u i) (hRR : wt.Rin bs u i) {w : World} {A : Option Addr} {c : Nat} {at_ : Int} (hC : (Kd.int .u8).C w A bs.length bs) (hc : bs.length ≤ c) (h0 : 0 ≤ at_) (h1 : at_ ≤ (bs.length : Int)) {x : S25} {a2 l2 : Int} (hr : wt.valS bs u i 8 at_ 2048 = .ok x a2 l2) :
    Calls Try.prog 23 #[.slice A bs.length c, .int .i64 at_] w (wt.RGotT (.ok x a2 l2) w) := by
  have d1 : decide (at_ < 0) = false := decide_eq_false (by omega)
  have d2 : decide (at_ > (bs.length : Int)) = false := decide_eq_false (by omega)
  have d3 : decide ((bs.length : Int) < at_) = false := decide_eq_false (by omega)
  have HU := Aside0.mk hU
  have HRR := Aside0.mk hRR
  have HC := Aside0.mk hC
  have HCC := Aside0.mk hc
  have H0 := Aside0.mk h0
  have H1 := Aside0.mk h1
  have HR := Aside0.mk hr
  have HT := Aside0.mk (show (w.alloc (.cells #[.int .i64 0, .int .i64 0, .string ⟨#[]⟩, .slice none 0 0, .slice none 0 0] 25)).heap[w.heap.size]? = some (.cells #[.int .i64 0, .int .i64 0, .string ⟨#[]⟩, .slice none 0 0, .slice none 0 0] 25 (0, 0)) ∧ (w.alloc (.cells #[.int .i64 0, .int .i64 0, .string ⟨#[]⟩, .slice none 0 0, .slice none 0 0] 25)).heap.size = w.heap.size + 1 ∧ Below w.heap.size w (w.alloc (.cells #[.int .i64 0, .int .i64 0, .string ⟨#[]⟩, .slice none 0 0, .slice none 0 0] 25)) from ⟨by simpa using heap_alloc_new w _, Deep.nblk_alloc _ _, (Below.refl _ _).alloc (Nat.le_refl _) _⟩)
  clear hU hRR hC hc h0 h1 hr
  go_enter Try.func23, Try.ntmps23
  go_wp2_with (first | ((with_reducible refine gate_dst (N := 21) rfl ?_); refine box_event ?hg (N := 21) ?hd (cs := #[.slice A bs.length c, .int .i64 at_, .int .i64 0, .int .i64 0, .int .i64 0]) (t := 62) ?hr ?_; (case hd => rfl); (case hg => rfl); (case hr => first | (go_simp; done) | (go_simp; rfl)); intro g hg w2 hbox hb1; have HB2 := Aside0.mk (below_then HT.out.2.2 HT.out.2.2.size hb1); have V2 := Aside0.mk (blk_below HT.out.1 hb1); have G2 := Aside0.mk (show wt.RB w2 g A bs.length c at_ 0 0 0 from hbox); have HG := Aside0.mk (hg.trans HT.out.2.1); clear hbox hb1 hg) | (go_at_call 40; refine (wt.rvalue1 HU.out HRR.out (show w.heap.size ≤ g by have := HG.out; omega) HCC.out 8 (by omega) 0 rfl w2 at_ 0 HB2.out G2.out (Kd.C_below HC.out HB2.out) H0.out H1.out (by omega) (by omega)).mono ?_; rw [show (2048 - 0 : Int) = 2048 from rfl, HR.out]; rintro e_ w3 ⟨⟨v3, v4, rfl, hr3, hr4⟩, hx⟩; have HV := Aside0.mk (wt.one_slice (by obtain ⟨A_, c_, e_⟩ := Kd.R_slice hr3; exact ⟨_, _, _, e_⟩)); have HW := Aside0.mk (wt.one_slice (by obtain ⟨A_, c_, e_⟩ := Kd.R_slice hr4; exact ⟨_, _, _, e_⟩)); have R3_ := Aside0.mk hr3; have R4_ := Aside0.mk hr4; have V3 := Aside0.mk ((hx.fr.2 _ (blk_lt V2.out) (by have := HG.out; omega)).trans V2.out); have G3 := Aside0.mk hx.blk; have HB3 := Aside0.mk hx.bel; clear hx hr3 hr4) | ((with_reducible refine gate_store (p := 8) rfl ?_); refine wt.store_res rfl rfl 8 _ rfl w3.heap.size rfl (.int .i64 x.f0) (.int .i64 x.f1) (.string x.f2) v3 v4 rfl (fun q hq => by simp at hq; rcases hq with rfl | rfl | rfl | rfl | rfl <;> first | rfl | exact HV.out.1 | exact HW.out.1) _ rfl (by simpa using heap_alloc_new w3 _) ?_; intro w4 hres hgr; have HB4 := Aside0.mk (wt.own_res hgr); have X4 := Aside0.mk hres; have V4 := Aside0.mk (blk_below V3.out HB4.out); have G4 := Aside0.mk (G3.out.below HB4.out); have BL4 := Aside0.mk (below_then HB3.out HB3.out.size HB4.out); have HLT := Aside0.mk (blk_lt V3.out); clear hres hgr; have h3 := G4.out.c3))
  clear h3
  refine start_ (n := 8) (S := fun w' => w'.cell? ⟨g, 1, none⟩ = some (.int .i64 a2) ∧ w'.cell? ⟨w3.heap.size, 0, none⟩ = some (.int .i64 x.f0) ∧ w'.cell? ⟨w3.heap.size, 1, none⟩ = some (.int .i64 x.f1) ∧ w'.cell? ⟨w3.heap.size, 2, none⟩ = some (.string x.f2) ∧ w'.cell? ⟨w3.heap.size, 3, none⟩ = some (v3) ∧ w'.cell? ⟨w3.heap.size, 4, none⟩ = some (v4)) (ds := []) #[false, false, false, false, false, false, false, false] (by kernel_rfl) rfl rfl ⟨(G4.out.below (below_drew (Below.refl _ _))).c1, (blk_cell (blk_drew X4.out) 0).trans rfl, (blk_cell (blk_drew X4.out) 1).trans rfl, (blk_cell (blk_drew X4.out) 2).trans rfl, (blk_cell (blk_drew X4.out) 3).trans rfl, (blk_cell (blk_drew X4.out) 4).trans rfl⟩ (fun hHeld => ?_)
  generalize hwd : w4.drew = wd at hHeld ⊢
  have Gd := Aside0.mk (hwd ▸ G4.out.below (below_drew (Below.refl _ _)))
  have Vd := Aside0.mk (hwd ▸ blk_drew V4.out)
  have Xd := Aside0.mk (hwd ▸ blk_drew X4.out)
  have BLd := Aside0.mk (hwd ▸ below_drew BL4.out)
  have R3d := Aside0.mk (hwd ▸ Kd.R_drew (Kd.R_below R3_.out HB4.out))
  have R4d := Aside0.mk (hwd ▸ Kd.R_drew (Kd.R_below R4_.out HB4.out))
  clear hwd
  refine pure_ (i := 1) (N := some 39) (v := ?_) (a' := ?_) #[false, true, false, false, false, false, false, false] rfl rfl (by kernel_rfl) (fun _ _ _ h => h) (Or.inl ⟨by rfl, ?_⟩) ?_ ?_
  rotate_left
  · intro w'
    go_simp
    with_reducible rfl
  rotate_left
  · simp only [Act.put, List.setIfInBounds_toArray, List.set_cons_zero, List.set_cons_succ, i64_w, i32_w]
    rfl
  refine pure_ (i := 2) (N := some 40) (v := ?_) (a' := ?_) #[false, true, true, false, false, false, false, false] rfl rfl (by kernel_rfl) (fun _ _ _ h => h) (Or.inl ⟨by rfl, ?_⟩) ?_ ?_
  rotate_left
  · intro w'
    go_simp
    with_reducible rfl
  rotate_left
  · simp only [Act.put, List.setIfInBounds_toArray, List.set_cons_zero, List.set_cons_succ, i64_w, i32_w]
    rfl
  refine pure_ (i := 3) (N := some 41) (v := ?_) (a' := ?_) #[false, true, true, true, false, false, false, false] rfl rfl (by kernel_rfl) (fun _ _ _ h => h) (Or.inl ⟨by rfl, ?_⟩) ?_ ?_
  rotate_left
  · intro w'
    go_simp
    with_reducible rfl
  rotate_left
  · simp only [Act.put, List.setIfInBounds_toArray, List.set_cons_zero, List.set_cons_succ, i64_w, i32_w]
    rfl
  refine take_ (i := 0) (N := some 38) (v := ?_) (a' := ?_) #[true, true, true, true, false, false, false, false] rfl rfl (by kernel_rfl) (fun _ _ _ h => h) (Or.inl ⟨by rfl, ?_⟩) hHeld ?_ ?_
  rotate_left
  · rintro w' ⟨s0, s1, s2, s3, s4, s5⟩
    go_simp
    with_reducible rfl
  rotate_left
  · simp only [Act.put, List.setIfInBounds_toArray, List.set_cons_zero, List.set_cons_succ, i64_w, i32_w]
    rfl
  refine take_ (i := 4) (N := some 42) (v := ?_) (a' := ?_) #[true, true, true, true, true, false, false, false] rfl rfl (by kernel_rfl) (fun _ _ _ h => h) (Or.inl ⟨by rfl, ?_⟩) hHeld ?_ ?_
  rotate_left
  · rintro w' ⟨s0, s1, s2, s3, s4, s5⟩
    go_simp
    with_reducible rfl
  rotate_left
  · simp only [Act.put, List.setIfInBounds_toArray, List.set_cons_zero, List.set_cons_succ, i64_w, i32_w]
    rfl
  refine one_ (i := 5) (N := none) #[true, true, true, true, true, true, false, false] rfl rfl (by kernel_rfl) (by decide) (fun K hK => ?_)
  refine wt.st25 25 (by rfl) rfl 4 (.tmp 38) rfl (by kernel_rfl) w.heap.size 0 rfl (.int .i64 x.f0) (.int .i64 x.f1) (.string x.f2) v3 v4 rfl ?hone _ 25 (Nat.le_refl _) Vd.out ?_
  (case hone => intro q hq; simp at hq; rcases hq with rfl | rfl | rfl | rfl | rfl <;> first | rfl | exact HV.out.1 | exact HW.out.1)
  intro w6 cv' q1 q2 q3 q4 q5
  have V6 := Aside0.mk q1
  have SZ6 := Aside0.mk q2
  have GR6 := Aside0.mk q3
  have G6 := Aside0.mk (show wt.RB w6 g A bs.length c _ _ _ _ from (q5.block _ (blk_lt Gd.out) (fun e_ => by have := Option.some.inj e_; have := HG.out; omega)).trans Gd.out)
  have X6 := Aside0.mk ((q5.block _ (blk_lt Xd.out) (fun e_ => by have := Option.some.inj e_; have := HLT.out; omega)).trans Xd.out)
  have HB6 := Aside0.mk (show Below w.heap.size w w6 from ⟨q5.os.trans BLd.out.os, q5.tape.trans BLd.out.tape, q5.output.trans BLd.out.output, Nat.le_trans BLd.out.size q5.size, fun k hk => (q5.block k (Nat.lt_of_lt_of_le hk BLd.out.size) (fun e_ => by have := Option.some.inj e_; omega)).trans (BLd.out.block k hk)⟩)
  have R36 := Aside0.mk (Kd.R_mono (Kd.R_grown R3d.out q5 (fun k hk e => by have := Option.some.inj e; have := HB2.out.size; have := blk_lt G2.out; have := HG.out; omega)) (fun _ _ => trivial) : k25.R 25 w6 w.heap.size (fun _ => True) v3 x.f3)
  have R46 := Aside0.mk (Kd.R_mono (Kd.R_grown R4d.out q5 (fun k hk e => by have := Option.some.inj e; have := HB2.out.size; have := blk_lt G2.out; have := HG.out; omega)) (fun _ _ => trivial) : Kd.string.R 9 w6 w.heap.size (fun _ => True) v4 x.f4)
  clear q1 q2 q3 q4 q5
  refine hK.out _ _ ⟨G6.out.c1, (blk_cell X6.out 0).trans rfl, (blk_cell X6.out 1).trans rfl, (blk_cell X6.out 2).trans rfl, (blk_cell X6.out 3).trans rfl, (blk_cell X6.out 4).trans rfl⟩ (fun hHeld => ?_)
  clear hK K
  refine pure_ (i := 6) (N := some 5) (v := ?_) (a' := ?_) #[true, true, true, true, true, true, true, false] rfl rfl (by kernel_rfl) (fun _ _ _ h => h) (Or.inl ⟨by rfl, ?_⟩) ?_ ?_
  rotate_left
  · intro w'
    go_simp
    with_reducible rfl
  rotate_left
  · simp only [Act.put, List.setIfInBounds_toArray, List.set_cons_zero, List.set_cons_succ, i64_w, i32_w]
    rfl
  refine pure_ (i := 7) (N := some 6) (v := ?_) (a' := ?_) #[true, true, true, true, true, true, true, true] rfl rfl (by kernel_rfl) (fun _ _ _ h => h) (Or.inl ⟨by rfl, ?_⟩) ?_ ?_
  rotate_left
  · intro w'
    go_simp
    with_reducible rfl
  rotate_left
  · simp only [Act.put, List.setIfInBounds_toArray, List.set_cons_zero, List.set_cons_succ, i64_w, i32_w]
    rfl
  refine done_ (by kernel_rfl) ?_
  go_wp2
  have hcv := wt.grp_eq SZ6.out GR6.out
  have V9 := V6.out
  rw [hcv] at V9
  refine bodyPost_ret (wt.res23 rfl rfl rfl V9) rfl ?_
  exact ⟨_, _, rfl, R36.out, R46.out, HB6.out⟩
/-- scrupleref04.Take. -/
theorem wt.rtake1 {bs : List Int} {u i : Int → Int × Int × Int} (hU : wt.Uin bs u i) (hR : wt.Rin bs u i) {w : World} {A : Option Addr} {c : Nat} (at_ : Int) (hC : (Kd.int .u8).C w A bs.length bs) (hc : bs.length ≤ c) : Calls Try.prog 23 #[.slice A bs.length c, .int .i64 at_] w (wt.RGotT (wt.takeS bs u i at_) w) := by
  unfold wt.takeS
  by_cases h : at_ < 0 ∨ at_ > (bs.length : Int)
  · rw [if_pos h]; exact wt.rtakeA h
  · rw [if_neg h]
    have h0 : 0 ≤ at_ := by
      have : ¬ at_ < 0 := fun e => h (Or.inl e)
      omega
    have h1 : at_ ≤ (bs.length : Int) := by
      have : ¬ at_ > (bs.length : Int) := fun e => h (Or.inr e)
      omega
    rcases hr : wt.valS bs u i 8 at_ 2048 with ⟨x, a2, l2⟩ | ⟨ee, pp⟩
    · exact wt.rtakeB hU hR hC hc h0 h1 hr
    · exact wt.rtakeC hU hR hC hc h0 h1 hr
end
end Go.Proofs.Ytnkbobblnhaclaa.X

