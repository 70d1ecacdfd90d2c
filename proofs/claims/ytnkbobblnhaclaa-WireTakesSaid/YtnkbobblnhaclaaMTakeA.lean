/- MTakeA: texts of this claim, one behind the other. -/
import Derived.Test.YtnkbobblnhaclaaXx0
import Derived.Test.YtnkbobblnhaclaaXWords
import Derived.WalkLawsBesides
import Derived.Laws.Pointers
import Derived.Shelf.Abstract
import Derived.Deep.DeepMust
import Derived.Deep.QuietTactic
import Derived.BigQuiet
import Derived.Defers
import Derived.Recover
import Derived.Test.YtnkbobblnhaclaaXxnum0
set_option linter.unusedVariables false
set_option linter.unusedSimpArgs false
/- Xxwtake0: walks by hand, for the claim. -/
namespace Go.Proofs.Ytnkbobblnhaclaa.X
open Go.RowKit Go.Proofs.YtnkbobblnhaclaaW.PrintWords Go.Proofs.YtnkbobblnhaclaaW.PrintLast Go.Proofs.YtnkbobblnhaclaaW.PrintMore Go.Proofs.YtnkbobblnhaclaaW
section
set_option maxHeartbeats 4000000
set_option maxRecDepth 100000
/-- What a reading comes to: a thing, the place and the weight left; or a fault and its place. -/
inductive wt.R3 (α : Type) : Type
  | ok (x : α) (at_ left : Int) : wt.R3 α
  | bad (e p : Int) : wt.R3 α
/-- A fault, as it is thrown. -/
def wt.flt (e p : Int) : Ending := .panicked [{ v := .iface 54 (.agg #[.int .i64 e, .int .i64 p]), recovered := false }]
/-- All but block g stays. -/
def wt.Fr (g : Nat) (w w' : World) : Prop := w.heap.size ≤ w'.heap.size ∧ ∀ k, k < w.heap.size → k ≠ g → w'.heap[k]? = w.heap[k]?
theorem wt.Fr.refl (g : Nat) (w : World) : wt.Fr g w w := ⟨Nat.le_refl _, fun _ _ _ => rfl⟩
theorem wt.Fr.trans {g : Nat} {w w1 w2 : World} (h : wt.Fr g w w1) (k : wt.Fr g w1 w2) : wt.Fr g w w2 := ⟨Nat.le_trans h.1 k.1, fun i hi hne => (k.2 i (Nat.lt_of_lt_of_le hi h.1) hne).trans (h.2 i hi hne)⟩
theorem wt.Fr.of_below {g : Nat} {w w1 : World} (h : Below w.heap.size w w1) : wt.Fr g w w1 := ⟨h.size, fun i hi _ => h.block i hi⟩
theorem wt.Fr.set (w : World) (g o : Nat) (v : Value) : wt.Fr g w (w.setCell ⟨g, o, none⟩ v) := ⟨by simp [World.setCell], fun i _ hne => Below.heap_setCell w ⟨g, o, none⟩ v i hne⟩
/-- The reader's own block. -/
def wt.Blk (w : World) (g : Nat) (A : Option Addr) (n c : Nat) (at_ left : Int) : Prop := w.heap[g]? = some (.cells #[.slice A n c, .int .i64 at_, .int .i64 left] 58 (0, 0))
theorem wt.Blk.c0 {w : World} {g : Nat} {A : Option Addr} {n c : Nat} {a l : Int} (h : wt.Blk w g A n c a l) : w.cell? ⟨g, 0, none⟩ = some (.slice A n c) := (blk_cell h 0).trans rfl
theorem wt.Blk.c1 {w : World} {g : Nat} {A : Option Addr} {n c : Nat} {a l : Int} (h : wt.Blk w g A n c a l) : w.cell? ⟨g, 1, none⟩ = some (.int .i64 a) := (blk_cell h 1).trans rfl
theorem wt.Blk.c2 {w : World} {g : Nat} {A : Option Addr} {n c : Nat} {a l : Int} (h : wt.Blk w g A n c a l) : w.cell? ⟨g, 2, none⟩ = some (.int .i64 l) := (blk_cell h 2).trans rfl
theorem wt.Blk.fz {w : World} {g : Nat} {A : Option Addr} {n c : Nat} {a l : Int} (h : wt.Blk w g A n c a l) (o : Nat) : w.frozen? ⟨g, o, none⟩ = false := blk_frozen h o
theorem wt.Blk.set1 {w : World} {g : Nat} {A : Option Addr} {n c : Nat} {a l : Int} (h : wt.Blk w g A n c a l) (x : Int) : wt.Blk (w.setCell ⟨g, 1, none⟩ (.int .i64 x)) g A n c x l := blk_put h 1 (.int .i64 x) rfl
theorem wt.Blk.set2 {w : World} {g : Nat} {A : Option Addr} {n c : Nat} {a l : Int} (h : wt.Blk w g A n c a l) (x : Int) : wt.Blk (w.setCell ⟨g, 2, none⟩ (.int .i64 x)) g A n c a x := blk_put h 2 (.int .i64 x) rfl
theorem wt.Blk.below {w w1 : World} {g : Nat} {A : Option Addr} {n c : Nat} {a l : Int} (h : wt.Blk w g A n c a l) (hb : Below w.heap.size w w1) : wt.Blk w1 g A n c a l := blk_below h hb
/-- The bytes stay, whatever happens to the reader's block. -/
theorem wt.bytes_fr {w w1 : World} {g : Nat} {A : Option Addr} {n c : Nat} {a l : Int} {xs : List Int} {A' : Option Addr} {n' : Nat} (h : (Kd.int .u8).C w A' n' xs) (hB : wt.Blk w g A n c a l) (hF : wt.Fr g w w1) : (Kd.int .u8).C w1 A' n' xs := by
  refine ⟨h.1, h.2.1, fun hp => ?_⟩
  obtain ⟨ad, e, hc⟩ := h.2.2 hp
  refine ⟨ad, e, fun j p hj => ?_⟩
  obtain ⟨cs, h1, h2, h3⟩ := hc j p hj
  refine ⟨cs, h1, h2, fun i u hu => ?_⟩
  have h4 := h3 i u hu
  have hlt := World.block_lt_of_cell? w _ h4
  have hne : (ad.add (j * (Kd.int .u8).sz + i)).block ≠ g := by
    intro e1
    have h5 : cs = [.int .u8 p] := h2
    subst h5
    cases i with
    | succ i => simp at hu
    | zero =>
      simp at hu
      subst hu
      unfold World.cell? at h4
      rw [e1] at h4
      have hB' : w.heap[g]? = some (.cells #[.slice A n c, .int .i64 a, .int .i64 l] 58 (0, 0)) := hB
      rw [hB'] at h4
      simp only at h4
      split at h4
      · cases h4
      · generalize (ad.add (j * (Kd.int .u8).sz + 0)).off = o at h4
        match o, h4 with
        | 0, h4 => simp at h4
        | 1, h4 => simp at h4
        | 2, h4 => simp at h4
        | o + 3, h4 => simp at h4
  have h6 := hF.2 _ hlt hne
  rw [← h4]
  simp [World.cell?, h6]
theorem wt.fails1 (e p : Int) (w : World) : Calls Try.prog 50 #[.int .i64 e, .int .i64 p] w fun en w' => en = wt.flt e p ∧ w' = w := by
  go_enter Try.func50, Try.ntmps50
  go_wp2
  exact ⟨rfl, rfl, rfl⟩
/-- weighs, where that much is left. -/
theorem wt.weighsY {w : World} {g : Nat} {A : Option Addr} {m c : Nat} {a l : Int} (hB : wt.Blk w g A m c a l) (n p : Int) (h : n ≤ l) (hl : l ≤ 2048) (h0 : 0 ≤ n) : Calls Try.prog 51 #[.pointer (some ⟨g, 0, none⟩), .int .i64 n, .int .i64 p] w fun e w' => e = .returned (.tuple #[]) ∧ w' = w.setCell ⟨g, 2, none⟩ (.int .i64 (l - n)) := by
  have h2 := hB.c2
  have f2 := hB.fz 2
  have d1 : decide (n > l) = false := decide_eq_false (by omega)
  have d2 : decide (l < n) = false := decide_eq_false (by omega)
  have HN := Aside0.mk (show wrap64 (l - n) = l - n by unfold wrap64; omega)
  clear h hl h0
  go_enter Try.func51, Try.ntmps51
  go_wp2
  go_end0
  exact ⟨rfl, by rw [HN.out]⟩
theorem wt.weighsN {w : World} {g : Nat} {A : Option Addr} {m c : Nat} {a l : Int} (hB : wt.Blk w g A m c a l) (n p : Int) (h : l < n) : Calls Try.prog 51 #[.pointer (some ⟨g, 0, none⟩), .int .i64 n, .int .i64 p] w fun e w' => e = wt.flt 42 p ∧ w' = w := by
  have h2 := hB.c2
  have d1 : decide (n > l) = true := decide_eq_true h
  have d2 : decide (l < n) = true := decide_eq_true h
  go_enter Try.func51, Try.ntmps51
  go_wp2_with (go_at_call 50; refine (wt.fails1 42 p _).mono ?_; rintro e_ w_ ⟨rfl, rfl⟩; unfold wt.flt)
  exact ⟨rfl, rfl, rfl⟩
/-- What the walk knows of the numbers that stand in bytes. -/
structure wt.Uin (bs : List Int) (u i : Int → Int × Int × Int) : Prop where
  U : ∃ K, ∀ a, num_Uint.f K bs a = some (u a)
  I : ∃ K, ∀ a, num_Int.f K bs a = some (i a)
  R : ∀ a, 0 ≤ (u a).1 ∧ (u a).1 < 18446744073709551616
  N : ∀ a, (u a).2.2 = 0 → 0 ≤ a ∧ a < (u a).2.1 ∧ (u a).2.1 ≤ bs.length
  M : ∀ a, (i a).2.2 = 0 → 0 ≤ a ∧ a < (i a).2.1 ∧ (i a).2.1 ≤ bs.length
  V : ∀ a, -9223372036854775808 ≤ (i a).1 ∧ (i a).1 ≤ 9223372036854775807
  L : bs.length ≤ 140737488351232
  B : ∀ x ∈ bs, 0 ≤ x ∧ x ≤ 255
/-- Behind a step of the reader. -/
structure wt.Nx (w0 w w' : World) (g : Nat) (A : Option Addr) (m c : Nat) (a l : Int) : Prop where
  blk : wt.Blk w' g A m c a l
  fr : wt.Fr g w w'
  bel : Below w0.heap.size w0 w'
/-- Behind a fault. -/
structure wt.Nb (w0 w w' : World) (g : Nat) : Prop where
  fr : wt.Fr g w w'
  bel : Below w0.heap.size w0 w'
theorem wt.uint1 {bs : List Int} {m : Nat} {K : Nat} {r1 r2 r3 a : Int} {w : World} {A : Option Addr} {c : Nat} (hK : num_Uint.f K bs a = some (r1, r2, r3)) (hC : (Kd.int .u8).C w A m bs) (hc : m ≤ c) : Calls Try.prog 65 #[.slice A m c, .int .i64 a] w fun e w' => e = .returned (.tuple #[.int .u64 r1, .int .i64 r2, .int .i64 r3]) ∧ Drawn0 w w' := by
  obtain rfl := hC.1
  exact num_Uint.calls K A c bs a r1 r2 r3 w hC hc hK
theorem wt.int1 {bs : List Int} {m : Nat} {K : Nat} {r1 r2 r3 a : Int} {w : World} {A : Option Addr} {c : Nat} (hK : num_Int.f K bs a = some (r1, r2, r3)) (hC : (Kd.int .u8).C w A m bs) (hc : m ≤ c) : Calls Try.prog 52 #[.slice A m c, .int .i64 a] w fun e w' => e = .returned (.tuple #[.int .i64 r1, .int .i64 r2, .int .i64 r3]) ∧ Drawn0 w w' := by
  obtain rfl := hC.1
  exact num_Int.calls K A c bs a r1 r2 r3 w hC hc hK
theorem wt.numberY {bs : List Int} {u i : Int → Int × Int × Int} (hU : wt.Uin bs u i) {w0 w : World} {g : Nat} {A : Option Addr} {c : Nat} {a l : Int} (hb : Below w0.heap.size w0 w) (hg : w0.heap.size ≤ g) (hB : wt.Blk w g A bs.length c a l) (hC : (Kd.int .u8).C w A bs.length bs) (hc : bs.length ≤ c) (he : (u a).2.2 = 0) :
    Calls Try.prog 66 #[.pointer (some ⟨g, 0, none⟩)] w fun e w' => e = .returned (.tuple #[.int .u64 (u a).1, .int .i64 a]) ∧ wt.Nx w0 w w' g A bs.length c (u a).2.1 l := by
  obtain ⟨K, hK⟩ := hU.U
  have HK := Aside0.mk (hK a)
  have HB := Aside0.mk hB
  have HC := Aside0.mk hC
  have HCC := Aside0.mk hc
  have HBB := Aside0.mk hb
  have h0 := hB.c0
  have h1 := hB.c1
  have f1 := hB.fz 1
  have d1 : ((u a).2.2 != 0) = false := by rw [he]; rfl
  have d2 : ((u a).2.2 == 0) = true := by rw [he]; rfl
  obtain ⟨r1, r2, r3, hr⟩ : ∃ r1 r2 r3, u a = (r1, r2, r3) := ⟨_, _, _, rfl⟩
  rw [hr] at he d1 d2 HK ⊢
  dsimp only at he d1 d2 ⊢
  clear hK hr hB hC hc hb hU
  generalize bs.length = m at *
  subst he
  clear d1 d2
  go_enter Try.func66, Try.ntmps66
  go_wp2_with (go_at_call 65; refine (wt.uint1 HK.out HC.out HCC.out).mono ?_; rintro e_ w1 ⟨rfl, hd⟩; have HD := Aside0.mk hd; clear hd h0 h1 f1; have h0 := (HB.out.below HD.out.below).c0; have h1 := (HB.out.below HD.out.below).c1; have f1 := (HB.out.below HD.out.below).fz 1)
  go_ret2
  exact ⟨rfl, (HB.out.below HD.out.below).set1 _, (wt.Fr.of_below HD.out.below).trans (wt.Fr.set _ _ _ _), (below_then HBB.out HBB.out.size HD.out.below).setCell hg _⟩
theorem wt.numberN {bs : List Int} {u i : Int → Int × Int × Int} (hU : wt.Uin bs u i) {w0 w : World} {g : Nat} {A : Option Addr} {c : Nat} {a l : Int} (hb : Below w0.heap.size w0 w) (hg : w0.heap.size ≤ g) (hB : wt.Blk w g A bs.length c a l) (hC : (Kd.int .u8).C w A bs.length bs) (hc : bs.length ≤ c) (he : (u a).2.2 ≠ 0) :
    Calls Try.prog 66 #[.pointer (some ⟨g, 0, none⟩)] w fun e w' => e = wt.flt 41 a ∧ wt.Nb w0 w w' g := by
  obtain ⟨K, hK⟩ := hU.U
  have HK := Aside0.mk (hK a)
  have HB := Aside0.mk hB
  have HC := Aside0.mk hC
  have HCC := Aside0.mk hc
  have HBB := Aside0.mk hb
  have h0 := hB.c0
  have h1 := hB.c1
  have f1 := hB.fz 1
  obtain ⟨r1, r2, r3, hr⟩ : ∃ r1 r2 r3, u a = (r1, r2, r3) := ⟨_, _, _, rfl⟩
  rw [hr] at he HK
  dsimp only at he
  have d1 : (r3 != 0) = true := bne_iff_ne.2 he
  have d2 : (r3 == 0) = false := beq_eq_false_iff_ne.2 he
  have d3 : decide (r3 = 0) = false := decide_eq_false he
  clear hK hr hB hC hc hb hU he
  generalize bs.length = m at *
  go_enter Try.func66, Try.ntmps66
  go_wp2_with (first | (go_at_call 65; refine (wt.uint1 HK.out HC.out HCC.out).mono ?_; rintro e_ w1 ⟨rfl, hd⟩; have HD := Aside0.mk hd; clear hd h0 h1 f1; have h0 := (HB.out.below HD.out.below).c0; have h1 := (HB.out.below HD.out.below).c1; have f1 := (HB.out.below HD.out.below).fz 1) | (go_at_call 50; refine (wt.fails1 41 a _).mono ?_; rintro e_ w_ ⟨rfl, rfl⟩; unfold wt.flt))
  exact ⟨rfl, rfl, wt.Fr.of_below HD.out.below, below_then HBB.out HBB.out.size HD.out.below⟩
theorem wt.countY {bs : List Int} {u i : Int → Int × Int × Int} (hU : wt.Uin bs u i) {w0 w : World} {g : Nat} {A : Option Addr} {c : Nat} {a l : Int} (hb : Below w0.heap.size w0 w) (hg : w0.heap.size ≤ g) (hB : wt.Blk w g A bs.length c a l) (hC : (Kd.int .u8).C w A bs.length bs) (hc : bs.length ≤ c) (tag each : Int) (he : (u a).2.2 = 0) (h1e : 1 ≤ each) (h2e : each ≤ 2) (hl0 : 0 ≤ l) (hl1 : l ≤ 2048) (hn : (u a).1 ≤ l / each) :
    Calls Try.prog 53 #[.pointer (some ⟨g, 0, none⟩), .int .i64 tag, .int .u64 each] w fun e w' => e = .returned (.int .i64 (u a).1) ∧ wt.Nx w0 w w' g A bs.length c (u a).2.1 l := by
  have HN := Aside0.mk (wt.numberY hU hb hg hB hC hc he)
  have hr0 := (hU.R a).1
  clear hU hb hg hB hC hc he
  generalize bs.length = m at *
  obtain ⟨r1, r2, r3, hr⟩ : ∃ r1 r2 r3, u a = (r1, r2, r3) := ⟨_, _, _, rfl⟩
  rw [hr] at HN hr0 hn ⊢
  dsimp only at HN hr0 hn ⊢
  clear hr
  have h2k : r1 ≤ 2048 := by
    have : l / each ≤ 2048 := Int.le_trans (Int.ediv_le_self _ hl0) hl1
    omega
  have d1 : decide (r1 > l / each) = false := decide_eq_false (by omega)
  have d2 : decide (l / each < r1) = false := decide_eq_false (by omega)
  have d3 : (each = 0) = False := eq_false (by omega)
  have d4 : (each == 0) = false := beq_eq_false_iff_ne.2 (by omega)
  clear hn
  go_enter Try.func53, Try.ntmps53
  go_wp2_with (go_at_call 66; refine HN.out.mono ?_; rintro e_ w1 ⟨rfl, hx⟩; have HX := Aside0.mk hx; have h2 := hx.blk.c2; clear hx)
  go_ret
  exact ⟨rfl, HX.out⟩
theorem wt.countE {bs : List Int} {u i : Int → Int × Int × Int} (hU : wt.Uin bs u i) {w0 w : World} {g : Nat} {A : Option Addr} {c : Nat} {a l : Int} (hb : Below w0.heap.size w0 w) (hg : w0.heap.size ≤ g) (hB : wt.Blk w g A bs.length c a l) (hC : (Kd.int .u8).C w A bs.length bs) (hc : bs.length ≤ c) (tag each : Int) (he : (u a).2.2 ≠ 0) :
    Calls Try.prog 53 #[.pointer (some ⟨g, 0, none⟩), .int .i64 tag, .int .u64 each] w fun e w' => e = wt.flt 41 a ∧ wt.Nb w0 w w' g := by
  have HN := Aside0.mk (wt.numberN hU hb hg hB hC hc he)
  clear hU hb hg hB hC hc he
  go_enter Try.func53, Try.ntmps53
  go_wp2_with (go_at_call 66; refine HN.out.mono ?_; rintro e_ w1 ⟨rfl, hx⟩; have HX := Aside0.mk hx; clear hx; unfold wt.flt)
  exact ⟨rfl, rfl, HX.out⟩
theorem wt.countN {bs : List Int} {u i : Int → Int × Int × Int} (hU : wt.Uin bs u i) {w0 w : World} {g : Nat} {A : Option Addr} {c : Nat} {a l : Int} (hb : Below w0.heap.size w0 w) (hg : w0.heap.size ≤ g) (hB : wt.Blk w g A bs.length c a l) (hC : (Kd.int .u8).C w A bs.length bs) (hc : bs.length ≤ c) (tag each : Int) (he : (u a).2.2 = 0) (h1e : 1 ≤ each) (h2e : each ≤ 2) (hl0 : 0 ≤ l) (hl1 : l ≤ 2048) (hn : l / each < (u a).1) :
    Calls Try.prog 53 #[.pointer (some ⟨g, 0, none⟩), .int .i64 tag, .int .u64 each] w fun e w' => e = wt.flt 42 tag ∧ wt.Nb w0 w w' g := by
  have HN := Aside0.mk (wt.numberY hU hb hg hB hC hc he)
  clear hU hb hg hB hC hc he
  generalize bs.length = m at *
  obtain ⟨r1, r2, r3, hr⟩ : ∃ r1 r2 r3, u a = (r1, r2, r3) := ⟨_, _, _, rfl⟩
  rw [hr] at HN hn
  dsimp only at HN hn
  clear hr
  have d1 : decide (r1 > l / each) = true := decide_eq_true (by omega)
  have d2 : decide (l / each < r1) = true := decide_eq_true (by omega)
  have d3 : (each = 0) = False := eq_false (by omega)
  have d4 : (each == 0) = false := beq_eq_false_iff_ne.2 (by omega)
  clear hn
  go_enter Try.func53, Try.ntmps53
  go_wp2_with (first | (go_at_call 66; refine HN.out.mono ?_; rintro e_ w1 ⟨rfl, hx⟩; have HX := Aside0.mk hx; have h2 := hx.blk.c2; clear hx) | (go_at_call 50; refine (wt.fails1 42 tag _).mono ?_; rintro e_ w_ ⟨rfl, rfl⟩; unfold wt.flt))
  exact ⟨rfl, rfl, HX.out.fr, HX.out.bel⟩
theorem wt.cutN {bs : List Int} {u i : Int → Int × Int × Int} (hU : wt.Uin bs u i) {w0 w : World} {g : Nat} {A : Option Addr} {c : Nat} {a l : Int} (hb : Below w0.heap.size w0 w) (hg : w0.heap.size ≤ g) (hB : wt.Blk w g A bs.length c a l) (hC : (Kd.int .u8).C w A bs.length bs) (hc : bs.length ≤ c) (n p : Int) (ha0 : 0 ≤ a) (ha1 : a ≤ bs.length) (hL : bs.length ≤ 140737488351232) (hn : (bs.length : Int) - a < n) :
    Calls Try.prog 54 #[.pointer (some ⟨g, 0, none⟩), .int .i64 n, .int .i64 p] w fun e w' => e = wt.flt 41 p ∧ wt.Nb w0 w w' g := by
  have HBB := Aside0.mk hb
  have h0 := hB.c0
  have h1 := hB.c1
  clear hU hb hg hB hC hc
  generalize bs.length = m at *
  have d1 : decide (n > (m : Int) - a) = true := decide_eq_true (by omega)
  have d2 : decide ((m : Int) - a < n) = true := decide_eq_true (by omega)
  have hm0 : (m : Int) ≤ 140737488351232 := by omega
  clear hn hL
  go_enter Try.func54, Try.ntmps54
  go_wp2
  go_quiet (fail)
  go_wp2_with (go_at_call 50; refine (wt.fails1 41 p _).mono ?_; rintro e_ w_ ⟨rfl, rfl⟩; unfold wt.flt)
  exact ⟨rfl, rfl, wt.Fr.of_below (pw_below_drewN (Below.refl _ _) _), pw_below_drewN HBB.out _⟩
theorem wt.cutY {bs : List Int} {u i : Int → Int × Int × Int} (hU : wt.Uin bs u i) {w0 w : World} {g : Nat} {A : Option Addr} {c : Nat} {a l : Int} (hb : Below w0.heap.size w0 w) (hg : w0.heap.size ≤ g) (hB : wt.Blk w g A bs.length c a l) (hC : (Kd.int .u8).C w A bs.length bs) (hc : bs.length ≤ c) (n p : Int) (ha0 : 0 ≤ a) (ha1 : a ≤ bs.length) (hL : bs.length ≤ 140737488351232) (hn0 : 0 ≤ n) (hn : n ≤ (bs.length : Int) - a) :
    Calls Try.prog 54 #[.pointer (some ⟨g, 0, none⟩), .int .i64 n, .int .i64 p] w fun e w' => e = .returned (.string (strOfNums ((bs.drop a.toNat).take n.toNat))) ∧ wt.Nx w0 w w' g A bs.length c (a + n) l := by
  obtain ⟨a, rfl⟩ := Int.eq_ofNat_of_zero_le ha0
  obtain ⟨n, rfl⟩ := Int.eq_ofNat_of_zero_le hn0
  rw [Int.toNat_natCast, Int.toNat_natCast]
  have HBB := Aside0.mk hb
  have HB := Aside0.mk hB
  have h0 := hB.c0
  have h1 := hB.c1
  have f1 := hB.fz 1
  have h0' : (w.setCell ⟨g, 1, none⟩ (.int .i64 ((a : Int) + (n : Int)))).cell? ⟨g, 0, none⟩ = some (.slice A bs.length c) := (hB.set1 ((a : Int) + (n : Int))).c0
  have h1' : (w.setCell ⟨g, 1, none⟩ (.int .i64 ((a : Int) + (n : Int)))).cell? ⟨g, 1, none⟩ = some (.int .i64 ((a : Int) + (n : Int))) := (hB.set1 ((a : Int) + (n : Int))).c1
  have hC2 := wt.bytes_fr hC hB (wt.Fr.set w g 1 (.int .i64 ((a : Int) + (n : Int))))
  obtain ⟨i0, hi0, _, hsz0, _⟩ := info_parts info5
  have hcm := cut_mid (P := Try.prog) 26 5 .i64 .i64 Try.underlying26 hi0 1 hsz0 A bs.length c (a : Int) ((a : Int) + (n : Int)) (by omega) (by omega) (by omega) hc
  rw [Int.toNat_natCast, show ((a : Int) + (n : Int)).toNat - a = n by omega] at hcm
  have hlen : ((bs.drop a).take n).length = n := by rw [List.length_take, List.length_drop]; omega
  have hC3 := Kd.C_take (m := n) (Kd.C_drop (m := a) hC2 (by omega) hc) (by rw [List.length_drop]; omega)
  rw [hlen] at hC3
  have hC3' : (Kd.int .u8).C (w.setCell ⟨g, 1, none⟩ (.int .i64 ((a : Int) + (n : Int)))) (if c = a then A else A.map (·.add (a * 1))) n ((bs.drop a).take n) := hC3
  generalize (if c = a then A else A.map (·.add (a * 1))) = A2 at hcm hC3'
  have hcv := fun (n1 n_ : Nat) => Kd.C_string (P := Try.prog) (A := A2) (c := c - a) Try.underlying26 Try.underlying5 Try.underlying9 (Kd.C_drewN (w := (w.drewN n1).setCell ⟨g, 1, none⟩ (.int .i64 ((a : Int) + (n : Int)))) (by rw [hlen]; exact Kd.C_drewN hC3' n1 : (Kd.int .u8).C _ A2 ((bs.drop a).take n).length ((bs.drop a).take n)) n_)
  rw [hlen] at hcv
  generalize strOfNums ((bs.drop a).take n) = st at hcv ⊢
  have hm0 : (bs.length : Int) ≤ 140737488351232 := by omega
  have d1 : decide ((n : Int) > (bs.length : Int) - (a : Int)) = false := decide_eq_false (by omega)
  have d2 : decide ((bs.length : Int) - (a : Int) < (n : Int)) = false := decide_eq_false (by omega)
  have ha2 : (a : Int) ≤ (bs.length : Int) := ha1
  have hn2 : (n : Int) ≤ (bs.length : Int) - (a : Int) := hn
  clear hU hb hB hC hC2 hC3 hC3' hlen hi0 hsz0
  generalize bs.length = m at *
  have hw1 : IntKind.i64.wrap (a : Int) = (a : Int) := by rw [IntKind.wrap_i64]; omega
  have hw2 : IntKind.i64.wrap ((a : Int) + (n : Int) - (n : Int)) = (a : Int) := by rw [IntKind.wrap_i64]; omega
  go_enter Try.func54, Try.ntmps54
  go_wp2
  go_quiet (fail)
  go_wp2
  go_quiet (fail)
  go_wp2
  go_ret
  exact ⟨rfl, ((HB.out.below (pw_below_drewN (Below.refl _ _) _)).set1 _).below (pw_below_drewN (Below.refl _ _) _), ((wt.Fr.of_below (pw_below_drewN (Below.refl _ _) _)).trans (wt.Fr.set _ _ _ _)).trans (wt.Fr.of_below (pw_below_drewN (Below.refl _ _) _)), pw_below_drewN ((pw_below_drewN HBB.out _).setCell hg _) _⟩
/-- Texts stay, whatever happens to the reader's block. -/
theorem wt.texts_fr {w w1 : World} {g : Nat} {A : Option Addr} {n c : Nat} {a l : Int} {xs : List ByteArray} {A' : Option Addr} {n' : Nat} (h : Kd.string.C w A' n' xs) (hB : wt.Blk w g A n c a l) (hF : wt.Fr g w w1) : Kd.string.C w1 A' n' xs := by
  refine ⟨h.1, h.2.1, fun hp => ?_⟩
  obtain ⟨ad, e, hc⟩ := h.2.2 hp
  refine ⟨ad, e, fun j p hj => ?_⟩
  obtain ⟨cs, h1, h2, h3⟩ := hc j p hj
  refine ⟨cs, h1, h2, fun i u hu => ?_⟩
  have h4 := h3 i u hu
  have hlt := World.block_lt_of_cell? w _ h4
  have hne : (ad.add (j * Kd.string.sz + i)).block ≠ g := by
    intro e1
    have h5 : cs = [.string p] := h2
    subst h5
    cases i with
    | succ i => simp at hu
    | zero =>
      simp at hu
      subst hu
      unfold World.cell? at h4
      rw [e1] at h4
      have hB' : w.heap[g]? = some (.cells #[.slice A n c, .int .i64 a, .int .i64 l] 58 (0, 0)) := hB
      rw [hB'] at h4
      simp only at h4
      split at h4
      · cases h4
      · generalize (ad.add (j * Kd.string.sz + 0)).off = o at h4
        match o, h4 with
        | 0, h4 => simp at h4
        | 1, h4 => simp at h4
        | 2, h4 => simp at h4
        | o + 3, h4 => simp at h4
  have h6 := hF.2 _ hlt hne
  rw [← h4]
  simp [World.cell?, h6]
/-- What a key comes to. -/
def wt.keyS (bs : List Int) (u : Int → Int × Int × Int) (ks : List ByteArray) (a l : Int) : wt.R3 ByteArray :=
  if (u a).2.2 ≠ 0 then .bad 41 a else
  if (u a).1 > 32 then .bad 41 a else
  if (u a).1 > (bs.length : Int) - (u a).2.1 then .bad 41 a else
  let k := strOfNums ((bs.drop (u a).2.1.toNat).take (u a).1.toNat)
  if 0 < ks.length ∧ ¬ Op.bytesLess (rdOf ByteArray.empty ks ((ks.length : Int) - 1)).toList k.toList = true then .bad 41 a else
  if 1 + (k.size : Int) > l then .bad 42 a else .ok k ((u a).2.1 + (u a).1) (l - (1 + (k.size : Int)))
/-- Behind a reading of a plain thing. -/
def wt.Got {α : Type} (r : wt.R3 α) (enc : α → Value) (w0 w : World) (g : Nat) (A : Option Addr) (m c : Nat) (e : Ending) (w' : World) : Prop :=
  match r with
  | .ok x a' l' => e = .returned (enc x) ∧ wt.Nx w0 w w' g A m c a' l'
  | .bad f p => e = wt.flt f p ∧ wt.Nb w0 w w' g
theorem wt.str_size (bs : List Int) : (strOfNums bs).size = bs.length := by simp [strOfNums, ByteArray.size]
theorem wt.key1 {bs : List Int} {u i : Int → Int × Int × Int} (hU : wt.Uin bs u i) {w0 w : World} {g : Nat} {A : Option Addr} {c : Nat} {a l : Int} (hb : Below w0.heap.size w0 w) (hg : w0.heap.size ≤ g) (hB : wt.Blk w g A bs.length c a l) (hC : (Kd.int .u8).C w A bs.length bs) (hc : bs.length ≤ c) (KA : Option Addr) (kc : Nat) (ks : List ByteArray) (hK : Kd.string.C w KA ks.length ks) (hl0 : 0 ≤ l) (hl1 : l ≤ 2048) (hkc : ks.length ≤ kc) (hkl : ks.length ≤ 4096) :
    Calls Try.prog 55 #[.pointer (some ⟨g, 0, none⟩), .slice KA ks.length kc] w (wt.Got (wt.keyS bs u ks a l) (fun k => .string k) w0 w g A bs.length c) := by
  unfold wt.keyS
  by_cases he : (u a).2.2 ≠ 0
  · rw [if_pos he]
    have HN := Aside0.mk (wt.numberN hU hb hg hB hC hc he)
    clear hU hb hg hB hC hc he hK
    go_enter Try.func55, Try.ntmps55
    go_wp2_with (go_at_call 66; refine HN.out.mono ?_; rintro e_ w1 ⟨rfl, hx⟩; have HX := Aside0.mk hx; clear hx; unfold wt.flt)
    exact ⟨rfl, rfl, HX.out⟩
  rw [if_neg he]
  have he0 : (u a).2.2 = 0 := Classical.byContradiction he
  have HN := Aside0.mk (wt.numberY hU hb hg hB hC hc he0)
  have hr0 := hU.R a
  have hrN := hU.N a he0
  have HUL := Aside0.mk hU.L
  have HUU := Aside0.mk hU
  clear hU he he0
  obtain ⟨r1, r2, r3, hr⟩ : ∃ r1 r2 r3, u a = (r1, r2, r3) := ⟨_, _, _, rfl⟩
  rw [hr] at HN hr0 hrN ⊢
  dsimp only at HN hr0 hrN ⊢
  clear hr
  by_cases h1 : r1 > 32
  · rw [if_pos h1]
    have d1 : decide (r1 > 32) = true := decide_eq_true h1
    have d2 : decide (32 < r1) = true := decide_eq_true h1
    clear hb hg hB hC hc hK h1
    go_enter Try.func55, Try.ntmps55
    go_wp2_with (first | (go_at_call 66; refine HN.out.mono ?_; rintro e_ w1 ⟨rfl, hx⟩; have HX := Aside0.mk hx; clear hx) | (go_at_call 50; refine (wt.fails1 41 a _).mono ?_; rintro e_ w_ ⟨rfl, rfl⟩; unfold wt.flt))
    exact ⟨rfl, rfl, HX.out.fr, HX.out.bel⟩
  rw [if_neg h1]
  have d1 : decide (r1 > 32) = false := decide_eq_false h1
  have d2 : decide (32 < r1) = false := decide_eq_false (by omega)
  have hcv : IntKind.i64.wrap r1 = r1 := by rw [IntKind.wrap_i64]; omega
  have HB := Aside0.mk hB
  have HC := Aside0.mk hC
  have HCC := Aside0.mk hc
  have HGG := Aside0.mk hg
  have HBB := Aside0.mk hb
  have HK := Aside0.mk hK
  have HKL := Aside0.mk hkl
  have HL1 := Aside0.mk hl1
  have HR0 := Aside0.mk hr0.1
  have HR2 := Aside0.mk (show 0 ≤ r2 ∧ r2 ≤ bs.length by omega)
  clear hb hg hB hC hc hK hrN hl1
  by_cases h2 : r1 > (bs.length : Int) - r2
  · rw [if_pos h2]
    have HCUT := Aside0.mk (show (bs.length : Int) - r2 < r1 from h2)
    clear h2 hr0
    go_enter Try.func55, Try.ntmps55
    go_wp2_with (first | (go_at_call 66; refine HN.out.mono ?_; rintro e_ w1 ⟨rfl, hx⟩; have HX := Aside0.mk hx; clear hx) | (go_at_call 54; refine (wt.cutN HUU.out HX.out.bel HGG.out HX.out.blk (wt.bytes_fr HC.out HB.out HX.out.fr) HCC.out r1 a HR2.out.1 HR2.out.2 HUL.out HCUT.out).mono ?_; rintro e_ w2 ⟨rfl, hx⟩; have HX2 := Aside0.mk hx; clear hx; unfold wt.flt))
    exact ⟨rfl, rfl, HX.out.fr.trans HX2.out.fr, HX2.out.bel⟩
  rw [if_neg h2]
  have HCUT := Aside0.mk (show r1 ≤ (bs.length : Int) - r2 by omega)
  obtain ⟨k, hk⟩ : ∃ k, strOfNums ((bs.drop r2.toNat).take r1.toNat) = k := ⟨_, rfl⟩
  have hks : k.size ≤ 32 := by rw [← hk, wt.str_size, List.length_take]; omega
  have HST := Aside0.mk hk
  rw [hk]
  clear h2 hk hr0
  have hs0 : wrap64 (1 + (k.size : Int)) = 1 + (k.size : Int) := by unfold wrap64; omega
  by_cases hn : 0 < ks.length
  · obtain ⟨q, hq⟩ : ∃ q, ks.length = q + 1 := ⟨ks.length - 1, by omega⟩
    have HQ := Aside0.mk hq
    have n0 : (ks.length : Int) - 1 = (q : Int) := by omega
    rw [n0]
    obtain ⟨last, hlast⟩ : ∃ s, rdOf ByteArray.empty ks (q : Int) = s := ⟨_, rfl⟩
    rw [hlast]
    have HLAST := Aside0.mk hlast
    have hq2 : q ≤ 4096 := by omega
    clear hlast n0
    by_cases hlt : Op.bytesLess last.toList k.toList = true
    · rw [if_neg (fun h => h.2 hlt)]
      rw [hq]
      clear hq hn hkc hkl
      by_cases hw : 1 + (k.size : Int) > l
      · rw [if_pos hw]
        have HW := Aside0.mk (show l < 1 + (k.size : Int) from hw)
        clear hw
        go_enter Try.func55, Try.ntmps55
        go_wp2_with (first | (go_at_call 66; refine HN.out.mono ?_; rintro e_ w1 ⟨rfl, hx⟩; have HX := Aside0.mk hx; clear hx) | (go_at_call 54; refine (wt.cutY HUU.out HX.out.bel HGG.out HX.out.blk (wt.bytes_fr HC.out HB.out HX.out.fr) HCC.out r1 a HR2.out.1 HR2.out.2 HUL.out HR0.out HCUT.out).mono ?_; rw [HST.out]; rintro e_ w2 ⟨rfl, hx⟩; have HX2 := Aside0.mk hx; clear hx; obtain ⟨adK, eK, hx_⟩ := Kd.at_string (wt.texts_fr (wt.texts_fr HK.out HB.out HX.out.fr) HX.out.blk HX2.out.fr) (q : Int) (by omega) (by have := HQ.out; omega); cases eK; rw [Int.toNat_natCast, HLAST.out] at hx_; have hx := hx_; clear hx_) | (go_at_call 51; refine (wt.weighsN HX2.out.blk (1 + (k.size : Int)) a HW.out).mono ?_; rintro e_ w3 ⟨rfl, hx⟩; have HX3 := Aside0.mk hx; clear hx; unfold wt.flt))
        exact ⟨rfl, rfl, HX3.out ▸ HX.out.fr.trans HX2.out.fr, HX3.out ▸ HX2.out.bel⟩
      · rw [if_neg hw]
        have HW := Aside0.mk (show 1 + (k.size : Int) ≤ l by omega)
        clear hw
        go_enter Try.func55, Try.ntmps55
        go_wp2_with (first | (go_at_call 66; refine HN.out.mono ?_; rintro e_ w1 ⟨rfl, hx⟩; have HX := Aside0.mk hx; clear hx) | (go_at_call 54; refine (wt.cutY HUU.out HX.out.bel HGG.out HX.out.blk (wt.bytes_fr HC.out HB.out HX.out.fr) HCC.out r1 a HR2.out.1 HR2.out.2 HUL.out HR0.out HCUT.out).mono ?_; rw [HST.out]; rintro e_ w2 ⟨rfl, hx⟩; have HX2 := Aside0.mk hx; clear hx; obtain ⟨adK, eK, hx_⟩ := Kd.at_string (wt.texts_fr (wt.texts_fr HK.out HB.out HX.out.fr) HX.out.blk HX2.out.fr) (q : Int) (by omega) (by have := HQ.out; omega); cases eK; rw [Int.toNat_natCast, HLAST.out] at hx_; have hx := hx_; clear hx_) | (go_at_call 51; refine (wt.weighsY HX2.out.blk (1 + (k.size : Int)) a HW.out HL1.out (by omega)).mono ?_; rintro e_ w3 ⟨rfl, hx⟩; have HX3 := Aside0.mk hx; clear hx))
        go_ret
        exact ⟨rfl, HX3.out ▸ HX2.out.blk.set2 _, HX3.out ▸ (HX.out.fr.trans (HX2.out.fr.trans (wt.Fr.set _ _ _ _))), HX3.out ▸ HX2.out.bel.setCell HGG.out _⟩
    · rw [if_pos ⟨hn, hlt⟩]
      have hlf : Op.bytesLess last.toList k.toList = false := by simpa using hlt
      rw [hq]
      clear hlt hn hq hkc hkl
      go_enter Try.func55, Try.ntmps55
      go_wp2_with (first | (go_at_call 66; refine HN.out.mono ?_; rintro e_ w1 ⟨rfl, hx⟩; have HX := Aside0.mk hx; clear hx) | (go_at_call 54; refine (wt.cutY HUU.out HX.out.bel HGG.out HX.out.blk (wt.bytes_fr HC.out HB.out HX.out.fr) HCC.out r1 a HR2.out.1 HR2.out.2 HUL.out HR0.out HCUT.out).mono ?_; rw [HST.out]; rintro e_ w2 ⟨rfl, hx⟩; have HX2 := Aside0.mk hx; clear hx; obtain ⟨adK, eK, hx_⟩ := Kd.at_string (wt.texts_fr (wt.texts_fr HK.out HB.out HX.out.fr) HX.out.blk HX2.out.fr) (q : Int) (by omega) (by have := HQ.out; omega); cases eK; rw [Int.toNat_natCast, HLAST.out] at hx_; have hx := hx_; clear hx_) | (go_at_call 50; refine (wt.fails1 41 a _).mono ?_; rintro e_ w_ ⟨rfl, rfl⟩; unfold wt.flt))
      exact ⟨rfl, rfl, HX.out.fr.trans HX2.out.fr, HX2.out.bel⟩
  · rw [if_neg (fun h => hn h.1)]
    have h0 : ks.length = 0 := by omega
    rw [h0]
    clear hn h0 hkc hkl
    by_cases hw : 1 + (k.size : Int) > l
    · rw [if_pos hw]
      have HW := Aside0.mk (show l < 1 + (k.size : Int) from hw)
      clear hw
      go_enter Try.func55, Try.ntmps55
      go_wp2_with (first | (go_at_call 66; refine HN.out.mono ?_; rintro e_ w1 ⟨rfl, hx⟩; have HX := Aside0.mk hx; clear hx) | (go_at_call 54; refine (wt.cutY HUU.out HX.out.bel HGG.out HX.out.blk (wt.bytes_fr HC.out HB.out HX.out.fr) HCC.out r1 a HR2.out.1 HR2.out.2 HUL.out HR0.out HCUT.out).mono ?_; rw [HST.out]; rintro e_ w2 ⟨rfl, hx⟩; have HX2 := Aside0.mk hx; clear hx; skip) | (go_at_call 51; refine (wt.weighsN HX2.out.blk (1 + (k.size : Int)) a HW.out).mono ?_; rintro e_ w3 ⟨rfl, hx⟩; have HX3 := Aside0.mk hx; clear hx; unfold wt.flt))
      exact ⟨rfl, rfl, HX3.out ▸ HX.out.fr.trans HX2.out.fr, HX3.out ▸ HX2.out.bel⟩
    · rw [if_neg hw]
      have HW := Aside0.mk (show 1 + (k.size : Int) ≤ l by omega)
      clear hw
      go_enter Try.func55, Try.ntmps55
      go_wp2_with (first | (go_at_call 66; refine HN.out.mono ?_; rintro e_ w1 ⟨rfl, hx⟩; have HX := Aside0.mk hx; clear hx) | (go_at_call 54; refine (wt.cutY HUU.out HX.out.bel HGG.out HX.out.blk (wt.bytes_fr HC.out HB.out HX.out.fr) HCC.out r1 a HR2.out.1 HR2.out.2 HUL.out HR0.out HCUT.out).mono ?_; rw [HST.out]; rintro e_ w2 ⟨rfl, hx⟩; have HX2 := Aside0.mk hx; clear hx; skip) | (go_at_call 51; refine (wt.weighsY HX2.out.blk (1 + (k.size : Int)) a HW.out HL1.out (by omega)).mono ?_; rintro e_ w3 ⟨rfl, hx⟩; have HX3 := Aside0.mk hx; clear hx))
      go_ret
      exact ⟨rfl, HX3.out ▸ HX2.out.blk.set2 _, HX3.out ▸ (HX.out.fr.trans (HX2.out.fr.trans (wt.Fr.set _ _ _ _))), HX3.out ▸ HX2.out.bel.setCell HGG.out _⟩
/-- What a count comes to. -/
def wt.countS (u : Int → Int × Int × Int) (tag each a l : Int) : wt.R3 Int :=
  if (u a).2.2 ≠ 0 then .bad 41 a else if l / each < (u a).1 then .bad 42 tag else .ok (u a).1 (u a).2.1 l
/-- Values, one behind the other. -/
def wt.arrL (f : Int → Int → wt.R3 S25) : Nat → List S25 → Int → Int → wt.R3 (List S25)
  | 0, acc, a, l => .ok acc a l
  | n + 1, acc, a, l => match f a l with
    | .bad e p => .bad e p
    | .ok x a1 l1 => wt.arrL f n (acc ++ [x]) a1 l1
/-- Keys and values, by turns. -/
def wt.recL (bs : List Int) (u : Int → Int × Int × Int) (f : Int → Int → wt.R3 S25) : Nat → List ByteArray → List S25 → Int → Int → wt.R3 (List ByteArray × List S25)
  | 0, ks, acc, a, l => .ok (ks, acc) a l
  | n + 1, ks, acc, a, l => match wt.keyS bs u ks a l with
    | .bad e p => .bad e p
    | .ok k a1 l1 => match f a1 l1 with
      | .bad e p => .bad e p
      | .ok x a2 l2 => wt.recL bs u f n (ks ++ [k]) (acc ++ [x]) a2 l2
/-- What a value comes to, so many values deep. -/
def wt.valS (bs : List Int) (u i : Int → Int × Int × Int) : Nat → Int → Int → wt.R3 S25
  | d, a, l =>
    if a = (bs.length : Int) ∨ rd bs a > 6 then .bad 41 a
    else match d with
      | 0 => .bad 42 a
      | d + 1 => if 1 > l then .bad 42 a
        else if rd bs a = 1 then .ok ⟨1, 0, ⟨#[]⟩, [], []⟩ (a + 1) (l - 1)
        else if rd bs a = 2 then .ok ⟨1, 1, ⟨#[]⟩, [], []⟩ (a + 1) (l - 1)
        else if rd bs a = 3 then (if (i (a + 1)).2.2 ≠ 0 then .bad 41 (a + 1) else .ok ⟨2, (i (a + 1)).1, ⟨#[]⟩, [], []⟩ (i (a + 1)).2.1 (l - 1))
        else if rd bs a = 4 then (match wt.countS u a 1 (a + 1) (l - 1) with
          | .bad e p => .bad e p
          | .ok n a1 l1 => if (bs.length : Int) - a1 < n then .bad 41 (a + 1) else .ok ⟨3, 0, strOfNums ((bs.drop a1.toNat).take n.toNat), [], []⟩ (a1 + n) (l1 - n))
        else if rd bs a = 5 then (match wt.countS u a 1 (a + 1) (l - 1) with
          | .bad e p => .bad e p
          | .ok n a1 l1 => match wt.arrL (wt.valS bs u i d) n.toNat [] a1 l1 with
            | .bad e p => .bad e p
            | .ok vs a2 l2 => .ok ⟨4, 0, ⟨#[]⟩, vs, []⟩ a2 l2)
        else if rd bs a = 6 then (match wt.countS u a 2 (a + 1) (l - 1) with
          | .bad e p => .bad e p
          | .ok n a1 l1 => match wt.recL bs u (wt.valS bs u i d) n.toNat [] [] a1 l1 with
            | .bad e p => .bad e p
            | .ok (ks, vs) a2 l2 => .ok ⟨5, 0, ⟨#[]⟩, vs, ks⟩ a2 l2)
        else .ok ⟨0, 0, ⟨#[]⟩, [], []⟩ (a + 1) (l - 1)
/-- Behind a reading of a value. -/
def wt.GotV (r : wt.R3 S25) (w0 w : World) (g : Nat) (A : Option Addr) (m c : Nat) (e : Ending) (w' : World) : Prop :=
  match r with
  | .ok x a' l' => (∃ v3 v4 : Value, e = .returned (.agg #[.int .i64 x.f0, .int .i64 x.f1, .string x.f2, v3, v4]) ∧ k25.R 25 w' w0.heap.size (fun k => w.heap.size ≤ k) v3 x.f3 ∧ Kd.string.R 9 w' w0.heap.size (fun k => w.heap.size ≤ k) v4 x.f4) ∧ wt.Nx w0 w w' g A m c a' l'
  | .bad f p => e = wt.flt f p ∧ wt.Nb w0 w w' g

section
variable {ops : Array Oper} {rest : List Oper} {o : Oper} {a : Act} {Q : Exit → Act → World → Prop}
/-- A whole value is laid into a block of its own. -/
theorem wt.store_res {W : World} (hgd : o.guard = none) (hN : o.dst = none) (p : Tmp) (x : Operand) (ho : o.op = .store 25 (.tmp p) x) (rb : Nat) (haddr : a.eval (.tmp p) = .pointer (some ⟨rb, 0, none⟩)) (v0 v1 v2 v3 v4 : Value) (hx : a.eval x = .agg #[v0, v1, v2, v3, v4]) (h1 : ∀ q ∈ [v0, v1, v2, v3, v4], q.oneCell' = true) (cur : Array Value) (hsz : cur.size = 5) (hh : W.heap[rb]? = some (.cells cur 25 (0, 0)))
    (h : ∀ W1, W1.heap[rb]? = some (.cells #[v0, v1, v2, v3, v4] 25 (0, 0)) → W.grownBy W1 (some rb) → wpList Try.prog ops Q rest a W1) : wpList Try.prog ops Q (o :: rest) a W := by
  have hu : (Value.agg #[v0, v1, v2, v3, v4]).cells.toList = [v0, v1, v2, v3, v4] := by simp [Value.cells]
  have hrun : (Instr.storeAt 25 (.pointer (some ⟨rb, 0, none⟩)) (.agg #[v0, v1, v2, v3, v4])).run Try.prog W = .ok () (W.setCells rb 0 [v0, v1, v2, v3, v4]) :=
    run_store_run 25 _ [v0, v1, v2, v3, v4] hh hu (by kernel_rfl) (by rw [hsz]; simp) h1
  obtain ⟨cur', c1, c2, c3⟩ := setCells_row [v0, v1, v2, v3, v4] 0 W cur hh (by rw [hsz]; simp)
  have hc : cur' = #[v0, v1, v2, v3, v4] := by
    apply Array.toList_inj.1
    rw [c3]
    have : cur.toList.drop 5 = [] := List.drop_eq_nil_of_le (by rw [Array.length_toList]; omega)
    simp [this]
  subst hc
  obtain ⟨s1, s2, s3, s4⟩ := setCells_same rb [v0, v1, v2, v3, v4] 0 W
  refine wpList_plain hgd fun K hK => ?_
  unfold Oper.wp execOp
  simp only [ho, haddr, hx, Sem.run_bind, Sem.run_pure, Result.andThen_ok, hrun]
  show K (a.put o.dst undef) _
  rw [hN]
  exact hK a _ (h _ c1 ⟨s1, s2, s3, by omega, fun k hk hne => setCells_far _ _ k (fun e => hne (by rw [e]))⟩)
end
/-- Cells that a step reads: the reader's, a byte's. -/
structure wt.Ly (W : World) (g : Nat) (A : Option Addr) (m c : Nat) (a l : Int) (p : Addr) (b : Int) (rb : Nat) (cs : Array Value) : Prop where
  blk : wt.Blk W g A m c a l
  byt : W.cell? p = some (.int .u8 b)
  res : W.heap[rb]? = some (.cells cs 25 (0, 0))
theorem wt.Ly.below {W W1 : World} {g : Nat} {A : Option Addr} {m c : Nat} {a l : Int} {p : Addr} {b : Int} {rb : Nat} {cs : Array Value} (h : wt.Ly W g A m c a l p b rb cs) (hb : Below W.heap.size W W1) : wt.Ly W1 g A m c a l p b rb cs :=
  ⟨h.blk.below hb, (hb.cell (World.block_lt_of_cell? W _ h.byt)).trans h.byt, blk_below h.res hb⟩
theorem wt.Ly.ne {W : World} {g : Nat} {A : Option Addr} {m c : Nat} {a l : Int} {p : Addr} {b : Int} {rb : Nat} {cs : Array Value} (h : wt.Ly W g A m c a l p b rb cs) : p.block ≠ g ∧ rb ≠ g := by
  constructor
  · intro e1
    have h4 := h.byt
    unfold World.cell? at h4
    rw [e1] at h4
    have hB' : W.heap[g]? = some (.cells #[.slice A m c, .int .i64 a, .int .i64 l] 58 (0, 0)) := h.blk
    rw [hB'] at h4
    simp only at h4
    split at h4
    · cases h4
    · generalize p.off = o at h4
      match o, h4 with
      | 0, h4 => simp at h4
      | 1, h4 => simp at h4
      | 2, h4 => simp at h4
      | o + 3, h4 => simp at h4
  · rintro rfl
    have hB' : W.heap[rb]? = some (.cells #[.slice A m c, .int .i64 a, .int .i64 l] 58 (0, 0)) := h.blk
    have := h.res
    rw [hB'] at this
    injection this with this
    injection this with _ this
    exact absurd this (by decide)
theorem wt.Ly.fr {W W1 : World} {g : Nat} {A : Option Addr} {m c : Nat} {a l a' l' : Int} {p : Addr} {b : Int} {rb : Nat} {cs : Array Value} (h : wt.Ly W g A m c a l p b rb cs) (hF : wt.Fr g W W1) (hB : wt.Blk W1 g A m c a' l') : wt.Ly W1 g A m c a' l' p b rb cs := by
  have hlt := World.block_lt_of_cell? W _ h.byt
  have h6 := hF.2 _ hlt h.ne.1
  exact ⟨hB, by rw [← h.byt]; simp [World.cell?, h6], (hF.2 _ (blk_lt h.res) h.ne.2).trans h.res⟩
/-- Behind the last store of a reading. -/
theorem wt.fin_nx {w0 w W W5 : World} {g : Nat} {A : Option Addr} {m c : Nat} {a l : Int} {rb : Nat} (hF : wt.Fr g w W) (hB : wt.Blk W g A m c a l) (hne : rb ≠ g) (hG : W.grownBy W5 (some rb)) (hrb : w.heap.size ≤ rb) (hsz : w0.heap.size ≤ w.heap.size) (hb : Below w0.heap.size w0 W) : wt.Nx w0 w W5 g A m c a l :=
  ⟨(hG.block g (blk_lt hB) (fun e => hne (Option.some.inj e).symm)).trans hB,
   ⟨Nat.le_trans hF.1 hG.size, fun k hk hne2 => (hG.block k (Nat.lt_of_lt_of_le hk hF.1) (fun e => absurd (Option.some.inj e) (by omega))).trans (hF.2 k hk hne2)⟩,
   ⟨hG.os.trans hb.os, hG.tape.trans hb.tape, hG.output.trans hb.output, Nat.le_trans hb.size hG.size, fun k hk => (hG.block k (by have := hb.size; omega) (fun e => absurd (Option.some.inj e) (by omega))).trans (hb.block k hk)⟩⟩
def wt.arrV : wt.R3 (List S25) → wt.R3 S25
  | .bad e p => .bad e p
  | .ok vs a l => .ok ⟨4, 0, ⟨#[]⟩, vs, []⟩ a l
def wt.recV : wt.R3 (List ByteArray × List S25) → wt.R3 S25
  | .bad e p => .bad e p
  | .ok (ks, vs) a l => .ok ⟨5, 0, ⟨#[]⟩, vs, ks⟩ a l
section
variable {P : Program} {ops : Array Oper} {Q : Exit → Act → World → Prop}
/-- A call in a region that draws, which may throw. -/
theorem wt.goesT {oi : Oper} {N : Option Tmp} {a : Act} {w : World} {K : Act → World → Prop} {f : FuncId} {fn : Func} {ao : Array Operand} {ts : Array TypeId} (hf : P.funcs[f]? = some fn) (hname : (fn.name == "runtime.NumGoroutine") = false) (hb : fn.body.isSome = true) (args : Array Value)
    (hw : Region.wanted oi (yielded ops a.tmps) = true) (hN : oi.dst = N) (hop : oi.op = .call { callee := .value (.func f), args := ao, argTypes := ts }) (hargs : ao.map a.eval = args)
    (h : Calls P f args w fun e w' => (∃ v, e = .returned v ∧ K (a.put N v) w') ∨ (∃ ps, e = .panicked ps ∧ Q (.panic ps) a w')) : if Region.wanted oi (yielded ops a.tmps) = true then Oper.wp P oi a w K Q else K (a.put N undef) w := by
  have hrun : (execOp a.eval oi).run P w = .ok (.enter f args) w := by
    have he := enters_ hf hname hb args w
    unfold execOp
    simp [hop, resolve, Deferred.ofValue, invoke, Act.eval, hargs, he]
  rw [if_pos hw]
  subst hN
  unfold Oper.wp
  rw [hrun, Oper.upon_enter]
  refine h.mono fun e w'' hh => ?_
  rcases hh with ⟨v, rfl, hk⟩ | ⟨ps, rfl, hk⟩
  · exact hk
  · exact hk
end
end
end Go.Proofs.Ytnkbobblnhaclaa.X

/- Xxwtake1: walks by hand, for the claim. -/
namespace Go.Proofs.Ytnkbobblnhaclaa.X
open Go.RowKit Go.Proofs.YtnkbobblnhaclaaW.PrintWords Go.Proofs.YtnkbobblnhaclaaW.PrintLast Go.Proofs.YtnkbobblnhaclaaW.PrintMore Go.Proofs.YtnkbobblnhaclaaW
section
set_option maxHeartbeats 4000000
set_option maxRecDepth 100000
theorem wt.val_t1 {bs : List Int} {u i : Int → Int × Int × Int} (hU : wt.Uin bs u i) {w0 w : World} {g : Nat} {A : Option Addr} {c : Nat} {a l : Int} (hb : Below w0.heap.size w0 w) (hg : w0.heap.size ≤ g) (hB : wt.Blk w g A bs.length c a l) (hC : (Kd.int .u8).C w A bs.length bs) (hc : bs.length ≤ c) (within : Int) (hw : (within == 8) = false) (ha0 : 0 ≤ a) (ha1 : a < (bs.length : Int)) (hl0 : 1 ≤ l) (hl1 : l ≤ 2048) (ht : rd bs a = 1) :
    Calls Try.prog 38 #[.pointer (some ⟨g, 0, none⟩), .int .i64 within] w (wt.GotV (.ok ⟨1, 0, ⟨#[]⟩, [], []⟩ (a + 1) (l - 1)) w0 w g A bs.length c) := by
  have HB := Aside0.mk hB
  have HC := Aside0.mk hC
  have HCC := Aside0.mk hc
  have HBB := Aside0.mk hb
  have HGG := Aside0.mk hg
  have HLL := Aside0.mk hU.L
  have HUU := Aside0.mk hU
  have hgl : g < w.heap.size := blk_lt hB
  have hu25 := Try.underlying25
  obtain ⟨a, rfl⟩ := Int.eq_ofNat_of_zero_le ha0
  have t0 : ((a : Int) == (bs.length : Int)) = false := beq_eq_false_iff_ne.2 (by omega)
  have t1 : (a = bs.length) = False := eq_false (by omega)
  have t2 : decide (a = bs.length) = false := decide_eq_false (by omega)
  have t3 : (a : Int) < (bs.length : Int) := ha1
  have t4 : a < bs.length := by omega
  have t5 : decide (a < bs.length) = true := decide_eq_true t4
  have hwr := Aside0.mk (show wrap64 ((a : Int) + 1) = (a : Int) + 1 by have := hU.L; unfold wrap64; omega)
  have HL0 := Aside0.mk hl0
  have HL1 := Aside0.mk hl1
  obtain ⟨ad, hA, hx0⟩ := Kd.at_int hC (a : Int) (by omega) ha1
  subst hA
  rw [Int.toNat_natCast, ht] at hx0
  have HBW := Aside0.mk ((Below.refl w.heap.size w).alloc (Nat.le_refl _) (.cells #[.int .i64 0, .int .i64 0, .string ⟨#[]⟩, .slice none 0 0, .slice none 0 0] 25))
  have L1 := Aside0.mk (show wt.Ly (w.alloc (.cells #[.int .i64 0, .int .i64 0, .string ⟨#[]⟩, .slice none 0 0, .slice none 0 0] 25)) g (some ad) bs.length c (a : Int) l (ad.add a) 1 w.heap.size #[.int .i64 0, .int .i64 0, .string ⟨#[]⟩, .slice none 0 0, .slice none 0 0] from ⟨HB.out.below HBW.out, (HBW.out.cell (World.block_lt_of_cell? w _ hx0)).trans hx0, by simpa using heap_alloc_new w _⟩)
  clear hx0
  have h0 := L1.out.blk.c0; have h1 := L1.out.blk.c1; have h2 := L1.out.blk.c2; have f1 := L1.out.blk.fz 1; have f2 := L1.out.blk.fz 2; have hx0 := L1.out.byt; have fr_ := blk_frozen L1.out.res 0
  have HF4 : ∀ W4, W4 = ((w.alloc (.cells #[.int .i64 0, .int .i64 0, .string ⟨#[]⟩, .slice none 0 0, .slice none 0 0] 25)).setCell ⟨g, 2, none⟩ (.int .i64 (l - 1))).setCell ⟨g, 1, none⟩ (.int .i64 ((a : Int) + 1)) → wt.Fr g w W4 ∧ Below w0.heap.size w0 W4 := by
    rintro _ rfl
    exact ⟨((wt.Fr.of_below HBW.out).trans (wt.Fr.set _ _ _ _)).trans (wt.Fr.set _ _ _ _), ((HBB.out.alloc HBB.out.size _).setCell hg _).setCell hg _⟩
  have HF4 := Aside0.mk HF4
  clear hU hb hg hB hC hc ha1 hl0 hl1 ha0 hgl
  generalize bs.length = m at *
  go_enter Try.func38, Try.ntmps38
  go_wp2_with (first | (go_at_call 51; refine (wt.weighsY L1.out.blk 1 (a : Int) HL0.out HL1.out (by omega)).mono ?_; rintro e_ w3 ⟨rfl, hx⟩; have L3 := Aside0.mk (L1.out.fr (hx ▸ wt.Fr.set _ _ _ _) (hx ▸ L1.out.blk.set2 _)); have HX3 := Aside0.mk hx; clear hx; clear h0 h1 h2 f1 f2 hx0 fr_; have h0 := L3.out.blk.c0; have h1 := L3.out.blk.c1; have h2 := L3.out.blk.c2; have f1 := L3.out.blk.fz 1; have f2 := L3.out.blk.fz 2; have hx0 := L3.out.byt; have fr_ := blk_frozen L3.out.res 0) | ((with_reducible refine gate_store (p := 48) rfl ?_); go_must (refine store_event ?hg (t := 3) (p := 48) (v := .tmp 46) (w1 := w3.setCell ⟨g, 1, none⟩ (.int .i64 (wrap64 ((a : Int) + 1)))) ?ho ?hN ?hr ?_); (case ho => rfl); (case hN => rfl); (case hg => rfl); (case hr => first | (go_simp; done) | (go_simp; rfl)); intro w4 e4; rw [hwr.out] at e4; have L4 := Aside0.mk (L3.out.fr (e4 ▸ wt.Fr.set _ _ _ _) (e4 ▸ L3.out.blk.set1 _)); have HX4 := Aside0.mk e4; clear e4; have HFW := Aside0.mk (HF4.out _ (HX4.out.trans (by rw [HX3.out]))); clear h0 h1 h2 f1 f2 hx0 fr_; have h0 := L4.out.blk.c0; have h1 := L4.out.blk.c1; have h2 := L4.out.blk.c2; have f1 := L4.out.blk.fz 1; have f2 := L4.out.blk.fz 2; have hx0 := L4.out.byt; have fr_ := blk_frozen L4.out.res 0) | ((with_reducible refine gate_store (p := 4) rfl ?_); refine wt.store_res rfl rfl 4 _ rfl w.heap.size rfl (.int .i64 1) (.int .i64 0) (.string ⟨#[]⟩) (.slice none 0 0) (.slice none 0 0) rfl (fun q hq => by simp at hq; rcases hq with rfl | rfl | rfl | rfl | rfl <;> rfl) _ rfl L4.out.res ?_; intro w5 hres hgr; have HRES := Aside0.mk hres; have HGR := Aside0.mk hgr; clear hgr hres))
  go_wp2
  refine bodyPost_ret (results_cell_row rfl _ _ w.heap.size 25 _ (0, 0) _ rfl HRES.out Try.underlying25 rfl (by kernel_rfl)) rfl ?_
  exact ⟨⟨_, _, rfl, Kd.R_nil _ _ _ _ _, Kd.R_nil _ _ _ _ _⟩, wt.fin_nx HFW.out.1 L4.out.blk L4.out.ne.2 HGR.out (Nat.le_refl _) HBB.out.size HFW.out.2⟩
theorem wt.val_t2 {bs : List Int} {u i : Int → Int × Int × Int} (hU : wt.Uin bs u i) {w0 w : World} {g : Nat} {A : Option Addr} {c : Nat} {a l : Int} (hb : Below w0.heap.size w0 w) (hg : w0.heap.size ≤ g) (hB : wt.Blk w g A bs.length c a l) (hC : (Kd.int .u8).C w A bs.length bs) (hc : bs.length ≤ c) (within : Int) (hw : (within == 8) = false) (ha0 : 0 ≤ a) (ha1 : a < (bs.length : Int)) (hl0 : 1 ≤ l) (hl1 : l ≤ 2048) (ht : rd bs a = 2) :
    Calls Try.prog 38 #[.pointer (some ⟨g, 0, none⟩), .int .i64 within] w (wt.GotV (.ok ⟨1, 1, ⟨#[]⟩, [], []⟩ (a + 1) (l - 1)) w0 w g A bs.length c) := by
  have HB := Aside0.mk hB
  have HC := Aside0.mk hC
  have HCC := Aside0.mk hc
  have HBB := Aside0.mk hb
  have HGG := Aside0.mk hg
  have HLL := Aside0.mk hU.L
  have HUU := Aside0.mk hU
  have hgl : g < w.heap.size := blk_lt hB
  have hu25 := Try.underlying25
  obtain ⟨a, rfl⟩ := Int.eq_ofNat_of_zero_le ha0
  have t0 : ((a : Int) == (bs.length : Int)) = false := beq_eq_false_iff_ne.2 (by omega)
  have t1 : (a = bs.length) = False := eq_false (by omega)
  have t2 : decide (a = bs.length) = false := decide_eq_false (by omega)
  have t3 : (a : Int) < (bs.length : Int) := ha1
  have t4 : a < bs.length := by omega
  have t5 : decide (a < bs.length) = true := decide_eq_true t4
  have hwr := Aside0.mk (show wrap64 ((a : Int) + 1) = (a : Int) + 1 by have := hU.L; unfold wrap64; omega)
  have HL0 := Aside0.mk hl0
  have HL1 := Aside0.mk hl1
  obtain ⟨ad, hA, hx0⟩ := Kd.at_int hC (a : Int) (by omega) ha1
  subst hA
  rw [Int.toNat_natCast, ht] at hx0
  have HBW := Aside0.mk ((Below.refl w.heap.size w).alloc (Nat.le_refl _) (.cells #[.int .i64 0, .int .i64 0, .string ⟨#[]⟩, .slice none 0 0, .slice none 0 0] 25))
  have L1 := Aside0.mk (show wt.Ly (w.alloc (.cells #[.int .i64 0, .int .i64 0, .string ⟨#[]⟩, .slice none 0 0, .slice none 0 0] 25)) g (some ad) bs.length c (a : Int) l (ad.add a) 2 w.heap.size #[.int .i64 0, .int .i64 0, .string ⟨#[]⟩, .slice none 0 0, .slice none 0 0] from ⟨HB.out.below HBW.out, (HBW.out.cell (World.block_lt_of_cell? w _ hx0)).trans hx0, by simpa using heap_alloc_new w _⟩)
  clear hx0
  have h0 := L1.out.blk.c0; have h1 := L1.out.blk.c1; have h2 := L1.out.blk.c2; have f1 := L1.out.blk.fz 1; have f2 := L1.out.blk.fz 2; have hx0 := L1.out.byt; have fr_ := blk_frozen L1.out.res 0
  have HF4 : ∀ W4, W4 = ((w.alloc (.cells #[.int .i64 0, .int .i64 0, .string ⟨#[]⟩, .slice none 0 0, .slice none 0 0] 25)).setCell ⟨g, 2, none⟩ (.int .i64 (l - 1))).setCell ⟨g, 1, none⟩ (.int .i64 ((a : Int) + 1)) → wt.Fr g w W4 ∧ Below w0.heap.size w0 W4 := by
    rintro _ rfl
    exact ⟨((wt.Fr.of_below HBW.out).trans (wt.Fr.set _ _ _ _)).trans (wt.Fr.set _ _ _ _), ((HBB.out.alloc HBB.out.size _).setCell hg _).setCell hg _⟩
  have HF4 := Aside0.mk HF4
  clear hU hb hg hB hC hc ha1 hl0 hl1 ha0 hgl
  generalize bs.length = m at *
  go_enter Try.func38, Try.ntmps38
  go_wp2_with (first | (go_at_call 51; refine (wt.weighsY L1.out.blk 1 (a : Int) HL0.out HL1.out (by omega)).mono ?_; rintro e_ w3 ⟨rfl, hx⟩; have L3 := Aside0.mk (L1.out.fr (hx ▸ wt.Fr.set _ _ _ _) (hx ▸ L1.out.blk.set2 _)); have HX3 := Aside0.mk hx; clear hx; clear h0 h1 h2 f1 f2 hx0 fr_; have h0 := L3.out.blk.c0; have h1 := L3.out.blk.c1; have h2 := L3.out.blk.c2; have f1 := L3.out.blk.fz 1; have f2 := L3.out.blk.fz 2; have hx0 := L3.out.byt; have fr_ := blk_frozen L3.out.res 0) | ((with_reducible refine gate_store (p := 48) rfl ?_); go_must (refine store_event ?hg (t := 3) (p := 48) (v := .tmp 46) (w1 := w3.setCell ⟨g, 1, none⟩ (.int .i64 (wrap64 ((a : Int) + 1)))) ?ho ?hN ?hr ?_); (case ho => rfl); (case hN => rfl); (case hg => rfl); (case hr => first | (go_simp; done) | (go_simp; rfl)); intro w4 e4; rw [hwr.out] at e4; have L4 := Aside0.mk (L3.out.fr (e4 ▸ wt.Fr.set _ _ _ _) (e4 ▸ L3.out.blk.set1 _)); have HX4 := Aside0.mk e4; clear e4; have HFW := Aside0.mk (HF4.out _ (HX4.out.trans (by rw [HX3.out]))); clear h0 h1 h2 f1 f2 hx0 fr_; have h0 := L4.out.blk.c0; have h1 := L4.out.blk.c1; have h2 := L4.out.blk.c2; have f1 := L4.out.blk.fz 1; have f2 := L4.out.blk.fz 2; have hx0 := L4.out.byt; have fr_ := blk_frozen L4.out.res 0) | ((with_reducible refine gate_store (p := 4) rfl ?_); refine wt.store_res rfl rfl 4 _ rfl w.heap.size rfl (.int .i64 1) (.int .i64 1) (.string ⟨#[]⟩) (.slice none 0 0) (.slice none 0 0) rfl (fun q hq => by simp at hq; rcases hq with rfl | rfl | rfl | rfl | rfl <;> rfl) _ rfl L4.out.res ?_; intro w5 hres hgr; have HRES := Aside0.mk hres; have HGR := Aside0.mk hgr; clear hgr hres))
  go_wp2
  refine bodyPost_ret (results_cell_row rfl _ _ w.heap.size 25 _ (0, 0) _ rfl HRES.out Try.underlying25 rfl (by kernel_rfl)) rfl ?_
  exact ⟨⟨_, _, rfl, Kd.R_nil _ _ _ _ _, Kd.R_nil _ _ _ _ _⟩, wt.fin_nx HFW.out.1 L4.out.blk L4.out.ne.2 HGR.out (Nat.le_refl _) HBB.out.size HFW.out.2⟩
theorem wt.val_t0 {bs : List Int} {u i : Int → Int × Int × Int} (hU : wt.Uin bs u i) {w0 w : World} {g : Nat} {A : Option Addr} {c : Nat} {a l : Int} (hb : Below w0.heap.size w0 w) (hg : w0.heap.size ≤ g) (hB : wt.Blk w g A bs.length c a l) (hC : (Kd.int .u8).C w A bs.length bs) (hc : bs.length ≤ c) (within : Int) (hw : (within == 8) = false) (ha0 : 0 ≤ a) (ha1 : a < (bs.length : Int)) (hl0 : 1 ≤ l) (hl1 : l ≤ 2048) (ht : rd bs a = 0) :
    Calls Try.prog 38 #[.pointer (some ⟨g, 0, none⟩), .int .i64 within] w (wt.GotV (.ok ⟨0, 0, ⟨#[]⟩, [], []⟩ (a + 1) (l - 1)) w0 w g A bs.length c) := by
  have HB := Aside0.mk hB
  have HC := Aside0.mk hC
  have HCC := Aside0.mk hc
  have HBB := Aside0.mk hb
  have HGG := Aside0.mk hg
  have HLL := Aside0.mk hU.L
  have HUU := Aside0.mk hU
  have hgl : g < w.heap.size := blk_lt hB
  have hu25 := Try.underlying25
  obtain ⟨a, rfl⟩ := Int.eq_ofNat_of_zero_le ha0
  have t0 : ((a : Int) == (bs.length : Int)) = false := beq_eq_false_iff_ne.2 (by omega)
  have t1 : (a = bs.length) = False := eq_false (by omega)
  have t2 : decide (a = bs.length) = false := decide_eq_false (by omega)
  have t3 : (a : Int) < (bs.length : Int) := ha1
  have t4 : a < bs.length := by omega
  have t5 : decide (a < bs.length) = true := decide_eq_true t4
  have hwr := Aside0.mk (show wrap64 ((a : Int) + 1) = (a : Int) + 1 by have := hU.L; unfold wrap64; omega)
  have HL0 := Aside0.mk hl0
  have HL1 := Aside0.mk hl1
  obtain ⟨ad, hA, hx0⟩ := Kd.at_int hC (a : Int) (by omega) ha1
  subst hA
  rw [Int.toNat_natCast, ht] at hx0
  have HBW := Aside0.mk ((Below.refl w.heap.size w).alloc (Nat.le_refl _) (.cells #[.int .i64 0, .int .i64 0, .string ⟨#[]⟩, .slice none 0 0, .slice none 0 0] 25))
  have L1 := Aside0.mk (show wt.Ly (w.alloc (.cells #[.int .i64 0, .int .i64 0, .string ⟨#[]⟩, .slice none 0 0, .slice none 0 0] 25)) g (some ad) bs.length c (a : Int) l (ad.add a) 0 w.heap.size #[.int .i64 0, .int .i64 0, .string ⟨#[]⟩, .slice none 0 0, .slice none 0 0] from ⟨HB.out.below HBW.out, (HBW.out.cell (World.block_lt_of_cell? w _ hx0)).trans hx0, by simpa using heap_alloc_new w _⟩)
  clear hx0
  have h0 := L1.out.blk.c0; have h1 := L1.out.blk.c1; have h2 := L1.out.blk.c2; have f1 := L1.out.blk.fz 1; have f2 := L1.out.blk.fz 2; have hx0 := L1.out.byt; have fr_ := blk_frozen L1.out.res 0
  have HF4 : ∀ W4, W4 = ((w.alloc (.cells #[.int .i64 0, .int .i64 0, .string ⟨#[]⟩, .slice none 0 0, .slice none 0 0] 25)).setCell ⟨g, 2, none⟩ (.int .i64 (l - 1))).setCell ⟨g, 1, none⟩ (.int .i64 ((a : Int) + 1)) → wt.Fr g w W4 ∧ Below w0.heap.size w0 W4 := by
    rintro _ rfl
    exact ⟨((wt.Fr.of_below HBW.out).trans (wt.Fr.set _ _ _ _)).trans (wt.Fr.set _ _ _ _), ((HBB.out.alloc HBB.out.size _).setCell hg _).setCell hg _⟩
  have HF4 := Aside0.mk HF4
  clear hU hb hg hB hC hc ha1 hl0 hl1 ha0 hgl
  generalize bs.length = m at *
  go_enter Try.func38, Try.ntmps38
  go_wp2_with (first | (go_at_call 51; refine (wt.weighsY L1.out.blk 1 (a : Int) HL0.out HL1.out (by omega)).mono ?_; rintro e_ w3 ⟨rfl, hx⟩; have L3 := Aside0.mk (L1.out.fr (hx ▸ wt.Fr.set _ _ _ _) (hx ▸ L1.out.blk.set2 _)); have HX3 := Aside0.mk hx; clear hx; clear h0 h1 h2 f1 f2 hx0 fr_; have h0 := L3.out.blk.c0; have h1 := L3.out.blk.c1; have h2 := L3.out.blk.c2; have f1 := L3.out.blk.fz 1; have f2 := L3.out.blk.fz 2; have hx0 := L3.out.byt; have fr_ := blk_frozen L3.out.res 0) | ((with_reducible refine gate_store (p := 48) rfl ?_); go_must (refine store_event ?hg (t := 3) (p := 48) (v := .tmp 46) (w1 := w3.setCell ⟨g, 1, none⟩ (.int .i64 (wrap64 ((a : Int) + 1)))) ?ho ?hN ?hr ?_); (case ho => rfl); (case hN => rfl); (case hg => rfl); (case hr => first | (go_simp; done) | (go_simp; rfl)); intro w4 e4; rw [hwr.out] at e4; have L4 := Aside0.mk (L3.out.fr (e4 ▸ wt.Fr.set _ _ _ _) (e4 ▸ L3.out.blk.set1 _)); have HX4 := Aside0.mk e4; clear e4; have HFW := Aside0.mk (HF4.out _ (HX4.out.trans (by rw [HX3.out]))); clear h0 h1 h2 f1 f2 hx0 fr_; have h0 := L4.out.blk.c0; have h1 := L4.out.blk.c1; have h2 := L4.out.blk.c2; have f1 := L4.out.blk.fz 1; have f2 := L4.out.blk.fz 2; have hx0 := L4.out.byt; have fr_ := blk_frozen L4.out.res 0) | ((with_reducible refine gate_store (p := 4) rfl ?_); refine wt.store_res rfl rfl 4 _ rfl w.heap.size rfl (.int .i64 0) (.int .i64 0) (.string ⟨#[]⟩) (.slice none 0 0) (.slice none 0 0) rfl (fun q hq => by simp at hq; rcases hq with rfl | rfl | rfl | rfl | rfl <;> rfl) _ rfl L4.out.res ?_; intro w5 hres hgr; have HRES := Aside0.mk hres; have HGR := Aside0.mk hgr; clear hgr hres))
  go_wp2
  refine bodyPost_ret (results_cell_row rfl _ _ w.heap.size 25 _ (0, 0) _ rfl HRES.out Try.underlying25 rfl (by kernel_rfl)) rfl ?_
  exact ⟨⟨_, _, rfl, Kd.R_nil _ _ _ _ _, Kd.R_nil _ _ _ _ _⟩, wt.fin_nx HFW.out.1 L4.out.blk L4.out.ne.2 HGR.out (Nat.le_refl _) HBB.out.size HFW.out.2⟩
theorem wt.val_t3 {bs : List Int} {u i : Int → Int × Int × Int} (hU : wt.Uin bs u i) {w0 w : World} {g : Nat} {A : Option Addr} {c : Nat} {a l : Int} (hb : Below w0.heap.size w0 w) (hg : w0.heap.size ≤ g) (hB : wt.Blk w g A bs.length c a l) (hC : (Kd.int .u8).C w A bs.length bs) (hc : bs.length ≤ c) (within : Int) (hw : (within == 8) = false) (ha0 : 0 ≤ a) (ha1 : a < (bs.length : Int)) (hl0 : 1 ≤ l) (hl1 : l ≤ 2048) (ht : rd bs a = 3) (he : (i (a + 1)).2.2 = 0) :
    Calls Try.prog 38 #[.pointer (some ⟨g, 0, none⟩), .int .i64 within] w (wt.GotV (.ok ⟨2, (i (a + 1)).1, ⟨#[]⟩, [], []⟩ (i (a + 1)).2.1 (l - 1)) w0 w g A bs.length c) := by
  have HB := Aside0.mk hB
  have HC := Aside0.mk hC
  have HCC := Aside0.mk hc
  have HBB := Aside0.mk hb
  have HGG := Aside0.mk hg
  have HLL := Aside0.mk hU.L
  have HUU := Aside0.mk hU
  have hgl : g < w.heap.size := blk_lt hB
  have hu25 := Try.underlying25
  obtain ⟨a, rfl⟩ := Int.eq_ofNat_of_zero_le ha0
  have t0 : ((a : Int) == (bs.length : Int)) = false := beq_eq_false_iff_ne.2 (by omega)
  have t1 : (a = bs.length) = False := eq_false (by omega)
  have t2 : decide (a = bs.length) = false := decide_eq_false (by omega)
  have t3 : (a : Int) < (bs.length : Int) := ha1
  have t4 : a < bs.length := by omega
  have t5 : decide (a < bs.length) = true := decide_eq_true t4
  have hwr := Aside0.mk (show wrap64 ((a : Int) + 1) = (a : Int) + 1 by have := hU.L; unfold wrap64; omega)
  have HL0 := Aside0.mk hl0
  have HL1 := Aside0.mk hl1
  obtain ⟨ad, hA, hx0⟩ := Kd.at_int hC (a : Int) (by omega) ha1
  subst hA
  rw [Int.toNat_natCast, ht] at hx0
  have HBW := Aside0.mk ((Below.refl w.heap.size w).alloc (Nat.le_refl _) (.cells #[.int .i64 0, .int .i64 0, .string ⟨#[]⟩, .slice none 0 0, .slice none 0 0] 25))
  have L1 := Aside0.mk (show wt.Ly (w.alloc (.cells #[.int .i64 0, .int .i64 0, .string ⟨#[]⟩, .slice none 0 0, .slice none 0 0] 25)) g (some ad) bs.length c (a : Int) l (ad.add a) 3 w.heap.size #[.int .i64 0, .int .i64 0, .string ⟨#[]⟩, .slice none 0 0, .slice none 0 0] from ⟨HB.out.below HBW.out, (HBW.out.cell (World.block_lt_of_cell? w _ hx0)).trans hx0, by simpa using heap_alloc_new w _⟩)
  clear hx0
  have h0 := L1.out.blk.c0; have h1 := L1.out.blk.c1; have h2 := L1.out.blk.c2; have f1 := L1.out.blk.fz 1; have f2 := L1.out.blk.fz 2; have hx0 := L1.out.byt; have fr_ := blk_frozen L1.out.res 0
  have HF4 : ∀ W4, W4 = ((w.alloc (.cells #[.int .i64 0, .int .i64 0, .string ⟨#[]⟩, .slice none 0 0, .slice none 0 0] 25)).setCell ⟨g, 2, none⟩ (.int .i64 (l - 1))).setCell ⟨g, 1, none⟩ (.int .i64 ((a : Int) + 1)) → wt.Fr g w W4 ∧ Below w0.heap.size w0 W4 := by
    rintro _ rfl
    exact ⟨((wt.Fr.of_below HBW.out).trans (wt.Fr.set _ _ _ _)).trans (wt.Fr.set _ _ _ _), ((HBB.out.alloc HBB.out.size _).setCell hg _).setCell hg _⟩
  have HF4 := Aside0.mk HF4
  obtain ⟨K, hK⟩ := hU.I
  have HK := Aside0.mk (hK ((a : Int) + 1))
  obtain ⟨r1, r2, r3, hr⟩ : ∃ r1 r2 r3, i ((a : Int) + 1) = (r1, r2, r3) := ⟨_, _, _, rfl⟩
  rw [hr] at he HK ⊢
  dsimp only at he ⊢
  subst he
  clear hK hr
  clear hU hb hg hB hC hc ha1 hl0 hl1 ha0 hgl
  generalize bs.length = m at *
  go_enter Try.func38, Try.ntmps38
  go_wp2_with (first | (go_at_call 51; refine (wt.weighsY L1.out.blk 1 (a : Int) HL0.out HL1.out (by omega)).mono ?_; rintro e_ w3 ⟨rfl, hx⟩; have L3 := Aside0.mk (L1.out.fr (hx ▸ wt.Fr.set _ _ _ _) (hx ▸ L1.out.blk.set2 _)); have HX3 := Aside0.mk hx; clear hx; clear h0 h1 h2 f1 f2 hx0 fr_; have h0 := L3.out.blk.c0; have h1 := L3.out.blk.c1; have h2 := L3.out.blk.c2; have f1 := L3.out.blk.fz 1; have f2 := L3.out.blk.fz 2; have hx0 := L3.out.byt; have fr_ := blk_frozen L3.out.res 0) | ((with_reducible refine gate_store (p := 48) rfl ?_); go_must (refine store_event ?hg (t := 3) (p := 48) (v := .tmp 46) (w1 := w3.setCell ⟨g, 1, none⟩ (.int .i64 (wrap64 ((a : Int) + 1)))) ?ho ?hN ?hr ?_); (case ho => rfl); (case hN => rfl); (case hg => rfl); (case hr => first | (go_simp; done) | (go_simp; rfl)); intro w4 e4; rw [hwr.out] at e4; have L4 := Aside0.mk (L3.out.fr (e4 ▸ wt.Fr.set _ _ _ _) (e4 ▸ L3.out.blk.set1 _)); have HX4 := Aside0.mk e4; clear e4; have HFW := Aside0.mk (HF4.out _ (HX4.out.trans (by rw [HX3.out]))); clear h0 h1 h2 f1 f2 hx0 fr_; have h0 := L4.out.blk.c0; have h1 := L4.out.blk.c1; have h2 := L4.out.blk.c2; have f1 := L4.out.blk.fz 1; have f2 := L4.out.blk.fz 2; have hx0 := L4.out.byt; have fr_ := blk_frozen L4.out.res 0))
  clear h0 h1 h2 f1 f2 hx0 fr_
  refine start_ (n := 16) (S := fun w' => w'.cell? ⟨g, 0, none⟩ = some (.slice (some ad) m c) ∧ w'.cell? ⟨g, 1, none⟩ = some (.int .i64 ((a : Int) + 1))) (ds := []) #[false, false, false, false, false, false, false, false, false, false, false, false, false, false, false, false] (by kernel_rfl) rfl rfl ⟨(L4.out.below (below_drew (Below.refl _ _))).blk.c0, (L4.out.below (below_drew (Below.refl _ _))).blk.c1⟩ (fun hHeld => ?_)
  generalize hwd : w4.drew = wd at hHeld ⊢
  have Ld := Aside0.mk (hwd ▸ L4.out.below (below_drew (Below.refl _ _)))
  have HFd := Aside0.mk (hwd ▸ (⟨HFW.out.1.trans (wt.Fr.of_below (below_drew (Below.refl _ _))), below_drew HFW.out.2⟩ : wt.Fr g w w4.drew ∧ Below w0.heap.size w0 w4.drew))
  clear hwd
  refine pure_ (i := 0) (N := some 65) (v := ?_) (a' := ?_) #[true, false, false, false, false, false, false, false, false, false, false, false, false, false, false, false] rfl rfl (by kernel_rfl) (fun _ _ _ h => h) (Or.inl ⟨by rfl, ?_⟩) ?_ ?_
  rotate_left
  · intro w'
    go_simp
    with_reducible rfl
  rotate_left
  · simp only [Act.put, List.setIfInBounds_toArray, List.set_cons_zero, List.set_cons_succ, i64_w, i32_w]
    rfl
  refine pure_ (i := 1) (N := some 66) (v := ?_) (a' := ?_) #[true, true, false, false, false, false, false, false, false, false, false, false, false, false, false, false] rfl rfl (by kernel_rfl) (fun _ _ _ h => h) (Or.inl ⟨by rfl, ?_⟩) ?_ ?_
  rotate_left
  · intro w'
    go_simp
    with_reducible rfl
  rotate_left
  · simp only [Act.put, List.setIfInBounds_toArray, List.set_cons_zero, List.set_cons_succ, i64_w, i32_w]
    rfl
  refine pure_ (i := 2) (N := some 67) (v := ?_) (a' := ?_) #[true, true, true, false, false, false, false, false, false, false, false, false, false, false, false, false] rfl rfl (by kernel_rfl) (fun _ _ _ h => h) (Or.inl ⟨by rfl, ?_⟩) ?_ ?_
  rotate_left
  · intro w'
    go_simp
    with_reducible rfl
  rotate_left
  · simp only [Act.put, List.setIfInBounds_toArray, List.set_cons_zero, List.set_cons_succ, i64_w, i32_w]
    rfl
  refine pure_ (i := 4) (N := some 69) (v := ?_) (a' := ?_) #[true, true, true, false, true, false, false, false, false, false, false, false, false, false, false, false] rfl rfl (by kernel_rfl) (fun _ _ _ h => h) (Or.inl ⟨by rfl, ?_⟩) ?_ ?_
  rotate_left
  · intro w'
    go_simp
    with_reducible rfl
  rotate_left
  · simp only [Act.put, List.setIfInBounds_toArray, List.set_cons_zero, List.set_cons_succ, i64_w, i32_w]
    rfl
  refine pure_ (i := 5) (N := some 70) (v := ?_) (a' := ?_) #[true, true, true, false, true, true, false, false, false, false, false, false, false, false, false, false] rfl rfl (by kernel_rfl) (fun _ _ _ h => h) (Or.inl ⟨by rfl, ?_⟩) ?_ ?_
  rotate_left
  · intro w'
    go_simp
    with_reducible rfl
  rotate_left
  · simp only [Act.put, List.setIfInBounds_toArray, List.set_cons_zero, List.set_cons_succ, i64_w, i32_w]
    rfl
  refine pure_ (i := 6) (N := some 71) (v := ?_) (a' := ?_) #[true, true, true, false, true, true, true, false, false, false, false, false, false, false, false, false] rfl rfl (by kernel_rfl) (fun _ _ _ h => h) (Or.inl ⟨by rfl, ?_⟩) ?_ ?_
  rotate_left
  · intro w'
    go_simp
    with_reducible rfl
  rotate_left
  · simp only [Act.put, List.setIfInBounds_toArray, List.set_cons_zero, List.set_cons_succ, i64_w, i32_w]
    rfl
  refine take_ (i := 3) (N := some 68) (v := ?_) (a' := ?_) #[true, true, true, true, true, true, true, false, false, false, false, false, false, false, false, false] rfl rfl (by kernel_rfl) (fun _ _ _ h => h) (Or.inl ⟨by rfl, ?_⟩) hHeld ?_ ?_
  rotate_left
  · rintro w' ⟨s0, s1⟩
    go_simp
    with_reducible rfl
  rotate_left
  · simp only [Act.put, List.setIfInBounds_toArray, List.set_cons_zero, List.set_cons_succ, i64_w, i32_w]
    rfl
  refine take_ (i := 7) (N := some 72) (v := ?_) (a' := ?_) #[true, true, true, true, true, true, true, true, false, false, false, false, false, false, false, false] rfl rfl (by kernel_rfl) (fun _ _ _ h => h) (Or.inl ⟨by rfl, ?_⟩) hHeld ?_ ?_
  rotate_left
  · rintro w' ⟨s0, s1⟩
    go_simp
    with_reducible rfl
  rotate_left
  · simp only [Act.put, List.setIfInBounds_toArray, List.set_cons_zero, List.set_cons_succ, i64_w, i32_w]
    rfl
  refine one_ (i := 8) (N := some 73) #[true, true, true, true, true, true, true, true, true, false, false, false, false, false, false, false] rfl rfl (by kernel_rfl) (by decide) (fun K hK => ?_)
  refine goes_ Try.func52 (by kernel_rfl) rfl #[.slice (some ad) m c, .int .i64 ((a : Int) + 1)] (by rfl) rfl rfl (by (try simp only [List.map_toArray, List.map_cons, List.map_nil]); first | done | rfl) ?_
  refine (wt.int1 HK.out (wt.bytes_fr HC.out HB.out HFd.out.1) HCC.out).mono ?_
  rintro e w5 ⟨rfl, hd⟩
  refine ⟨_, rfl, ?_⟩
  have HD := Aside0.mk hd
  have L5 := Aside0.mk (Ld.out.below hd.below)
  clear hd
  refine hK.out _ _ ⟨L5.out.blk.c0, L5.out.blk.c1⟩ (fun hHeld => ?_)
  clear hK K
  refine norm_ (a' := ?_) ?_ ?_
  rotate_left
  · show Act.put _ (some 73) _ = _
    simp only [Act.put, List.setIfInBounds_toArray, List.set_cons_zero, List.set_cons_succ, i64_w, i32_w]
    rfl
  refine pure_ (i := 9) (N := some 64) (v := ?_) (a' := ?_) #[true, true, true, true, true, true, true, true, true, true, false, false, false, false, false, false] rfl rfl (by kernel_rfl) (fun _ _ _ h => h) (Or.inl ⟨by rfl, ?_⟩) ?_ ?_
  rotate_left
  · intro w'
    go_simp
    with_reducible rfl
  rotate_left
  · simp only [Act.put, List.setIfInBounds_toArray, List.set_cons_zero, List.set_cons_succ, i64_w, i32_w]
    rfl
  refine pure_ (i := 10) (N := some 74) (v := ?_) (a' := ?_) #[true, true, true, true, true, true, true, true, true, true, true, false, false, false, false, false] rfl rfl (by kernel_rfl) (fun _ _ _ h => h) (Or.inl ⟨by rfl, ?_⟩) ?_ ?_
  rotate_left
  · intro w'
    go_simp
    with_reducible rfl
  rotate_left
  · simp only [Act.put, List.setIfInBounds_toArray, List.set_cons_zero, List.set_cons_succ, i64_w, i32_w]
    rfl
  refine pure_ (i := 11) (N := some 75) (v := ?_) (a' := ?_) #[true, true, true, true, true, true, true, true, true, true, true, true, false, false, false, false] rfl rfl (by kernel_rfl) (fun _ _ _ h => h) (Or.inl ⟨by rfl, ?_⟩) ?_ ?_
  rotate_left
  · intro w'
    go_simp
    with_reducible rfl
  rotate_left
  · simp only [Act.put, List.setIfInBounds_toArray, List.set_cons_zero, List.set_cons_succ, i64_w, i32_w]
    rfl
  refine pure_ (i := 12) (N := some 76) (v := ?_) (a' := ?_) #[true, true, true, true, true, true, true, true, true, true, true, true, true, false, false, false] rfl rfl (by kernel_rfl) (fun _ _ _ h => h) (Or.inl ⟨by rfl, ?_⟩) ?_ ?_
  rotate_left
  · intro w'
    go_simp
    with_reducible rfl
  rotate_left
  · simp only [Act.put, List.setIfInBounds_toArray, List.set_cons_zero, List.set_cons_succ, i64_w, i32_w]
    rfl
  refine pure_ (i := 13) (N := some 6) (v := ?_) (a' := ?_) #[true, true, true, true, true, true, true, true, true, true, true, true, true, true, false, false] rfl rfl (by kernel_rfl) (fun _ _ _ h => h) (Or.inl ⟨by rfl, ?_⟩) ?_ ?_
  rotate_left
  · intro w'
    go_simp
    with_reducible rfl
  rotate_left
  · simp only [Act.put, List.setIfInBounds_toArray, List.set_cons_zero, List.set_cons_succ, i64_w, i32_w]
    rfl
  refine pure_ (i := 14) (N := some 7) (v := ?_) (a' := ?_) #[true, true, true, true, true, true, true, true, true, true, true, true, true, true, true, false] rfl rfl (by kernel_rfl) (fun _ _ _ h => h) (Or.inl ⟨by rfl, ?_⟩) ?_ ?_
  rotate_left
  · intro w'
    go_simp
    with_reducible rfl
  rotate_left
  · simp only [Act.put, List.setIfInBounds_toArray, List.set_cons_zero, List.set_cons_succ, i64_w, i32_w]
    rfl
  refine pure_ (i := 15) (N := some 8) (v := ?_) (a' := ?_) #[true, true, true, true, true, true, true, true, true, true, true, true, true, true, true, true] rfl rfl (by kernel_rfl) (fun _ _ _ h => h) (Or.inl ⟨by rfl, ?_⟩) ?_ ?_
  rotate_left
  · intro w'
    go_simp
    with_reducible rfl
  rotate_left
  · simp only [Act.put, List.setIfInBounds_toArray, List.set_cons_zero, List.set_cons_succ, i64_w, i32_w]
    rfl
  refine done_ (by kernel_rfl) ?_
  have h0 := L5.out.blk.c0; have h1 := L5.out.blk.c1; have h2 := L5.out.blk.c2; have f1 := L5.out.blk.fz 1; have f2 := L5.out.blk.fz 2; have hx0 := L5.out.byt; have fr_ := blk_frozen L5.out.res 0
  go_wp2_with (first | ((with_reducible refine gate_store (p := 87) rfl ?_); go_must (refine store_event ?hg (t := 3) (p := 87) (v := .tmp 85) (w1 := w5.setCell ⟨g, 1, none⟩ (.int .i64 r2)) ?ho ?hN ?hr ?_); (case ho => rfl); (case hN => rfl); (case hg => rfl); (case hr => first | (go_simp; done) | (go_simp; rfl)); intro w6 ex; have L6 := Aside0.mk (L5.out.fr (ex ▸ wt.Fr.set _ _ _ _) (ex ▸ L5.out.blk.set1 _)); have HX6 := Aside0.mk ex; clear ex; clear h0 h1 h2 f1 f2 hx0 fr_; have h0 := L6.out.blk.c0; have h1 := L6.out.blk.c1; have h2 := L6.out.blk.c2; have f1 := L6.out.blk.fz 1; have f2 := L6.out.blk.fz 2; have hx0 := L6.out.byt; have fr_ := blk_frozen L6.out.res 0) | ((with_reducible refine gate_store (p := 4) rfl ?_); refine wt.store_res rfl rfl 4 _ rfl w.heap.size rfl (.int .i64 2) (.int .i64 r1) (.string ⟨#[]⟩) (.slice none 0 0) (.slice none 0 0) rfl (fun q hq => by simp at hq; rcases hq with rfl | rfl | rfl | rfl | rfl <;> rfl) _ rfl L6.out.res ?_; intro w5 hres hgr; have HRES := Aside0.mk hres; have HGR := Aside0.mk hgr; clear hgr hres))
  go_wp2
  refine bodyPost_ret (results_cell_row rfl _ _ w.heap.size 25 _ (0, 0) _ rfl HRES.out Try.underlying25 rfl (by kernel_rfl)) rfl ?_
  exact ⟨⟨_, _, rfl, Kd.R_nil _ _ _ _ _, Kd.R_nil _ _ _ _ _⟩, wt.fin_nx (HX6.out ▸ (HFd.out.1.trans (wt.Fr.of_below HD.out.below)).trans (wt.Fr.set _ _ _ _)) L6.out.blk L6.out.ne.2 HGR.out (Nat.le_refl _) HBB.out.size (HX6.out ▸ (below_then HFd.out.2 HFd.out.2.size HD.out.below).setCell HGG.out _)⟩
theorem wt.val_t3N {bs : List Int} {u i : Int → Int × Int × Int} (hU : wt.Uin bs u i) {w0 w : World} {g : Nat} {A : Option Addr} {c : Nat} {a l : Int} (hb : Below w0.heap.size w0 w) (hg : w0.heap.size ≤ g) (hB : wt.Blk w g A bs.length c a l) (hC : (Kd.int .u8).C w A bs.length bs) (hc : bs.length ≤ c) (within : Int) (hw : (within == 8) = false) (ha0 : 0 ≤ a) (ha1 : a < (bs.length : Int)) (hl0 : 1 ≤ l) (hl1 : l ≤ 2048) (ht : rd bs a = 3) (he : (i (a + 1)).2.2 ≠ 0) :
    Calls Try.prog 38 #[.pointer (some ⟨g, 0, none⟩), .int .i64 within] w (wt.GotV (.bad 41 (a + 1)) w0 w g A bs.length c) := by
  have HB := Aside0.mk hB
  have HC := Aside0.mk hC
  have HCC := Aside0.mk hc
  have HBB := Aside0.mk hb
  have HGG := Aside0.mk hg
  have HLL := Aside0.mk hU.L
  have HUU := Aside0.mk hU
  have hgl : g < w.heap.size := blk_lt hB
  have hu25 := Try.underlying25
  obtain ⟨a, rfl⟩ := Int.eq_ofNat_of_zero_le ha0
  have t0 : ((a : Int) == (bs.length : Int)) = false := beq_eq_false_iff_ne.2 (by omega)
  have t1 : (a = bs.length) = False := eq_false (by omega)
  have t2 : decide (a = bs.length) = false := decide_eq_false (by omega)
  have t3 : (a : Int) < (bs.length : Int) := ha1
  have t4 : a < bs.length := by omega
  have t5 : decide (a < bs.length) = true := decide_eq_true t4
  have hwr := Aside0.mk (show wrap64 ((a : Int) + 1) = (a : Int) + 1 by have := hU.L; unfold wrap64; omega)
  have HL0 := Aside0.mk hl0
  have HL1 := Aside0.mk hl1
  obtain ⟨ad, hA, hx0⟩ := Kd.at_int hC (a : Int) (by omega) ha1
  subst hA
  rw [Int.toNat_natCast, ht] at hx0
  have HBW := Aside0.mk ((Below.refl w.heap.size w).alloc (Nat.le_refl _) (.cells #[.int .i64 0, .int .i64 0, .string ⟨#[]⟩, .slice none 0 0, .slice none 0 0] 25))
  have L1 := Aside0.mk (show wt.Ly (w.alloc (.cells #[.int .i64 0, .int .i64 0, .string ⟨#[]⟩, .slice none 0 0, .slice none 0 0] 25)) g (some ad) bs.length c (a : Int) l (ad.add a) 3 w.heap.size #[.int .i64 0, .int .i64 0, .string ⟨#[]⟩, .slice none 0 0, .slice none 0 0] from ⟨HB.out.below HBW.out, (HBW.out.cell (World.block_lt_of_cell? w _ hx0)).trans hx0, by simpa using heap_alloc_new w _⟩)
  clear hx0
  have h0 := L1.out.blk.c0; have h1 := L1.out.blk.c1; have h2 := L1.out.blk.c2; have f1 := L1.out.blk.fz 1; have f2 := L1.out.blk.fz 2; have hx0 := L1.out.byt; have fr_ := blk_frozen L1.out.res 0
  have HF4 : ∀ W4, W4 = ((w.alloc (.cells #[.int .i64 0, .int .i64 0, .string ⟨#[]⟩, .slice none 0 0, .slice none 0 0] 25)).setCell ⟨g, 2, none⟩ (.int .i64 (l - 1))).setCell ⟨g, 1, none⟩ (.int .i64 ((a : Int) + 1)) → wt.Fr g w W4 ∧ Below w0.heap.size w0 W4 := by
    rintro _ rfl
    exact ⟨((wt.Fr.of_below HBW.out).trans (wt.Fr.set _ _ _ _)).trans (wt.Fr.set _ _ _ _), ((HBB.out.alloc HBB.out.size _).setCell hg _).setCell hg _⟩
  have HF4 := Aside0.mk HF4
  obtain ⟨K, hK⟩ := hU.I
  have HK := Aside0.mk (hK ((a : Int) + 1))
  obtain ⟨r1, r2, r3, hr⟩ : ∃ r1 r2 r3, i ((a : Int) + 1) = (r1, r2, r3) := ⟨_, _, _, rfl⟩
  rw [hr] at he HK
  dsimp only at he
  have d1 : (r3 != 0) = true := bne_iff_ne.2 he
  have d2 : (r3 == 0) = false := beq_eq_false_iff_ne.2 he
  have d3 : decide (r3 = 0) = false := decide_eq_false he
  clear hK hr he
  clear hU hb hg hB hC hc ha1 hl0 hl1 ha0 hgl
  generalize bs.length = m at *
  go_enter Try.func38, Try.ntmps38
  go_wp2_with (first | (go_at_call 51; refine (wt.weighsY L1.out.blk 1 (a : Int) HL0.out HL1.out (by omega)).mono ?_; rintro e_ w3 ⟨rfl, hx⟩; have L3 := Aside0.mk (L1.out.fr (hx ▸ wt.Fr.set _ _ _ _) (hx ▸ L1.out.blk.set2 _)); have HX3 := Aside0.mk hx; clear hx; clear h0 h1 h2 f1 f2 hx0 fr_; have h0 := L3.out.blk.c0; have h1 := L3.out.blk.c1; have h2 := L3.out.blk.c2; have f1 := L3.out.blk.fz 1; have f2 := L3.out.blk.fz 2; have hx0 := L3.out.byt; have fr_ := blk_frozen L3.out.res 0) | ((with_reducible refine gate_store (p := 48) rfl ?_); go_must (refine store_event ?hg (t := 3) (p := 48) (v := .tmp 46) (w1 := w3.setCell ⟨g, 1, none⟩ (.int .i64 (wrap64 ((a : Int) + 1)))) ?ho ?hN ?hr ?_); (case ho => rfl); (case hN => rfl); (case hg => rfl); (case hr => first | (go_simp; done) | (go_simp; rfl)); intro w4 e4; rw [hwr.out] at e4; have L4 := Aside0.mk (L3.out.fr (e4 ▸ wt.Fr.set _ _ _ _) (e4 ▸ L3.out.blk.set1 _)); have HX4 := Aside0.mk e4; clear e4; have HFW := Aside0.mk (HF4.out _ (HX4.out.trans (by rw [HX3.out]))); clear h0 h1 h2 f1 f2 hx0 fr_; have h0 := L4.out.blk.c0; have h1 := L4.out.blk.c1; have h2 := L4.out.blk.c2; have f1 := L4.out.blk.fz 1; have f2 := L4.out.blk.fz 2; have hx0 := L4.out.byt; have fr_ := blk_frozen L4.out.res 0))
  clear h0 h1 h2 f1 f2 hx0 fr_
  refine start_ (n := 16) (S := fun w' => w'.cell? ⟨g, 0, none⟩ = some (.slice (some ad) m c) ∧ w'.cell? ⟨g, 1, none⟩ = some (.int .i64 ((a : Int) + 1))) (ds := []) #[false, false, false, false, false, false, false, false, false, false, false, false, false, false, false, false] (by kernel_rfl) rfl rfl ⟨(L4.out.below (below_drew (Below.refl _ _))).blk.c0, (L4.out.below (below_drew (Below.refl _ _))).blk.c1⟩ (fun hHeld => ?_)
  generalize hwd : w4.drew = wd at hHeld ⊢
  have Ld := Aside0.mk (hwd ▸ L4.out.below (below_drew (Below.refl _ _)))
  have HFd := Aside0.mk (hwd ▸ (⟨HFW.out.1.trans (wt.Fr.of_below (below_drew (Below.refl _ _))), below_drew HFW.out.2⟩ : wt.Fr g w w4.drew ∧ Below w0.heap.size w0 w4.drew))
  clear hwd
  refine pure_ (i := 0) (N := some 65) (v := ?_) (a' := ?_) #[true, false, false, false, false, false, false, false, false, false, false, false, false, false, false, false] rfl rfl (by kernel_rfl) (fun _ _ _ h => h) (Or.inl ⟨by rfl, ?_⟩) ?_ ?_
  rotate_left
  · intro w'
    go_simp
    with_reducible rfl
  rotate_left
  · simp only [Act.put, List.setIfInBounds_toArray, List.set_cons_zero, List.set_cons_succ, i64_w, i32_w]
    rfl
  refine pure_ (i := 1) (N := some 66) (v := ?_) (a' := ?_) #[true, true, false, false, false, false, false, false, false, false, false, false, false, false, false, false] rfl rfl (by kernel_rfl) (fun _ _ _ h => h) (Or.inl ⟨by rfl, ?_⟩) ?_ ?_
  rotate_left
  · intro w'
    go_simp
    with_reducible rfl
  rotate_left
  · simp only [Act.put, List.setIfInBounds_toArray, List.set_cons_zero, List.set_cons_succ, i64_w, i32_w]
    rfl
  refine pure_ (i := 2) (N := some 67) (v := ?_) (a' := ?_) #[true, true, true, false, false, false, false, false, false, false, false, false, false, false, false, false] rfl rfl (by kernel_rfl) (fun _ _ _ h => h) (Or.inl ⟨by rfl, ?_⟩) ?_ ?_
  rotate_left
  · intro w'
    go_simp
    with_reducible rfl
  rotate_left
  · simp only [Act.put, List.setIfInBounds_toArray, List.set_cons_zero, List.set_cons_succ, i64_w, i32_w]
    rfl
  refine pure_ (i := 4) (N := some 69) (v := ?_) (a' := ?_) #[true, true, true, false, true, false, false, false, false, false, false, false, false, false, false, false] rfl rfl (by kernel_rfl) (fun _ _ _ h => h) (Or.inl ⟨by rfl, ?_⟩) ?_ ?_
  rotate_left
  · intro w'
    go_simp
    with_reducible rfl
  rotate_left
  · simp only [Act.put, List.setIfInBounds_toArray, List.set_cons_zero, List.set_cons_succ, i64_w, i32_w]
    rfl
  refine pure_ (i := 5) (N := some 70) (v := ?_) (a' := ?_) #[true, true, true, false, true, true, false, false, false, false, false, false, false, false, false, false] rfl rfl (by kernel_rfl) (fun _ _ _ h => h) (Or.inl ⟨by rfl, ?_⟩) ?_ ?_
  rotate_left
  · intro w'
    go_simp
    with_reducible rfl
  rotate_left
  · simp only [Act.put, List.setIfInBounds_toArray, List.set_cons_zero, List.set_cons_succ, i64_w, i32_w]
    rfl
  refine pure_ (i := 6) (N := some 71) (v := ?_) (a' := ?_) #[true, true, true, false, true, true, true, false, false, false, false, false, false, false, false, false] rfl rfl (by kernel_rfl) (fun _ _ _ h => h) (Or.inl ⟨by rfl, ?_⟩) ?_ ?_
  rotate_left
  · intro w'
    go_simp
    with_reducible rfl
  rotate_left
  · simp only [Act.put, List.setIfInBounds_toArray, List.set_cons_zero, List.set_cons_succ, i64_w, i32_w]
    rfl
  refine take_ (i := 3) (N := some 68) (v := ?_) (a' := ?_) #[true, true, true, true, true, true, true, false, false, false, false, false, false, false, false, false] rfl rfl (by kernel_rfl) (fun _ _ _ h => h) (Or.inl ⟨by rfl, ?_⟩) hHeld ?_ ?_
  rotate_left
  · rintro w' ⟨s0, s1⟩
    go_simp
    with_reducible rfl
  rotate_left
  · simp only [Act.put, List.setIfInBounds_toArray, List.set_cons_zero, List.set_cons_succ, i64_w, i32_w]
    rfl
  refine take_ (i := 7) (N := some 72) (v := ?_) (a' := ?_) #[true, true, true, true, true, true, true, true, false, false, false, false, false, false, false, false] rfl rfl (by kernel_rfl) (fun _ _ _ h => h) (Or.inl ⟨by rfl, ?_⟩) hHeld ?_ ?_
  rotate_left
  · rintro w' ⟨s0, s1⟩
    go_simp
    with_reducible rfl
  rotate_left
  · simp only [Act.put, List.setIfInBounds_toArray, List.set_cons_zero, List.set_cons_succ, i64_w, i32_w]
    rfl
  refine one_ (i := 8) (N := some 73) #[true, true, true, true, true, true, true, true, true, false, false, false, false, false, false, false] rfl rfl (by kernel_rfl) (by decide) (fun K hK => ?_)
  refine goes_ Try.func52 (by kernel_rfl) rfl #[.slice (some ad) m c, .int .i64 ((a : Int) + 1)] (by rfl) rfl rfl (by (try simp only [List.map_toArray, List.map_cons, List.map_nil]); first | done | rfl) ?_
  refine (wt.int1 HK.out (wt.bytes_fr HC.out HB.out HFd.out.1) HCC.out).mono ?_
  rintro e w5 ⟨rfl, hd⟩
  refine ⟨_, rfl, ?_⟩
  have HD := Aside0.mk hd
  have L5 := Aside0.mk (Ld.out.below hd.below)
  clear hd
  refine hK.out _ _ ⟨L5.out.blk.c0, L5.out.blk.c1⟩ (fun hHeld => ?_)
  clear hK K
  refine norm_ (a' := ?_) ?_ ?_
  rotate_left
  · show Act.put _ (some 73) _ = _
    simp only [Act.put, List.setIfInBounds_toArray, List.set_cons_zero, List.set_cons_succ, i64_w, i32_w]
    rfl
  refine pure_ (i := 9) (N := some 64) (v := ?_) (a' := ?_) #[true, true, true, true, true, true, true, true, true, true, false, false, false, false, false, false] rfl rfl (by kernel_rfl) (fun _ _ _ h => h) (Or.inl ⟨by rfl, ?_⟩) ?_ ?_
  rotate_left
  · intro w'
    go_simp
    with_reducible rfl
  rotate_left
  · simp only [Act.put, List.setIfInBounds_toArray, List.set_cons_zero, List.set_cons_succ, i64_w, i32_w]
    rfl
  refine pure_ (i := 10) (N := some 74) (v := ?_) (a' := ?_) #[true, true, true, true, true, true, true, true, true, true, true, false, false, false, false, false] rfl rfl (by kernel_rfl) (fun _ _ _ h => h) (Or.inl ⟨by rfl, ?_⟩) ?_ ?_
  rotate_left
  · intro w'
    go_simp
    with_reducible rfl
  rotate_left
  · simp only [Act.put, List.setIfInBounds_toArray, List.set_cons_zero, List.set_cons_succ, i64_w, i32_w]
    rfl
  refine pure_ (i := 11) (N := some 75) (v := ?_) (a' := ?_) #[true, true, true, true, true, true, true, true, true, true, true, true, false, false, false, false] rfl rfl (by kernel_rfl) (fun _ _ _ h => h) (Or.inl ⟨by rfl, ?_⟩) ?_ ?_
  rotate_left
  · intro w'
    go_simp
    with_reducible rfl
  rotate_left
  · simp only [Act.put, List.setIfInBounds_toArray, List.set_cons_zero, List.set_cons_succ, i64_w, i32_w]
    rfl
  refine pure_ (i := 12) (N := some 76) (v := ?_) (a' := ?_) #[true, true, true, true, true, true, true, true, true, true, true, true, true, false, false, false] rfl rfl (by kernel_rfl) (fun _ _ _ h => h) (Or.inl ⟨by rfl, ?_⟩) ?_ ?_
  rotate_left
  · intro w'
    go_simp
    with_reducible rfl
  rotate_left
  · simp only [Act.put, List.setIfInBounds_toArray, List.set_cons_zero, List.set_cons_succ, i64_w, i32_w]
    rfl
  refine pure_ (i := 13) (N := some 6) (v := ?_) (a' := ?_) #[true, true, true, true, true, true, true, true, true, true, true, true, true, true, false, false] rfl rfl (by kernel_rfl) (fun _ _ _ h => h) (Or.inl ⟨by rfl, ?_⟩) ?_ ?_
  rotate_left
  · intro w'
    go_simp
    with_reducible rfl
  rotate_left
  · simp only [Act.put, List.setIfInBounds_toArray, List.set_cons_zero, List.set_cons_succ, i64_w, i32_w]
    rfl
  refine pure_ (i := 14) (N := some 7) (v := ?_) (a' := ?_) #[true, true, true, true, true, true, true, true, true, true, true, true, true, true, true, false] rfl rfl (by kernel_rfl) (fun _ _ _ h => h) (Or.inl ⟨by rfl, ?_⟩) ?_ ?_
  rotate_left
  · intro w'
    go_simp
    with_reducible rfl
  rotate_left
  · simp only [Act.put, List.setIfInBounds_toArray, List.set_cons_zero, List.set_cons_succ, i64_w, i32_w]
    rfl
  refine pure_ (i := 15) (N := some 8) (v := ?_) (a' := ?_) #[true, true, true, true, true, true, true, true, true, true, true, true, true, true, true, true] rfl rfl (by kernel_rfl) (fun _ _ _ h => h) (Or.inl ⟨by rfl, ?_⟩) ?_ ?_
  rotate_left
  · intro w'
    go_simp
    with_reducible rfl
  rotate_left
  · simp only [Act.put, List.setIfInBounds_toArray, List.set_cons_zero, List.set_cons_succ, i64_w, i32_w]
    rfl
  refine done_ (by kernel_rfl) ?_
  have h0 := L5.out.blk.c0; have h1 := L5.out.blk.c1; have h2 := L5.out.blk.c2; have f1 := L5.out.blk.fz 1; have f2 := L5.out.blk.fz 2; have hx0 := L5.out.byt; have fr_ := blk_frozen L5.out.res 0
  go_wp2_with (first | (go_at_call 50; refine (wt.fails1 41 ((a : Int) + 1) _).mono ?_; rintro e_ w_ ⟨rfl, rfl⟩; unfold wt.flt))
  exact ⟨rfl, rfl, HFd.out.1.trans (wt.Fr.of_below HD.out.below), below_then HFd.out.2 HFd.out.2.size HD.out.below⟩
theorem wt.val_t4 {bs : List Int} {u i : Int → Int × Int × Int} (hU : wt.Uin bs u i) {w0 w : World} {g : Nat} {A : Option Addr} {c : Nat} {a l : Int} (hb : Below w0.heap.size w0 w) (hg : w0.heap.size ≤ g) (hB : wt.Blk w g A bs.length c a l) (hC : (Kd.int .u8).C w A bs.length bs) (hc : bs.length ≤ c) (within : Int) (hw : (within == 8) = false) (ha0 : 0 ≤ a) (ha1 : a < (bs.length : Int)) (hl0 : 1 ≤ l) (hl1 : l ≤ 2048) (ht : rd bs a = 4) (he : (u (a + 1)).2.2 = 0) (hn : (u (a + 1)).1 ≤ (l - 1) / 1) (hq : (u (a + 1)).1 ≤ (bs.length : Int) - (u (a + 1)).2.1) :
    Calls Try.prog 38 #[.pointer (some ⟨g, 0, none⟩), .int .i64 within] w (wt.GotV (.ok ⟨3, 0, strOfNums ((bs.drop (u (a + 1)).2.1.toNat).take (u (a + 1)).1.toNat), [], []⟩ ((u (a + 1)).2.1 + (u (a + 1)).1) (l - 1 - (u (a + 1)).1)) w0 w g A bs.length c) := by
  have HB := Aside0.mk hB
  have HC := Aside0.mk hC
  have HCC := Aside0.mk hc
  have HBB := Aside0.mk hb
  have HGG := Aside0.mk hg
  have HLL := Aside0.mk hU.L
  have HUU := Aside0.mk hU
  have hgl : g < w.heap.size := blk_lt hB
  have hu25 := Try.underlying25
  obtain ⟨a, rfl⟩ := Int.eq_ofNat_of_zero_le ha0
  have t0 : ((a : Int) == (bs.length : Int)) = false := beq_eq_false_iff_ne.2 (by omega)
  have t1 : (a = bs.length) = False := eq_false (by omega)
  have t2 : decide (a = bs.length) = false := decide_eq_false (by omega)
  have t3 : (a : Int) < (bs.length : Int) := ha1
  have t4 : a < bs.length := by omega
  have t5 : decide (a < bs.length) = true := decide_eq_true t4
  have hwr := Aside0.mk (show wrap64 ((a : Int) + 1) = (a : Int) + 1 by have := hU.L; unfold wrap64; omega)
  have HL0 := Aside0.mk hl0
  have HL1 := Aside0.mk hl1
  obtain ⟨ad, hA, hx0⟩ := Kd.at_int hC (a : Int) (by omega) ha1
  subst hA
  rw [Int.toNat_natCast, ht] at hx0
  have HBW := Aside0.mk ((Below.refl w.heap.size w).alloc (Nat.le_refl _) (.cells #[.int .i64 0, .int .i64 0, .string ⟨#[]⟩, .slice none 0 0, .slice none 0 0] 25))
  have L1 := Aside0.mk (show wt.Ly (w.alloc (.cells #[.int .i64 0, .int .i64 0, .string ⟨#[]⟩, .slice none 0 0, .slice none 0 0] 25)) g (some ad) bs.length c (a : Int) l (ad.add a) 4 w.heap.size #[.int .i64 0, .int .i64 0, .string ⟨#[]⟩, .slice none 0 0, .slice none 0 0] from ⟨HB.out.below HBW.out, (HBW.out.cell (World.block_lt_of_cell? w _ hx0)).trans hx0, by simpa using heap_alloc_new w _⟩)
  clear hx0
  have h0 := L1.out.blk.c0; have h1 := L1.out.blk.c1; have h2 := L1.out.blk.c2; have f1 := L1.out.blk.fz 1; have f2 := L1.out.blk.fz 2; have hx0 := L1.out.byt; have fr_ := blk_frozen L1.out.res 0
  have HF4 : ∀ W4, W4 = ((w.alloc (.cells #[.int .i64 0, .int .i64 0, .string ⟨#[]⟩, .slice none 0 0, .slice none 0 0] 25)).setCell ⟨g, 2, none⟩ (.int .i64 (l - 1))).setCell ⟨g, 1, none⟩ (.int .i64 ((a : Int) + 1)) → wt.Fr g w W4 ∧ Below w0.heap.size w0 W4 := by
    rintro _ rfl
    exact ⟨((wt.Fr.of_below HBW.out).trans (wt.Fr.set _ _ _ _)).trans (wt.Fr.set _ _ _ _), ((HBB.out.alloc HBB.out.size _).setCell hg _).setCell hg _⟩
  have HF4 := Aside0.mk HF4
  have hs0 : wrap64 ((a : Int) + 1) = (a : Int) + 1 := hwr.out
  have HCN := Aside0.mk (fun (W : World) (x1 : Below w0.heap.size w0 W) (x2 : wt.Blk W g (some ad) bs.length c ((a : Int) + 1) (l - 1)) (x3 : (Kd.int .u8).C W (some ad) bs.length bs) => wt.countY hU x1 hg x2 x3 hc (a : Int) 1 he (by omega) (by omega) (by omega) (by omega) hn)
  have hrR := hU.R ((a : Int) + 1)
  have hrN := hU.N ((a : Int) + 1) he
  obtain ⟨r1, r2, r3, hr⟩ : ∃ r1 r2 r3, u ((a : Int) + 1) = (r1, r2, r3) := ⟨_, _, _, rfl⟩
  rw [hr] at HCN hn hq hrR hrN ⊢
  dsimp only at HCN hn hq hrR hrN ⊢
  have HR2 := Aside0.mk (show 0 ≤ r2 ∧ r2 ≤ bs.length by omega)
  have HR1 := Aside0.mk (show 0 ≤ r1 by omega)
  have HQ := Aside0.mk hq
  have hs1 : wrap64 (l - 1 - r1) = l - 1 - r1 := by
    rw [Int.ediv_one] at hn
    unfold wrap64; omega
  clear hn hq hrR hrN he hr
  clear hU hb hg hB hC hc ha1 hl0 hl1 ha0 hgl
  go_enter Try.func38, Try.ntmps38
  go_wp2_with (first | (go_at_call 51; refine (wt.weighsY L1.out.blk 1 (a : Int) HL0.out HL1.out (by omega)).mono ?_; rintro e_ w3 ⟨rfl, hx⟩; have L3 := Aside0.mk (L1.out.fr (hx ▸ wt.Fr.set _ _ _ _) (hx ▸ L1.out.blk.set2 _)); have HX3 := Aside0.mk hx; clear hx; clear h0 h1 h2 f1 f2 hx0 fr_; have h0 := L3.out.blk.c0; have h1 := L3.out.blk.c1; have h2 := L3.out.blk.c2; have f1 := L3.out.blk.fz 1; have f2 := L3.out.blk.fz 2; have hx0 := L3.out.byt; have fr_ := blk_frozen L3.out.res 0) | ((with_reducible refine gate_store (p := 48) rfl ?_); go_must (refine store_event ?hg (t := 3) (p := 48) (v := .tmp 46) (w1 := w3.setCell ⟨g, 1, none⟩ (.int .i64 (wrap64 ((a : Int) + 1)))) ?ho ?hN ?hr ?_); (case ho => rfl); (case hN => rfl); (case hg => rfl); (case hr => first | (go_simp; done) | (go_simp; rfl)); intro w4 e4; rw [hwr.out] at e4; have L4 := Aside0.mk (L3.out.fr (e4 ▸ wt.Fr.set _ _ _ _) (e4 ▸ L3.out.blk.set1 _)); have HX4 := Aside0.mk e4; clear e4; have HFW := Aside0.mk (HF4.out _ (HX4.out.trans (by rw [HX3.out]))); clear h0 h1 h2 f1 f2 hx0 fr_; have h0 := L4.out.blk.c0; have h1 := L4.out.blk.c1; have h2 := L4.out.blk.c2; have f1 := L4.out.blk.fz 1; have f2 := L4.out.blk.fz 2; have hx0 := L4.out.byt; have fr_ := blk_frozen L4.out.res 0) | (go_at_call 53; refine (HCN.out _ HFW.out.2 L4.out.blk (wt.bytes_fr HC.out HB.out HFW.out.1)).mono ?_; rintro e_ w5 ⟨rfl, hx⟩; have HX5 := Aside0.mk hx; clear hx; have L5 := Aside0.mk (L4.out.fr HX5.out.fr HX5.out.blk); clear h0 h1 h2 f1 f2 hx0 fr_; have h0 := L5.out.blk.c0; have h1 := L5.out.blk.c1; have h2 := L5.out.blk.c2; have f1 := L5.out.blk.fz 1; have f2 := L5.out.blk.fz 2; have hx0 := L5.out.byt; have fr_ := blk_frozen L5.out.res 0) | ((with_reducible refine gate_store (p := 102) rfl ?_); go_must (refine store_event ?hg (t := 3) (p := 102) (v := .tmp 100) (w1 := w5.setCell ⟨g, 2, none⟩ (.int .i64 (l - 1 - r1))) ?ho ?hN ?hr ?_); (case ho => rfl); (case hN => rfl); (case hg => rfl); (case hr => first | (go_simp; done) | (go_simp; rfl)); intro w6 ex; have L6 := Aside0.mk (L5.out.fr (ex ▸ wt.Fr.set _ _ _ _) (ex ▸ L5.out.blk.set2 _)); have HX6 := Aside0.mk ex; clear ex; clear h0 h1 h2 f1 f2 hx0 fr_; have h0 := L6.out.blk.c0; have h1 := L6.out.blk.c1; have h2 := L6.out.blk.c2; have f1 := L6.out.blk.fz 1; have f2 := L6.out.blk.fz 2; have hx0 := L6.out.byt; have fr_ := blk_frozen L6.out.res 0) | (go_at_call 54; refine (wt.cutY HUU.out (HX6.out ▸ HX5.out.bel.setCell HGG.out _) HGG.out L6.out.blk (wt.bytes_fr HC.out HB.out (HX6.out ▸ (HFW.out.1.trans HX5.out.fr).trans (wt.Fr.set _ _ _ _) : wt.Fr g w w6)) HCC.out r1 ((a : Int) + 1) HR2.out.1 HR2.out.2 HLL.out HR1.out HQ.out).mono ?_; rintro e_ w7 ⟨rfl, hx⟩; have HX7 := Aside0.mk hx; clear hx; have L7 := Aside0.mk (L6.out.fr HX7.out.fr HX7.out.blk); clear h0 h1 h2 f1 f2 hx0 fr_; have h0 := L7.out.blk.c0; have h1 := L7.out.blk.c1; have h2 := L7.out.blk.c2; have f1 := L7.out.blk.fz 1; have f2 := L7.out.blk.fz 2; have hx0 := L7.out.byt; have fr_ := blk_frozen L7.out.res 0) | ((with_reducible refine gate_store (p := 4) rfl ?_); refine wt.store_res rfl rfl 4 _ rfl w.heap.size rfl (.int .i64 3) (.int .i64 0) (.string (strOfNums ((bs.drop r2.toNat).take r1.toNat))) (.slice none 0 0) (.slice none 0 0) rfl (fun q hq => by simp at hq; rcases hq with rfl | rfl | rfl | rfl | rfl <;> rfl) _ rfl L7.out.res ?_; intro w5 hres hgr; have HRES := Aside0.mk hres; have HGR := Aside0.mk hgr; clear hgr hres))
  go_wp2
  refine bodyPost_ret (results_cell_row rfl _ _ w.heap.size 25 _ (0, 0) _ rfl HRES.out Try.underlying25 rfl (by kernel_rfl)) rfl ?_
  exact ⟨⟨_, _, rfl, Kd.R_nil _ _ _ _ _, Kd.R_nil _ _ _ _ _⟩, wt.fin_nx ((HX6.out ▸ (HFW.out.1.trans HX5.out.fr).trans (wt.Fr.set _ _ _ _) : wt.Fr g w w6).trans HX7.out.fr) L7.out.blk L7.out.ne.2 HGR.out (Nat.le_refl _) HBB.out.size HX7.out.bel⟩
theorem wt.val_t4C {bs : List Int} {u i : Int → Int × Int × Int} (hU : wt.Uin bs u i) {w0 w : World} {g : Nat} {A : Option Addr} {c : Nat} {a l : Int} (hb : Below w0.heap.size w0 w) (hg : w0.heap.size ≤ g) (hB : wt.Blk w g A bs.length c a l) (hC : (Kd.int .u8).C w A bs.length bs) (hc : bs.length ≤ c) (within : Int) (hw : (within == 8) = false) (ha0 : 0 ≤ a) (ha1 : a < (bs.length : Int)) (hl0 : 1 ≤ l) (hl1 : l ≤ 2048) (ht : rd bs a = 4) (he : (u (a + 1)).2.2 = 0) (hn : (u (a + 1)).1 ≤ (l - 1) / 1) (hq : (bs.length : Int) - (u (a + 1)).2.1 < (u (a + 1)).1) :
    Calls Try.prog 38 #[.pointer (some ⟨g, 0, none⟩), .int .i64 within] w (wt.GotV (.bad 41 (a + 1)) w0 w g A bs.length c) := by
  have HB := Aside0.mk hB
  have HC := Aside0.mk hC
  have HCC := Aside0.mk hc
  have HBB := Aside0.mk hb
  have HGG := Aside0.mk hg
  have HLL := Aside0.mk hU.L
  have HUU := Aside0.mk hU
  have hgl : g < w.heap.size := blk_lt hB
  have hu25 := Try.underlying25
  obtain ⟨a, rfl⟩ := Int.eq_ofNat_of_zero_le ha0
  have t0 : ((a : Int) == (bs.length : Int)) = false := beq_eq_false_iff_ne.2 (by omega)
  have t1 : (a = bs.length) = False := eq_false (by omega)
  have t2 : decide (a = bs.length) = false := decide_eq_false (by omega)
  have t3 : (a : Int) < (bs.length : Int) := ha1
  have t4 : a < bs.length := by omega
  have t5 : decide (a < bs.length) = true := decide_eq_true t4
  have hwr := Aside0.mk (show wrap64 ((a : Int) + 1) = (a : Int) + 1 by have := hU.L; unfold wrap64; omega)
  have HL0 := Aside0.mk hl0
  have HL1 := Aside0.mk hl1
  obtain ⟨ad, hA, hx0⟩ := Kd.at_int hC (a : Int) (by omega) ha1
  subst hA
  rw [Int.toNat_natCast, ht] at hx0
  have HBW := Aside0.mk ((Below.refl w.heap.size w).alloc (Nat.le_refl _) (.cells #[.int .i64 0, .int .i64 0, .string ⟨#[]⟩, .slice none 0 0, .slice none 0 0] 25))
  have L1 := Aside0.mk (show wt.Ly (w.alloc (.cells #[.int .i64 0, .int .i64 0, .string ⟨#[]⟩, .slice none 0 0, .slice none 0 0] 25)) g (some ad) bs.length c (a : Int) l (ad.add a) 4 w.heap.size #[.int .i64 0, .int .i64 0, .string ⟨#[]⟩, .slice none 0 0, .slice none 0 0] from ⟨HB.out.below HBW.out, (HBW.out.cell (World.block_lt_of_cell? w _ hx0)).trans hx0, by simpa using heap_alloc_new w _⟩)
  clear hx0
  have h0 := L1.out.blk.c0; have h1 := L1.out.blk.c1; have h2 := L1.out.blk.c2; have f1 := L1.out.blk.fz 1; have f2 := L1.out.blk.fz 2; have hx0 := L1.out.byt; have fr_ := blk_frozen L1.out.res 0
  have HF4 : ∀ W4, W4 = ((w.alloc (.cells #[.int .i64 0, .int .i64 0, .string ⟨#[]⟩, .slice none 0 0, .slice none 0 0] 25)).setCell ⟨g, 2, none⟩ (.int .i64 (l - 1))).setCell ⟨g, 1, none⟩ (.int .i64 ((a : Int) + 1)) → wt.Fr g w W4 ∧ Below w0.heap.size w0 W4 := by
    rintro _ rfl
    exact ⟨((wt.Fr.of_below HBW.out).trans (wt.Fr.set _ _ _ _)).trans (wt.Fr.set _ _ _ _), ((HBB.out.alloc HBB.out.size _).setCell hg _).setCell hg _⟩
  have HF4 := Aside0.mk HF4
  have hs0 : wrap64 ((a : Int) + 1) = (a : Int) + 1 := hwr.out
  have HCN := Aside0.mk (fun (W : World) (x1 : Below w0.heap.size w0 W) (x2 : wt.Blk W g (some ad) bs.length c ((a : Int) + 1) (l - 1)) (x3 : (Kd.int .u8).C W (some ad) bs.length bs) => wt.countY hU x1 hg x2 x3 hc (a : Int) 1 he (by omega) (by omega) (by omega) (by omega) hn)
  have hrR := hU.R ((a : Int) + 1)
  have hrN := hU.N ((a : Int) + 1) he
  obtain ⟨r1, r2, r3, hr⟩ : ∃ r1 r2 r3, u ((a : Int) + 1) = (r1, r2, r3) := ⟨_, _, _, rfl⟩
  rw [hr] at HCN hn hq hrR hrN
  dsimp only at HCN hn hq hrR hrN
  have HR2 := Aside0.mk (show 0 ≤ r2 ∧ r2 ≤ bs.length by omega)
  have HR1 := Aside0.mk (show 0 ≤ r1 by omega)
  have HQ := Aside0.mk hq
  have hs1 : wrap64 (l - 1 - r1) = l - 1 - r1 := by
    rw [Int.ediv_one] at hn
    unfold wrap64; omega
  clear hn hq hrR hrN he hr
  clear hU hb hg hB hC hc ha1 hl0 hl1 ha0 hgl
  go_enter Try.func38, Try.ntmps38
  go_wp2_with (first | (go_at_call 51; refine (wt.weighsY L1.out.blk 1 (a : Int) HL0.out HL1.out (by omega)).mono ?_; rintro e_ w3 ⟨rfl, hx⟩; have L3 := Aside0.mk (L1.out.fr (hx ▸ wt.Fr.set _ _ _ _) (hx ▸ L1.out.blk.set2 _)); have HX3 := Aside0.mk hx; clear hx; clear h0 h1 h2 f1 f2 hx0 fr_; have h0 := L3.out.blk.c0; have h1 := L3.out.blk.c1; have h2 := L3.out.blk.c2; have f1 := L3.out.blk.fz 1; have f2 := L3.out.blk.fz 2; have hx0 := L3.out.byt; have fr_ := blk_frozen L3.out.res 0) | ((with_reducible refine gate_store (p := 48) rfl ?_); go_must (refine store_event ?hg (t := 3) (p := 48) (v := .tmp 46) (w1 := w3.setCell ⟨g, 1, none⟩ (.int .i64 (wrap64 ((a : Int) + 1)))) ?ho ?hN ?hr ?_); (case ho => rfl); (case hN => rfl); (case hg => rfl); (case hr => first | (go_simp; done) | (go_simp; rfl)); intro w4 e4; rw [hwr.out] at e4; have L4 := Aside0.mk (L3.out.fr (e4 ▸ wt.Fr.set _ _ _ _) (e4 ▸ L3.out.blk.set1 _)); have HX4 := Aside0.mk e4; clear e4; have HFW := Aside0.mk (HF4.out _ (HX4.out.trans (by rw [HX3.out]))); clear h0 h1 h2 f1 f2 hx0 fr_; have h0 := L4.out.blk.c0; have h1 := L4.out.blk.c1; have h2 := L4.out.blk.c2; have f1 := L4.out.blk.fz 1; have f2 := L4.out.blk.fz 2; have hx0 := L4.out.byt; have fr_ := blk_frozen L4.out.res 0) | (go_at_call 53; refine (HCN.out _ HFW.out.2 L4.out.blk (wt.bytes_fr HC.out HB.out HFW.out.1)).mono ?_; rintro e_ w5 ⟨rfl, hx⟩; have HX5 := Aside0.mk hx; clear hx; have L5 := Aside0.mk (L4.out.fr HX5.out.fr HX5.out.blk); clear h0 h1 h2 f1 f2 hx0 fr_; have h0 := L5.out.blk.c0; have h1 := L5.out.blk.c1; have h2 := L5.out.blk.c2; have f1 := L5.out.blk.fz 1; have f2 := L5.out.blk.fz 2; have hx0 := L5.out.byt; have fr_ := blk_frozen L5.out.res 0) | ((with_reducible refine gate_store (p := 102) rfl ?_); go_must (refine store_event ?hg (t := 3) (p := 102) (v := .tmp 100) (w1 := w5.setCell ⟨g, 2, none⟩ (.int .i64 (l - 1 - r1))) ?ho ?hN ?hr ?_); (case ho => rfl); (case hN => rfl); (case hg => rfl); (case hr => first | (go_simp; done) | (go_simp; rfl)); intro w6 ex; have L6 := Aside0.mk (L5.out.fr (ex ▸ wt.Fr.set _ _ _ _) (ex ▸ L5.out.blk.set2 _)); have HX6 := Aside0.mk ex; clear ex; clear h0 h1 h2 f1 f2 hx0 fr_; have h0 := L6.out.blk.c0; have h1 := L6.out.blk.c1; have h2 := L6.out.blk.c2; have f1 := L6.out.blk.fz 1; have f2 := L6.out.blk.fz 2; have hx0 := L6.out.byt; have fr_ := blk_frozen L6.out.res 0) | (go_at_call 54; refine (wt.cutN HUU.out (HX6.out ▸ HX5.out.bel.setCell HGG.out _) HGG.out L6.out.blk (wt.bytes_fr HC.out HB.out (HX6.out ▸ (HFW.out.1.trans HX5.out.fr).trans (wt.Fr.set _ _ _ _) : wt.Fr g w w6)) HCC.out r1 ((a : Int) + 1) HR2.out.1 HR2.out.2 HLL.out HQ.out).mono ?_; rintro e_ w7 ⟨rfl, hx⟩; have HX7 := Aside0.mk hx; clear hx; unfold wt.flt))
  exact ⟨rfl, rfl, (HX6.out ▸ (HFW.out.1.trans HX5.out.fr).trans (wt.Fr.set _ _ _ _) : wt.Fr g w w6).trans HX7.out.fr, HX7.out.bel⟩
theorem wt.val_t4E {bs : List Int} {u i : Int → Int × Int × Int} (hU : wt.Uin bs u i) {w0 w : World} {g : Nat} {A : Option Addr} {c : Nat} {a l : Int} (hb : Below w0.heap.size w0 w) (hg : w0.heap.size ≤ g) (hB : wt.Blk w g A bs.length c a l) (hC : (Kd.int .u8).C w A bs.length bs) (hc : bs.length ≤ c) (within : Int) (hw : (within == 8) = false) (ha0 : 0 ≤ a) (ha1 : a < (bs.length : Int)) (hl0 : 1 ≤ l) (hl1 : l ≤ 2048) (ht : rd bs a = 4) (he : (u (a + 1)).2.2 ≠ 0) :
    Calls Try.prog 38 #[.pointer (some ⟨g, 0, none⟩), .int .i64 within] w (wt.GotV (.bad 41 (a + 1)) w0 w g A bs.length c) := by
  have HB := Aside0.mk hB
  have HC := Aside0.mk hC
  have HCC := Aside0.mk hc
  have HBB := Aside0.mk hb
  have HGG := Aside0.mk hg
  have HLL := Aside0.mk hU.L
  have HUU := Aside0.mk hU
  have hgl : g < w.heap.size := blk_lt hB
  have hu25 := Try.underlying25
  obtain ⟨a, rfl⟩ := Int.eq_ofNat_of_zero_le ha0
  have t0 : ((a : Int) == (bs.length : Int)) = false := beq_eq_false_iff_ne.2 (by omega)
  have t1 : (a = bs.length) = False := eq_false (by omega)
  have t2 : decide (a = bs.length) = false := decide_eq_false (by omega)
  have t3 : (a : Int) < (bs.length : Int) := ha1
  have t4 : a < bs.length := by omega
  have t5 : decide (a < bs.length) = true := decide_eq_true t4
  have hwr := Aside0.mk (show wrap64 ((a : Int) + 1) = (a : Int) + 1 by have := hU.L; unfold wrap64; omega)
  have HL0 := Aside0.mk hl0
  have HL1 := Aside0.mk hl1
  obtain ⟨ad, hA, hx0⟩ := Kd.at_int hC (a : Int) (by omega) ha1
  subst hA
  rw [Int.toNat_natCast, ht] at hx0
  have HBW := Aside0.mk ((Below.refl w.heap.size w).alloc (Nat.le_refl _) (.cells #[.int .i64 0, .int .i64 0, .string ⟨#[]⟩, .slice none 0 0, .slice none 0 0] 25))
  have L1 := Aside0.mk (show wt.Ly (w.alloc (.cells #[.int .i64 0, .int .i64 0, .string ⟨#[]⟩, .slice none 0 0, .slice none 0 0] 25)) g (some ad) bs.length c (a : Int) l (ad.add a) 4 w.heap.size #[.int .i64 0, .int .i64 0, .string ⟨#[]⟩, .slice none 0 0, .slice none 0 0] from ⟨HB.out.below HBW.out, (HBW.out.cell (World.block_lt_of_cell? w _ hx0)).trans hx0, by simpa using heap_alloc_new w _⟩)
  clear hx0
  have h0 := L1.out.blk.c0; have h1 := L1.out.blk.c1; have h2 := L1.out.blk.c2; have f1 := L1.out.blk.fz 1; have f2 := L1.out.blk.fz 2; have hx0 := L1.out.byt; have fr_ := blk_frozen L1.out.res 0
  have HF4 : ∀ W4, W4 = ((w.alloc (.cells #[.int .i64 0, .int .i64 0, .string ⟨#[]⟩, .slice none 0 0, .slice none 0 0] 25)).setCell ⟨g, 2, none⟩ (.int .i64 (l - 1))).setCell ⟨g, 1, none⟩ (.int .i64 ((a : Int) + 1)) → wt.Fr g w W4 ∧ Below w0.heap.size w0 W4 := by
    rintro _ rfl
    exact ⟨((wt.Fr.of_below HBW.out).trans (wt.Fr.set _ _ _ _)).trans (wt.Fr.set _ _ _ _), ((HBB.out.alloc HBB.out.size _).setCell hg _).setCell hg _⟩
  have HF4 := Aside0.mk HF4
  have hs0 : wrap64 ((a : Int) + 1) = (a : Int) + 1 := hwr.out
  have HCN := Aside0.mk (fun (W : World) (x1 : Below w0.heap.size w0 W) (x2 : wt.Blk W g (some ad) bs.length c ((a : Int) + 1) (l - 1)) (x3 : (Kd.int .u8).C W (some ad) bs.length bs) => wt.countE hU x1 hg x2 x3 hc (a : Int) 1 he)
  clear hU hb hg hB hC hc ha1 hl0 hl1 ha0 hgl
  go_enter Try.func38, Try.ntmps38
  go_wp2_with (first | (go_at_call 51; refine (wt.weighsY L1.out.blk 1 (a : Int) HL0.out HL1.out (by omega)).mono ?_; rintro e_ w3 ⟨rfl, hx⟩; have L3 := Aside0.mk (L1.out.fr (hx ▸ wt.Fr.set _ _ _ _) (hx ▸ L1.out.blk.set2 _)); have HX3 := Aside0.mk hx; clear hx; clear h0 h1 h2 f1 f2 hx0 fr_; have h0 := L3.out.blk.c0; have h1 := L3.out.blk.c1; have h2 := L3.out.blk.c2; have f1 := L3.out.blk.fz 1; have f2 := L3.out.blk.fz 2; have hx0 := L3.out.byt; have fr_ := blk_frozen L3.out.res 0) | ((with_reducible refine gate_store (p := 48) rfl ?_); go_must (refine store_event ?hg (t := 3) (p := 48) (v := .tmp 46) (w1 := w3.setCell ⟨g, 1, none⟩ (.int .i64 (wrap64 ((a : Int) + 1)))) ?ho ?hN ?hr ?_); (case ho => rfl); (case hN => rfl); (case hg => rfl); (case hr => first | (go_simp; done) | (go_simp; rfl)); intro w4 e4; rw [hwr.out] at e4; have L4 := Aside0.mk (L3.out.fr (e4 ▸ wt.Fr.set _ _ _ _) (e4 ▸ L3.out.blk.set1 _)); have HX4 := Aside0.mk e4; clear e4; have HFW := Aside0.mk (HF4.out _ (HX4.out.trans (by rw [HX3.out]))); clear h0 h1 h2 f1 f2 hx0 fr_; have h0 := L4.out.blk.c0; have h1 := L4.out.blk.c1; have h2 := L4.out.blk.c2; have f1 := L4.out.blk.fz 1; have f2 := L4.out.blk.fz 2; have hx0 := L4.out.byt; have fr_ := blk_frozen L4.out.res 0) | (go_at_call 53; refine (HCN.out _ HFW.out.2 L4.out.blk (wt.bytes_fr HC.out HB.out HFW.out.1)).mono ?_; rintro e_ w5 ⟨rfl, hx⟩; have HX5 := Aside0.mk hx; clear hx; unfold wt.flt))
  exact ⟨rfl, rfl, HFW.out.1.trans HX5.out.fr, HX5.out.bel⟩
theorem wt.val_t4S {bs : List Int} {u i : Int → Int × Int × Int} (hU : wt.Uin bs u i) {w0 w : World} {g : Nat} {A : Option Addr} {c : Nat} {a l : Int} (hb : Below w0.heap.size w0 w) (hg : w0.heap.size ≤ g) (hB : wt.Blk w g A bs.length c a l) (hC : (Kd.int .u8).C w A bs.length bs) (hc : bs.length ≤ c) (within : Int) (hw : (within == 8) = false) (ha0 : 0 ≤ a) (ha1 : a < (bs.length : Int)) (hl0 : 1 ≤ l) (hl1 : l ≤ 2048) (ht : rd bs a = 4) (he : (u (a + 1)).2.2 = 0) (hn : (l - 1) / 1 < (u (a + 1)).1) :
    Calls Try.prog 38 #[.pointer (some ⟨g, 0, none⟩), .int .i64 within] w (wt.GotV (.bad 42 a) w0 w g A bs.length c) := by
  have HB := Aside0.mk hB
  have HC := Aside0.mk hC
  have HCC := Aside0.mk hc
  have HBB := Aside0.mk hb
  have HGG := Aside0.mk hg
  have HLL := Aside0.mk hU.L
  have HUU := Aside0.mk hU
  have hgl : g < w.heap.size := blk_lt hB
  have hu25 := Try.underlying25
  obtain ⟨a, rfl⟩ := Int.eq_ofNat_of_zero_le ha0
  have t0 : ((a : Int) == (bs.length : Int)) = false := beq_eq_false_iff_ne.2 (by omega)
  have t1 : (a = bs.length) = False := eq_false (by omega)
  have t2 : decide (a = bs.length) = false := decide_eq_false (by omega)
  have t3 : (a : Int) < (bs.length : Int) := ha1
  have t4 : a < bs.length := by omega
  have t5 : decide (a < bs.length) = true := decide_eq_true t4
  have hwr := Aside0.mk (show wrap64 ((a : Int) + 1) = (a : Int) + 1 by have := hU.L; unfold wrap64; omega)
  have HL0 := Aside0.mk hl0
  have HL1 := Aside0.mk hl1
  obtain ⟨ad, hA, hx0⟩ := Kd.at_int hC (a : Int) (by omega) ha1
  subst hA
  rw [Int.toNat_natCast, ht] at hx0
  have HBW := Aside0.mk ((Below.refl w.heap.size w).alloc (Nat.le_refl _) (.cells #[.int .i64 0, .int .i64 0, .string ⟨#[]⟩, .slice none 0 0, .slice none 0 0] 25))
  have L1 := Aside0.mk (show wt.Ly (w.alloc (.cells #[.int .i64 0, .int .i64 0, .string ⟨#[]⟩, .slice none 0 0, .slice none 0 0] 25)) g (some ad) bs.length c (a : Int) l (ad.add a) 4 w.heap.size #[.int .i64 0, .int .i64 0, .string ⟨#[]⟩, .slice none 0 0, .slice none 0 0] from ⟨HB.out.below HBW.out, (HBW.out.cell (World.block_lt_of_cell? w _ hx0)).trans hx0, by simpa using heap_alloc_new w _⟩)
  clear hx0
  have h0 := L1.out.blk.c0; have h1 := L1.out.blk.c1; have h2 := L1.out.blk.c2; have f1 := L1.out.blk.fz 1; have f2 := L1.out.blk.fz 2; have hx0 := L1.out.byt; have fr_ := blk_frozen L1.out.res 0
  have HF4 : ∀ W4, W4 = ((w.alloc (.cells #[.int .i64 0, .int .i64 0, .string ⟨#[]⟩, .slice none 0 0, .slice none 0 0] 25)).setCell ⟨g, 2, none⟩ (.int .i64 (l - 1))).setCell ⟨g, 1, none⟩ (.int .i64 ((a : Int) + 1)) → wt.Fr g w W4 ∧ Below w0.heap.size w0 W4 := by
    rintro _ rfl
    exact ⟨((wt.Fr.of_below HBW.out).trans (wt.Fr.set _ _ _ _)).trans (wt.Fr.set _ _ _ _), ((HBB.out.alloc HBB.out.size _).setCell hg _).setCell hg _⟩
  have HF4 := Aside0.mk HF4
  have hs0 : wrap64 ((a : Int) + 1) = (a : Int) + 1 := hwr.out
  have HCN := Aside0.mk (fun (W : World) (x1 : Below w0.heap.size w0 W) (x2 : wt.Blk W g (some ad) bs.length c ((a : Int) + 1) (l - 1)) (x3 : (Kd.int .u8).C W (some ad) bs.length bs) => wt.countN hU x1 hg x2 x3 hc (a : Int) 1 he (by omega) (by omega) (by omega) (by omega) hn)
  clear hU hb hg hB hC hc ha1 hl0 hl1 ha0 hgl
  go_enter Try.func38, Try.ntmps38
  go_wp2_with (first | (go_at_call 51; refine (wt.weighsY L1.out.blk 1 (a : Int) HL0.out HL1.out (by omega)).mono ?_; rintro e_ w3 ⟨rfl, hx⟩; have L3 := Aside0.mk (L1.out.fr (hx ▸ wt.Fr.set _ _ _ _) (hx ▸ L1.out.blk.set2 _)); have HX3 := Aside0.mk hx; clear hx; clear h0 h1 h2 f1 f2 hx0 fr_; have h0 := L3.out.blk.c0; have h1 := L3.out.blk.c1; have h2 := L3.out.blk.c2; have f1 := L3.out.blk.fz 1; have f2 := L3.out.blk.fz 2; have hx0 := L3.out.byt; have fr_ := blk_frozen L3.out.res 0) | ((with_reducible refine gate_store (p := 48) rfl ?_); go_must (refine store_event ?hg (t := 3) (p := 48) (v := .tmp 46) (w1 := w3.setCell ⟨g, 1, none⟩ (.int .i64 (wrap64 ((a : Int) + 1)))) ?ho ?hN ?hr ?_); (case ho => rfl); (case hN => rfl); (case hg => rfl); (case hr => first | (go_simp; done) | (go_simp; rfl)); intro w4 e4; rw [hwr.out] at e4; have L4 := Aside0.mk (L3.out.fr (e4 ▸ wt.Fr.set _ _ _ _) (e4 ▸ L3.out.blk.set1 _)); have HX4 := Aside0.mk e4; clear e4; have HFW := Aside0.mk (HF4.out _ (HX4.out.trans (by rw [HX3.out]))); clear h0 h1 h2 f1 f2 hx0 fr_; have h0 := L4.out.blk.c0; have h1 := L4.out.blk.c1; have h2 := L4.out.blk.c2; have f1 := L4.out.blk.fz 1; have f2 := L4.out.blk.fz 2; have hx0 := L4.out.byt; have fr_ := blk_frozen L4.out.res 0) | (go_at_call 53; refine (HCN.out _ HFW.out.2 L4.out.blk (wt.bytes_fr HC.out HB.out HFW.out.1)).mono ?_; rintro e_ w5 ⟨rfl, hx⟩; have HX5 := Aside0.mk hx; clear hx; unfold wt.flt))
  exact ⟨rfl, rfl, HFW.out.1.trans HX5.out.fr, HX5.out.bel⟩
theorem wt.val_b1 {bs : List Int} {u i : Int → Int × Int × Int} (hU : wt.Uin bs u i) {w0 w : World} {g : Nat} {A : Option Addr} {c : Nat} {a l : Int} (hb : Below w0.heap.size w0 w) (hg : w0.heap.size ≤ g) (hB : wt.Blk w g A bs.length c a l) (hC : (Kd.int .u8).C w A bs.length bs) (hc : bs.length ≤ c) (within : Int) (ha1 : a = (bs.length : Int)) :
    Calls Try.prog 38 #[.pointer (some ⟨g, 0, none⟩), .int .i64 within] w (wt.GotV (.bad 41 a) w0 w g A bs.length c) := by
  have HB := Aside0.mk hB
  have HBB := Aside0.mk hb
  have hgl : g < w.heap.size := blk_lt hB
  have HBW := Aside0.mk ((Below.refl w.heap.size w).alloc (Nat.le_refl _) (.cells #[.int .i64 0, .int .i64 0, .string ⟨#[]⟩, .slice none 0 0, .slice none 0 0] 25))
  have L1 := Aside0.mk (HB.out.below HBW.out)
  have h0 := L1.out.c0; have h1 := L1.out.c1; have h2 := L1.out.c2; have f1 := L1.out.fz 1; have f2 := L1.out.fz 2
  have t0 : (a == (bs.length : Int)) = true := beq_iff_eq.2 ha1
  have t1 : (a = (bs.length : Int)) = True := eq_true ha1
  clear ha1
  clear hU hb hg hB hC hc hgl
  generalize bs.length = m at *
  go_enter Try.func38, Try.ntmps38
  go_wp2_with (go_at_call 50; refine (wt.fails1 41 a _).mono ?_; rintro e_ w_ ⟨rfl, rfl⟩; unfold wt.flt)
  exact ⟨rfl, rfl, wt.Fr.of_below HBW.out, HBB.out.alloc HBB.out.size _⟩
theorem wt.val_b2 {bs : List Int} {u i : Int → Int × Int × Int} (hU : wt.Uin bs u i) {w0 w : World} {g : Nat} {A : Option Addr} {c : Nat} {a l : Int} (hb : Below w0.heap.size w0 w) (hg : w0.heap.size ≤ g) (hB : wt.Blk w g A bs.length c a l) (hC : (Kd.int .u8).C w A bs.length bs) (hc : bs.length ≤ c) (within : Int) (ha0 : 0 ≤ a) (ha1 : a < (bs.length : Int)) (hx : rd bs a > 6) :
    Calls Try.prog 38 #[.pointer (some ⟨g, 0, none⟩), .int .i64 within] w (wt.GotV (.bad 41 a) w0 w g A bs.length c) := by
  have HB := Aside0.mk hB
  have HBB := Aside0.mk hb
  have hgl : g < w.heap.size := blk_lt hB
  have HBW := Aside0.mk ((Below.refl w.heap.size w).alloc (Nat.le_refl _) (.cells #[.int .i64 0, .int .i64 0, .string ⟨#[]⟩, .slice none 0 0, .slice none 0 0] 25))
  have L1 := Aside0.mk (HB.out.below HBW.out)
  have h0 := L1.out.c0; have h1 := L1.out.c1; have h2 := L1.out.c2; have f1 := L1.out.fz 1; have f2 := L1.out.fz 2
  obtain ⟨a, rfl⟩ := Int.eq_ofNat_of_zero_le ha0
  have t0 : ((a : Int) == (bs.length : Int)) = false := beq_eq_false_iff_ne.2 (by omega)
  have t1 : (a = bs.length) = False := eq_false (by omega)
  have t2 : decide (a = bs.length) = false := decide_eq_false (by omega)
  have t3 : (a : Int) < (bs.length : Int) := ha1
  have t4 : a < bs.length := by omega
  have t5 : decide (a < bs.length) = true := decide_eq_true t4
  obtain ⟨ad, hA, hx0_⟩ := Kd.at_int hC (a : Int) (by omega) ha1
  subst hA
  rw [Int.toNat_natCast] at hx0_
  have hx0 := (HBW.out.cell (World.block_lt_of_cell? w _ hx0_)).trans hx0_
  generalize rd bs (a : Int) = x at *
  clear hx0_
  have t6 : decide (x > 6) = true := decide_eq_true (by omega)
  have t7 : decide (6 < x) = true := decide_eq_true (by omega)
  clear ha1 hx ha0
  clear hU hb hg hB hC hc hgl
  generalize bs.length = m at *
  go_enter Try.func38, Try.ntmps38
  go_wp2_with (go_at_call 50; refine (wt.fails1 41 (a : Int) _).mono ?_; rintro e_ w_ ⟨rfl, rfl⟩; unfold wt.flt)
  exact ⟨rfl, rfl, wt.Fr.of_below HBW.out, HBB.out.alloc HBB.out.size _⟩
theorem wt.val_bd {bs : List Int} {u i : Int → Int × Int × Int} (hU : wt.Uin bs u i) {w0 w : World} {g : Nat} {A : Option Addr} {c : Nat} {a l : Int} (hb : Below w0.heap.size w0 w) (hg : w0.heap.size ≤ g) (hB : wt.Blk w g A bs.length c a l) (hC : (Kd.int .u8).C w A bs.length bs) (hc : bs.length ≤ c) (within : Int) (hw : (within == 8) = true) (ha0 : 0 ≤ a) (ha1 : a < (bs.length : Int)) (hx : rd bs a ≤ 6) :
    Calls Try.prog 38 #[.pointer (some ⟨g, 0, none⟩), .int .i64 within] w (wt.GotV (.bad 42 a) w0 w g A bs.length c) := by
  have HB := Aside0.mk hB
  have HBB := Aside0.mk hb
  have hgl : g < w.heap.size := blk_lt hB
  have HBW := Aside0.mk ((Below.refl w.heap.size w).alloc (Nat.le_refl _) (.cells #[.int .i64 0, .int .i64 0, .string ⟨#[]⟩, .slice none 0 0, .slice none 0 0] 25))
  have L1 := Aside0.mk (HB.out.below HBW.out)
  have h0 := L1.out.c0; have h1 := L1.out.c1; have h2 := L1.out.c2; have f1 := L1.out.fz 1; have f2 := L1.out.fz 2
  obtain ⟨a, rfl⟩ := Int.eq_ofNat_of_zero_le ha0
  have t0 : ((a : Int) == (bs.length : Int)) = false := beq_eq_false_iff_ne.2 (by omega)
  have t1 : (a = bs.length) = False := eq_false (by omega)
  have t2 : decide (a = bs.length) = false := decide_eq_false (by omega)
  have t3 : (a : Int) < (bs.length : Int) := ha1
  have t4 : a < bs.length := by omega
  have t5 : decide (a < bs.length) = true := decide_eq_true t4
  obtain ⟨ad, hA, hx0_⟩ := Kd.at_int hC (a : Int) (by omega) ha1
  subst hA
  rw [Int.toNat_natCast] at hx0_
  have hx0 := (HBW.out.cell (World.block_lt_of_cell? w _ hx0_)).trans hx0_
  generalize rd bs (a : Int) = x at *
  clear hx0_
  have t6 : decide (x > 6) = false := decide_eq_false (by omega)
  have t7 : decide (6 < x) = false := decide_eq_false (by omega)
  clear ha1 hx ha0
  clear hU hb hg hB hC hc hgl
  generalize bs.length = m at *
  go_enter Try.func38, Try.ntmps38
  go_wp2_with (go_at_call 50; refine (wt.fails1 42 (a : Int) _).mono ?_; rintro e_ w_ ⟨rfl, rfl⟩; unfold wt.flt)
  exact ⟨rfl, rfl, wt.Fr.of_below HBW.out, HBB.out.alloc HBB.out.size _⟩
theorem wt.val_bw {bs : List Int} {u i : Int → Int × Int × Int} (hU : wt.Uin bs u i) {w0 w : World} {g : Nat} {A : Option Addr} {c : Nat} {a l : Int} (hb : Below w0.heap.size w0 w) (hg : w0.heap.size ≤ g) (hB : wt.Blk w g A bs.length c a l) (hC : (Kd.int .u8).C w A bs.length bs) (hc : bs.length ≤ c) (within : Int) (hw : (within == 8) = false) (ha0 : 0 ≤ a) (ha1 : a < (bs.length : Int)) (hx : rd bs a ≤ 6) (hl : l < 1) :
    Calls Try.prog 38 #[.pointer (some ⟨g, 0, none⟩), .int .i64 within] w (wt.GotV (.bad 42 a) w0 w g A bs.length c) := by
  have HB := Aside0.mk hB
  have HBB := Aside0.mk hb
  have hgl : g < w.heap.size := blk_lt hB
  have HBW := Aside0.mk ((Below.refl w.heap.size w).alloc (Nat.le_refl _) (.cells #[.int .i64 0, .int .i64 0, .string ⟨#[]⟩, .slice none 0 0, .slice none 0 0] 25))
  have L1 := Aside0.mk (HB.out.below HBW.out)
  have h0 := L1.out.c0; have h1 := L1.out.c1; have h2 := L1.out.c2; have f1 := L1.out.fz 1; have f2 := L1.out.fz 2
  obtain ⟨a, rfl⟩ := Int.eq_ofNat_of_zero_le ha0
  have t0 : ((a : Int) == (bs.length : Int)) = false := beq_eq_false_iff_ne.2 (by omega)
  have t1 : (a = bs.length) = False := eq_false (by omega)
  have t2 : decide (a = bs.length) = false := decide_eq_false (by omega)
  have t3 : (a : Int) < (bs.length : Int) := ha1
  have t4 : a < bs.length := by omega
  have t5 : decide (a < bs.length) = true := decide_eq_true t4
  obtain ⟨ad, hA, hx0_⟩ := Kd.at_int hC (a : Int) (by omega) ha1
  subst hA
  rw [Int.toNat_natCast] at hx0_
  have hx0 := (HBW.out.cell (World.block_lt_of_cell? w _ hx0_)).trans hx0_
  generalize rd bs (a : Int) = x at *
  clear hx0_
  have t6 : decide (x > 6) = false := decide_eq_false (by omega)
  have t7 : decide (6 < x) = false := decide_eq_false (by omega)
  have HLX := Aside0.mk hl
  clear ha1 hx ha0 hl
  clear hU hb hg hB hC hc hgl
  generalize bs.length = m at *
  go_enter Try.func38, Try.ntmps38
  go_wp2_with (go_at_call 51; refine (wt.weighsN L1.out 1 (a : Int) HLX.out).mono ?_; rintro e_ w3 ⟨rfl, hx⟩; have HX3 := Aside0.mk hx; clear hx; unfold wt.flt)
  exact ⟨rfl, rfl, HX3.out ▸ wt.Fr.of_below HBW.out, HX3.out ▸ HBB.out.alloc HBB.out.size _⟩
end
end Go.Proofs.Ytnkbobblnhaclaa.X

/- Xxwtake2: walks by hand, for the claim. -/
namespace Go.Proofs.Ytnkbobblnhaclaa.X
open Go.RowKit Go.Proofs.YtnkbobblnhaclaaW.PrintWords Go.Proofs.YtnkbobblnhaclaaW.PrintLast Go.Proofs.YtnkbobblnhaclaaW.PrintMore Go.Proofs.YtnkbobblnhaclaaW
section
set_option maxHeartbeats 4000000
set_option maxRecDepth 100000
theorem wt.own_res {W W5 : World} {O : Obj} (hG : (W.alloc O).grownBy W5 (some W.heap.size)) : Below W.heap.size W W5 :=
  ⟨hG.os, hG.tape, hG.output, Nat.le_trans (by rw [Deep.nblk_alloc]; omega) hG.size, fun k hk => (hG.block k (by rw [Deep.nblk_alloc]; omega) (fun e => absurd (Option.some.inj e) (by omega))).trans (Deep.blk_alloc_lt _ _ _ hk)⟩
/-- What stands in memory while the parts of a list are read: kd the kind, v3 and v4 the rows so far. -/
structure wt.LQ (w0 w W : World) (g : Nat) (A : Option Addr) (m c : Nat) (vb : Nat) (a l kd : Int) (v3 v4 : Value) (acc : List S25) (ks : List ByteArray) : Prop where
  blk : wt.Blk W g A m c a l
  fr : wt.Fr g w W
  bel : Below w0.heap.size w0 W
  box : W.heap[vb]? = some (.cells #[.int .i64 kd, .int .i64 0, .string ⟨#[]⟩, v3, v4] 25 (0, 0))
  res : W.heap[w.heap.size]? = some (.cells #[.int .i64 0, .int .i64 0, .string ⟨#[]⟩, .slice none 0 0, .slice none 0 0] 25 (0, 0))
  row : k25.R 25 W w0.heap.size (fun k => vb < k ∧ some k ≠ v4.ownBlock) v3 acc
  keys : Kd.string.R 9 W w0.heap.size (fun k => vb < k) v4 ks
  hvb : w.heap.size < vb
  hgl : g < w.heap.size
  hg : w0.heap.size ≤ g
section
variable {w0 w W W1 : World} {g : Nat} {A : Option Addr} {m c : Nat} {vb : Nat} {a l a1 l1 kd : Int} {v3 v4 : Value} {acc : List S25} {ks : List ByteArray}
theorem wt.LQ.lt (h : wt.LQ w0 w W g A m c vb a l kd v3 v4 acc ks) : vb < W.heap.size := blk_lt h.box
theorem wt.LQ.below (h : wt.LQ w0 w W g A m c vb a l kd v3 v4 acc ks) (hb : Below W.heap.size W W1) : wt.LQ w0 w W1 g A m c vb a l kd v3 v4 acc ks :=
  ⟨h.blk.below hb, h.fr.trans (wt.Fr.of_below hb), below_then h.bel h.bel.size hb, blk_below h.box hb, blk_below h.res hb, Kd.R_below h.row hb, Kd.R_below h.keys hb, h.hvb, h.hgl, h.hg⟩
theorem wt.LQ.step (h : wt.LQ w0 w W g A m c vb a l kd v3 v4 acc ks) (hn : wt.Nx w0 W W1 g A m c a1 l1) : wt.LQ w0 w W1 g A m c vb a1 l1 kd v3 v4 acc ks :=
  have h1 := h.hgl
  have h2 := h.hvb
  ⟨hn.blk, h.fr.trans hn.fr, hn.bel, (hn.fr.2 vb h.lt (by omega)).trans h.box, (hn.fr.2 _ (blk_lt h.res) (by omega)).trans h.res, Kd.R_step h.row (fun k hk hlt => hn.fr.2 k hlt (by have := hk.1; omega)), Kd.R_step h.keys (fun k hk hlt => hn.fr.2 k hlt (by omega)), h2, h1, h.hg⟩
theorem wt.LQ.frV (h : wt.LQ w0 w W g A m c vb a l kd v3 v4 acc ks) (v : Value) (i : Nat) : wt.Fr g w (W.setCell ⟨vb, i, none⟩ v) :=
  have h2 := h.hvb
  ⟨Nat.le_trans h.fr.1 (by simp [World.setCell]), fun k hk hne => (Below.heap_setCell W ⟨vb, i, none⟩ v k (show k ≠ vb by omega)).trans (h.fr.2 k hk hne)⟩
/-- Behind an append to the values' row. -/
theorem wt.LQ.app3 {v5 : Value} {acc2 : List S25} (h : wt.LQ w0 w W g A m c vb a l kd v3 v4 acc ks) (ho : k25.R 25 W1 w0.heap.size (fun k => vb < k ∧ some k ≠ v4.ownBlock) v5 acc2) (hb : Below w0.heap.size w0 W1) (hg : W.grownBy W1 v3.ownBlock) : wt.LQ w0 w (W1.setCell ⟨vb, 3, none⟩ v5) g A m c vb a l kd v5 v4 acc2 ks := by
  have h1 := h.hgl
  have h2 := h.hvb
  have h3 := h.hg
  have hne : ∀ b, b ≤ vb → some b ≠ v3.ownBlock := fun b hb2 e => by have := (h.row.1 b e.symm).1; omega
  have hsz : w.heap.size ≤ W.heap.size := h.fr.1
  have fr1 : wt.Fr g w W1 := ⟨Nat.le_trans hsz hg.size, fun k hk hkg => (hg.block k (by omega) (hne k (by omega))).trans (h.fr.2 k hk hkg)⟩
  have box1 := blk_grown h.box hg (hne vb (Nat.le_refl _))
  exact ⟨(Below.heap_setCell W1 ⟨vb, 3, none⟩ v5 g (show g ≠ vb by omega)).trans (blk_grown h.blk hg (hne g (by omega))),
    ⟨Nat.le_trans fr1.1 (by simp [World.setCell]), fun k hk hkg => (Below.heap_setCell W1 ⟨vb, 3, none⟩ v5 k (show k ≠ vb by omega)).trans (fr1.2 k hk hkg)⟩,
    hb.setCell (show w0.heap.size ≤ vb by omega) v5,
    blk_put box1 3 v5 rfl,
    (Below.heap_setCell W1 ⟨vb, 3, none⟩ v5 _ (show w.heap.size ≠ vb by omega)).trans (blk_grown h.res hg (hne _ (by omega))),
    Kd.R_far ho (fun k hk => by show k ≠ vb; have := hk.1; omega) v5,
    Kd.R_far (Kd.R_over' h.keys (Kd.R_typed h.row) (by decide) hg) (fun k hk => by show k ≠ vb; omega) v5, h2, h1, h3⟩
/-- Behind an append to the keys' row. -/
theorem wt.LQ.app4 {v5 : Value} {ks2 : List ByteArray} (h : wt.LQ w0 w W g A m c vb a l kd v3 v4 acc ks) (ho : Kd.string.R 9 W1 w0.heap.size (fun k => vb < k) v5 ks2) (hb : Below w0.heap.size w0 W1) (hg : W.grownBy W1 v4.ownBlock) (hat : v5.ownBlock = v4.ownBlock ∨ ∃ b, v5.ownBlock = some b ∧ W.heap.size ≤ b) : wt.LQ w0 w (W1.setCell ⟨vb, 4, none⟩ v5) g A m c vb a l kd v3 v5 acc ks2 := by
  have h1 := h.hgl
  have h2 := h.hvb
  have h3 := h.hg
  have hne : ∀ b, b ≤ vb → some b ≠ v4.ownBlock := fun b hb2 e => by have := h.keys.1 b e.symm; omega
  have hsz : w.heap.size ≤ W.heap.size := h.fr.1
  have fr1 : wt.Fr g w W1 := ⟨Nat.le_trans hsz hg.size, fun k hk hkg => (hg.block k (by omega) (hne k (by omega))).trans (h.fr.2 k hk hkg)⟩
  have box1 := blk_grown h.box hg (hne vb (Nat.le_refl _))
  exact ⟨(Below.heap_setCell W1 ⟨vb, 4, none⟩ v5 g (show g ≠ vb by omega)).trans (blk_grown h.blk hg (hne g (by omega))),
    ⟨Nat.le_trans fr1.1 (by simp [World.setCell]), fun k hk hkg => (Below.heap_setCell W1 ⟨vb, 4, none⟩ v5 k (show k ≠ vb by omega)).trans (fr1.2 k hk hkg)⟩,
    hb.setCell (show w0.heap.size ≤ vb by omega) v5,
    blk_put box1 4 v5 rfl,
    (Below.heap_setCell W1 ⟨vb, 4, none⟩ v5 _ (show w.heap.size ≠ vb by omega)).trans (blk_grown h.res hg (hne _ (by omega))),
    Kd.R_far (Kd.R_after h.row hg hat) (fun k hk => by show k ≠ vb; have := hk.1; omega) v5,
    Kd.R_far ho (fun k hk => by show k ≠ vb; omega) v5, h2, h1, h3⟩
end
theorem wt.meas (k n : Nat) (hlt : k < n) (hw : wrap64 ((k : Int) + 1) = (k : Int) + 1) : n - (intOf (.int .i64 (wrap64 ((k : Int) + 1)))).toNat < n - (intOf (.int .i64 (k : Int))).toNat := by
  rw [hw]
  show n - ((k : Int) + 1).toNat < n - ((k : Int)).toNat
  omega
theorem wt.keyS_b {bs : List Int} {u i : Int → Int × Int × Int} (hU : wt.Uin bs u i) {ks : List ByteArray} {a l a2 l2 : Int} {k : ByteArray} (hl : 0 ≤ l ∧ l ≤ 2048) (h : wt.keyS bs u ks a l = .ok k a2 l2) : 0 ≤ a2 ∧ a2 ≤ (bs.length : Int) ∧ 0 ≤ l2 ∧ l2 ≤ 2048 := by
  unfold wt.keyS at h
  by_cases h1 : (u a).2.2 ≠ 0
  · rw [if_pos h1] at h; cases h
  rw [if_neg h1] at h
  by_cases h2 : (u a).1 > 32
  · rw [if_pos h2] at h; cases h
  rw [if_neg h2] at h
  by_cases h3 : (u a).1 > (bs.length : Int) - (u a).2.1
  · rw [if_pos h3] at h; cases h
  rw [if_neg h3] at h
  dsimp only at h
  split at h
  · cases h
  split at h
  · cases h
  next h4 =>
    injection h with e1 e2 e3
    have hN := hU.N a (Classical.byContradiction h1)
    have hR := hU.R a
    subst e2
    subst e3
    exact ⟨by omega, by omega, by omega, by omega⟩
theorem wt.val_t5 {bs : List Int} {u i : Int → Int × Int × Int} (hU : wt.Uin bs u i) {w0 w : World} {g : Nat} {A : Option Addr} {c : Nat} {a l : Int} (hb : Below w0.heap.size w0 w) (hg : w0.heap.size ≤ g) (hB : wt.Blk w g A bs.length c a l) (hC : (Kd.int .u8).C w A bs.length bs) (hc : bs.length ≤ c) (within : Int) (hw : (within == 8) = false) (ha0 : 0 ≤ a) (ha1 : a < (bs.length : Int)) (hl0 : 1 ≤ l) (hl1 : l ≤ 2048) (ht : rd bs a = 5) (he : (u (a + 1)).2.2 = 0) (hn : (u (a + 1)).1 ≤ (l - 1) / 1) (hwi : 0 ≤ within ∧ within ≤ 8) (f : Int → Int → wt.R3 S25) (hfb : ∀ (a l : Int) (x : S25) (a2 l2 : Int), 0 ≤ a → a ≤ (bs.length : Int) → 0 ≤ l → l ≤ 2048 → f a l = .ok x a2 l2 → 0 ≤ a2 ∧ a2 ≤ (bs.length : Int) ∧ 0 ≤ l2 ∧ l2 ≤ 2048) (IH : ∀ (W : World) (a l : Int), Below w0.heap.size w0 W → wt.Blk W g A bs.length c a l → (Kd.int .u8).C W A bs.length bs → 0 ≤ a → a ≤ bs.length → 0 ≤ l → l ≤ 2048 → Calls Try.prog 38 #[.pointer (some ⟨g, 0, none⟩), .int .i64 (within + 1)] W (wt.GotV (f a l) w0 W g A bs.length c)) :
    Calls Try.prog 38 #[.pointer (some ⟨g, 0, none⟩), .int .i64 within] w (wt.GotV (wt.arrV (wt.arrL f (u (a + 1)).1.toNat [] (u (a + 1)).2.1 (l - 1))) w0 w g A bs.length c) := by
  have HB := Aside0.mk hB
  have HC := Aside0.mk hC
  have HCC := Aside0.mk hc
  have HBB := Aside0.mk hb
  have HGG := Aside0.mk hg
  have HLL := Aside0.mk hU.L
  have HUU := Aside0.mk hU
  have hgl : g < w.heap.size := blk_lt hB
  have hu25 := Try.underlying25
  obtain ⟨a, rfl⟩ := Int.eq_ofNat_of_zero_le ha0
  have t0 : ((a : Int) == (bs.length : Int)) = false := beq_eq_false_iff_ne.2 (by omega)
  have t1 : (a = bs.length) = False := eq_false (by omega)
  have t2 : decide (a = bs.length) = false := decide_eq_false (by omega)
  have t3 : (a : Int) < (bs.length : Int) := ha1
  have t4 : a < bs.length := by omega
  have t5 : decide (a < bs.length) = true := decide_eq_true t4
  have hwr := Aside0.mk (show wrap64 ((a : Int) + 1) = (a : Int) + 1 by have := hU.L; unfold wrap64; omega)
  have HL0 := Aside0.mk hl0
  have HL1 := Aside0.mk hl1
  obtain ⟨ad, hA, hx0⟩ := Kd.at_int hC (a : Int) (by omega) ha1
  subst hA
  rw [Int.toNat_natCast, ht] at hx0
  have HBW := Aside0.mk ((Below.refl w.heap.size w).alloc (Nat.le_refl _) (.cells #[.int .i64 0, .int .i64 0, .string ⟨#[]⟩, .slice none 0 0, .slice none 0 0] 25))
  have L1 := Aside0.mk (show wt.Ly (w.alloc (.cells #[.int .i64 0, .int .i64 0, .string ⟨#[]⟩, .slice none 0 0, .slice none 0 0] 25)) g (some ad) bs.length c (a : Int) l (ad.add a) 5 w.heap.size #[.int .i64 0, .int .i64 0, .string ⟨#[]⟩, .slice none 0 0, .slice none 0 0] from ⟨HB.out.below HBW.out, (HBW.out.cell (World.block_lt_of_cell? w _ hx0)).trans hx0, by simpa using heap_alloc_new w _⟩)
  clear hx0
  have h0 := L1.out.blk.c0; have h1 := L1.out.blk.c1; have h2 := L1.out.blk.c2; have f1 := L1.out.blk.fz 1; have f2 := L1.out.blk.fz 2; have hx0 := L1.out.byt; have fr_ := blk_frozen L1.out.res 0
  have HF4 : ∀ W4, W4 = ((w.alloc (.cells #[.int .i64 0, .int .i64 0, .string ⟨#[]⟩, .slice none 0 0, .slice none 0 0] 25)).setCell ⟨g, 2, none⟩ (.int .i64 (l - 1))).setCell ⟨g, 1, none⟩ (.int .i64 ((a : Int) + 1)) → wt.Fr g w W4 ∧ Below w0.heap.size w0 W4 := by
    rintro _ rfl
    exact ⟨((wt.Fr.of_below HBW.out).trans (wt.Fr.set _ _ _ _)).trans (wt.Fr.set _ _ _ _), ((HBB.out.alloc HBB.out.size _).setCell hg _).setCell hg _⟩
  have HF4 := Aside0.mk HF4
  have hs0 : wrap64 ((a : Int) + 1) = (a : Int) + 1 := hwr.out
  have HCN := Aside0.mk (fun (W : World) (x1 : Below w0.heap.size w0 W) (x2 : wt.Blk W g (some ad) bs.length c ((a : Int) + 1) (l - 1)) (x3 : (Kd.int .u8).C W (some ad) bs.length bs) => wt.countY hU x1 hg x2 x3 hc (a : Int) 1 he (by omega) (by omega) (by omega) (by omega) hn)
  have hrR := hU.R ((a : Int) + 1)
  have hrN := hU.N ((a : Int) + 1) he
  obtain ⟨r1, r2, r3, hr⟩ : ∃ r1 r2 r3, u ((a : Int) + 1) = (r1, r2, r3) := ⟨_, _, _, rfl⟩
  rw [hr] at HCN hn hrR hrN ⊢
  dsimp only at HCN hn hrR hrN ⊢
  have HGL := Aside0.mk hgl
  have hr2 : 0 ≤ r2 ∧ r2 ≤ bs.length := ⟨Int.le_of_lt (Int.lt_of_le_of_lt hrN.1 hrN.2.1), hrN.2.2⟩
  have hr1 : 0 ≤ r1 := hrR.1
  obtain ⟨n, rfl⟩ := Int.eq_ofNat_of_zero_le hr1
  have hn2 : n ≤ 2048 := by rw [Int.ediv_one] at hn; omega
  have HN2 := Aside0.mk hn2
  have hwi2 : wrap64 (within + 1) = within + 1 := by unfold wrap64; omega
  rw [← hwi2] at IH
  clear hwi2
  have HIH := Aside0.mk IH
  have HFB := Aside0.mk hfb
  rw [Int.toNat_natCast]
  obtain ⟨T, hT⟩ : ∃ T, wt.arrL f n [] r2 (l - 1) = T := ⟨_, rfl⟩
  rw [hT]
  have HP0 := Aside0.mk (show wt.arrL f (n - 0) [] r2 (l - 1) = T ∧ ([] : List S25).length = 0 ∧ 0 ≤ n ∧ (0 ≤ r2 ∧ r2 ≤ bs.length ∧ 0 ≤ l - 1 ∧ l - 1 ≤ 2048) from ⟨hT, rfl, Nat.zero_le _, by omega⟩)
  clear hn hrR hrN he hr hr2 hr1 hT hn2 IH hfb hwi
  clear hU hb hg hB hC hc ha1 hl0 hl1 ha0 hgl
  go_enter Try.func38, Try.ntmps38
  go_wp2_with (first | (go_at_call 51; refine (wt.weighsY L1.out.blk 1 (a : Int) HL0.out HL1.out (by omega)).mono ?_; rintro e_ w3 ⟨rfl, hx⟩; have L3 := Aside0.mk (L1.out.fr (hx ▸ wt.Fr.set _ _ _ _) (hx ▸ L1.out.blk.set2 _)); have HX3 := Aside0.mk hx; clear hx; clear h0 h1 h2 f1 f2 hx0 fr_; have h0 := L3.out.blk.c0; have h1 := L3.out.blk.c1; have h2 := L3.out.blk.c2; have f1 := L3.out.blk.fz 1; have f2 := L3.out.blk.fz 2; have hx0 := L3.out.byt; have fr_ := blk_frozen L3.out.res 0) | ((with_reducible refine gate_store (p := 48) rfl ?_); go_must (refine store_event ?hg (t := 3) (p := 48) (v := .tmp 46) (w1 := w3.setCell ⟨g, 1, none⟩ (.int .i64 (wrap64 ((a : Int) + 1)))) ?ho ?hN ?hr ?_); (case ho => rfl); (case hN => rfl); (case hg => rfl); (case hr => first | (go_simp; done) | (go_simp; rfl)); intro w4 e4; rw [hwr.out] at e4; have L4 := Aside0.mk (L3.out.fr (e4 ▸ wt.Fr.set _ _ _ _) (e4 ▸ L3.out.blk.set1 _)); have HX4 := Aside0.mk e4; clear e4; have HFW := Aside0.mk (HF4.out _ (HX4.out.trans (by rw [HX3.out]))); clear h0 h1 h2 f1 f2 hx0 fr_; have h0 := L4.out.blk.c0; have h1 := L4.out.blk.c1; have h2 := L4.out.blk.c2; have f1 := L4.out.blk.fz 1; have f2 := L4.out.blk.fz 2; have hx0 := L4.out.byt; have fr_ := blk_frozen L4.out.res 0) | ((with_reducible refine gate_store (p := 10) rfl ?_); refine wt.store_res rfl rfl 10 _ rfl w4.heap.size rfl (.int .i64 4) (.int .i64 0) (.string ⟨#[]⟩) (.slice none 0 0) (.slice none 0 0) rfl (fun q hq => by simp at hq; rcases hq with rfl | rfl | rfl | rfl | rfl <;> rfl) _ rfl (by simpa using heap_alloc_new w4 _) ?_; intro w5 hres hgr; have HB5 := Aside0.mk (wt.own_res hgr); have L5 := Aside0.mk (L4.out.below HB5.out); have hv : w.heap.size < w4.heap.size := by { rw [HX4.out, HX3.out, Deep.nblk_setCell, Deep.nblk_setCell, Deep.nblk_alloc]; exact Nat.lt_succ_self _ }; have Q5 := Aside0.mk (show wt.LQ w0 w w5 g (some ad) bs.length c w4.heap.size ((a : Int) + 1) (l - 1) 4 (.slice none 0 0) (.slice none 0 0) [] [] from ⟨L5.out.blk, HFW.out.1.trans (wt.Fr.of_below HB5.out), below_then HFW.out.2 HFW.out.2.size HB5.out, hres, L5.out.res, Kd.R_nil _ _ _ _ _, Kd.R_nil _ _ _ _ _, hv, HGL.out, HGG.out⟩); clear hres hgr hv; clear h0 h1 h2 f1 f2 hx0 fr_; have h0 := L5.out.blk.c0; have h1 := L5.out.blk.c1; have h2 := L5.out.blk.c2; have f1 := L5.out.blk.fz 1; have f2 := L5.out.blk.fz 2; have hx0 := L5.out.byt; have fr_ := blk_frozen L5.out.res 0) | (go_at_call 53; refine (HCN.out _ Q5.out.bel Q5.out.blk (wt.bytes_fr HC.out HB.out Q5.out.fr)).mono ?_; rintro e_ w6 ⟨rfl, hx⟩; have Q6 := Aside0.mk (Q5.out.step hx); clear hx; clear h0 h1 h2 f1 f2 hx0 fr_))
  generalize w4.heap.size = vb at *
  go_loopw [115] (fun v115 wr => ∃ (j : Nat) (acc : List S25) (v3 : Value) (a' l' : Int), v115 = .int .i64 (j : Int) ∧ Aside0 (wt.arrL f (n - j) acc a' l' = T ∧ acc.length = j ∧ j ≤ n ∧ (0 ≤ a' ∧ a' ≤ bs.length ∧ 0 ≤ l' ∧ l' ≤ 2048)) ∧ Aside0 (wt.LQ w0 w wr g (some ad) bs.length c vb a' l' 4 v3 (.slice none 0 0) acc [])) (fun v115 _ => n - (intOf v115).toNat)
  case atStart => exact ⟨0, [], _, _, _, rfl, HP0, Q6⟩
  case round =>
    clear Q6 Q5 HP0 HB5 L5
    obtain ⟨j, acc, v3, a', l', rfl, HP, HL⟩ := hrel
    by_cases hlt : j < n
    · have i1 : decide ((j : Int) < (n : Int)) = true := decide_eq_true (by omega)
      have i2 : decide (j < n) = true := decide_eq_true hlt
      have i3 : (j < n) = True := eq_true hlt
      have HWR := Aside0.mk (show wrap64 ((j : Int) + 1) = (j : Int) + 1 by have := HN2.out; unfold wrap64; omega)
      have HM := Aside0.mk (wt.meas j n hlt HWR.out)
      have hq : n - j = (n - (j + 1)) + 1 := by omega
      have HQ := Aside0.mk hq
      have HJ := Aside0.mk (show j + 1 ≤ n by omega)
      clear hlt hq
      go_wp2
      refine start_ (n := 10) (S := fun w' => w'.cell? ⟨vb, 3, none⟩ = some v3) (ds := [9]) #[false, false, false, false, false, false, false, false, false, false] (by kernel_rfl) rfl rfl ((blk_cell (HL.out.below (below_drew (Below.refl _ _))).box 3).trans rfl) (fun hHeld => ?_)
      generalize hwd : wr.drew = wd at hHeld ⊢
      have QD := Aside0.mk (hwd ▸ HL.out.below (below_drew (Below.refl _ _)))
      clear hwd
      refine pure_ (i := 0) (N := some 117) (v := ?_) (a' := ?_) #[true, false, false, false, false, false, false, false, false, false] rfl rfl (by kernel_rfl) (fun _ _ _ h => h) (Or.inl ⟨by rfl, ?_⟩) ?_ ?_
      rotate_left
      · intro w'
        go_simp
        with_reducible rfl
      rotate_left
      · simp only [Act.put, List.setIfInBounds_toArray, List.set_cons_zero, List.set_cons_succ, i64_w, i32_w]
        rfl
      refine pure_ (i := 2) (N := some 119) (v := ?_) (a' := ?_) #[true, false, true, false, false, false, false, false, false, false] rfl rfl (by kernel_rfl) (fun _ _ _ h => h) (Or.inl ⟨by rfl, ?_⟩) ?_ ?_
      rotate_left
      · intro w'
        go_simp
        with_reducible rfl
      rotate_left
      · simp only [Act.put, List.setIfInBounds_toArray, List.set_cons_zero, List.set_cons_succ, i64_w, i32_w]
        rfl
      refine pure_ (i := 3) (N := some 120) (v := ?_) (a' := ?_) #[true, false, true, true, false, false, false, false, false, false] rfl rfl (by kernel_rfl) (fun _ _ _ h => h) (Or.inl ⟨by rfl, ?_⟩) ?_ ?_
      rotate_left
      · intro w'
        go_simp
        with_reducible rfl
      rotate_left
      · simp only [Act.put, List.setIfInBounds_toArray, List.set_cons_zero, List.set_cons_succ, i64_w, i32_w]
        rfl
      refine pure_ (i := 4) (N := some 121) (v := ?_) (a' := ?_) #[true, false, true, true, true, false, false, false, false, false] rfl rfl (by kernel_rfl) (fun _ _ _ h => h) (Or.inl ⟨by rfl, ?_⟩) ?_ ?_
      rotate_left
      · intro w'
        go_simp
        with_reducible rfl
      rotate_left
      · simp only [Act.put, List.setIfInBounds_toArray, List.set_cons_zero, List.set_cons_succ, i64_w, i32_w]
        rfl
      refine take_ (i := 1) (N := some 118) (v := ?_) (a' := ?_) #[true, true, true, true, true, false, false, false, false, false] rfl rfl (by kernel_rfl) (fun _ _ _ h => h) (Or.inl ⟨by rfl, ?_⟩) hHeld ?_ ?_
      rotate_left
      · intro w' s0
        go_simp
        with_reducible rfl
      rotate_left
      · simp only [Act.put, List.setIfInBounds_toArray, List.set_cons_zero, List.set_cons_succ, i64_w, i32_w]
        rfl
      refine one_ (i := 5) (N := some 122) #[true, true, true, true, true, true, false, false, false, false] rfl rfl (by kernel_rfl) (by decide) (fun K hK => ?_)
      refine wt.goesT Try.func38 (by kernel_rfl) rfl #[.pointer (some ⟨g, 0, none⟩), .int .i64 (wrap64 (within + 1))] (by rfl) rfl rfl (by (try simp only [List.map_toArray, List.map_cons, List.map_nil]); first | done | rfl) ?_
      refine (HIH.out _ _ _ QD.out.bel QD.out.blk (wt.bytes_fr HC.out HB.out QD.out.fr) HP.out.2.2.2.1 HP.out.2.2.2.2.1 HP.out.2.2.2.2.2.1 HP.out.2.2.2.2.2.2).mono ?_
      rintro e w7 hgot
      have hrem := HP.out.1
      rw [HQ.out] at hrem
      unfold wt.arrL at hrem
      rcases hfa : f a' l' with ⟨x, a2, l2⟩ | ⟨ee, pp⟩
      rotate_left
      · rw [hfa] at hgot hrem
        subst hrem
        exact Or.inr ⟨_, hgot.1, rfl, rfl, QD.out.fr.trans hgot.2.fr, hgot.2.bel⟩
      rw [hfa] at hgot hrem
      obtain ⟨⟨u3, u4, rfl, hr3, hr4⟩, hnx⟩ := hgot
      refine Or.inl ⟨_, rfl, ?_⟩
      have HREM := Aside0.mk hrem
      have HFA := Aside0.mk hfa
      have Q7 := Aside0.mk (QD.out.step hnx)
      have R3_ := Aside0.mk hr3
      have R4_ := Aside0.mk hr4
      have HSZ := Aside0.mk (show wd.heap.size ≤ w7.heap.size from hnx.fr.1)
      clear hrem hfa hnx hr3 hr4
      refine hK.out _ _ ((blk_cell Q7.out.box 3).trans rfl) (fun hHeld => ?_)
      clear hK K
      refine norm_ (a' := ?_) ?_ ?_
      rotate_left
      · show Act.put _ (some 122) _ = _
        simp only [Act.put, List.setIfInBounds_toArray, List.set_cons_zero, List.set_cons_succ, i64_w, i32_w]
        rfl
      refine one_ (i := 6) (N := some 123) #[true, true, true, true, true, true, true, false, false, false] rfl rfl (by kernel_rfl) (by decide) (fun K hK => ?_)
      refine value_ (w1 := ?_) (v := ?_) (by rfl) rfl ?_ ?_
      rotate_left 2
      · go_simp
        constructor
        · rfl
        · rfl
      refine hK.out _ _ ((blk_cell (blk_alloc Q7.out.box _) 3).trans rfl) (fun hHeld => ?_)
      clear hK K
      refine norm_ (a' := ?_) ?_ ?_
      rotate_left
      · show Act.put _ (some 123) _ = _
        simp only [Act.put, List.setIfInBounds_toArray, List.set_cons_zero, List.set_cons_succ, i64_w, i32_w]
        rfl
      refine one_ (i := 7) (N := some 124) #[true, true, true, true, true, true, true, true, false, false] rfl rfl (by kernel_rfl) (by decide) (fun K hK => ?_)
      refine Kd.R_append_step k25 (w0 := w0) w0.heap.size (by rfl) (.tmp 118) (.tmp 123) 22 25 (.agg #[(.int .i64 0), (.int .i64 0), (.string ⟨#[]⟩), (.slice none 0 0), (.slice none 0 0)]) 80 rfl Try.underlying22 info25 rfl (by decide) (by omega) v3 acc x [.int .i64 x.f0, .int .i64 x.f1, .string x.f2, u3, u4] (fun k => vb < k ∧ some k ≠ (.slice none 0 0 : Value).ownBlock) (fun k => wd.heap.size ≤ k) rfl rfl ?aP ?aK ?aF ?aO ?aB ?aS ?aL ?_
      (case aP => exact k25_mkM _ _ _ x R3_.out R4_.out)
      (case aK => exact fun k hk => ⟨⟨Nat.lt_of_lt_of_le QD.out.lt hk, fun e => absurd (Kd.R_lt QD.out.keys k e.symm) (by omega)⟩, fun e => absurd (Kd.R_lt QD.out.row k e.symm) (by omega)⟩)
      (case aF => exact fun k hk => ⟨Nat.lt_of_lt_of_le Q7.out.lt hk, fun e => absurd (Kd.R_lt Q7.out.keys k e.symm) (by omega)⟩)
      (case aO => exact Q7.out.row)
      (case aB => exact Q7.out.bel)
      (case aS => exact Q7.out.bel.size)
      (case aL => have e1 := HP.out.2.1; have e2 := HJ.out; have e3 := HN2.out; omega)
      intro v5 w8_ ho hb hg2 hat
      obtain ⟨A5, c5, e5⟩ := Kd.R_slice ho
      subst e5
      have Q9 := Aside0.mk (Q7.out.app3 ho hb hg2)
      have B8 := Aside0.mk (blk_grown Q7.out.box hg2 (fun e => absurd (Q7.out.row.1 vb e.symm).1 (Nat.lt_irrefl _)))
      have fv8 := blk_frozen B8.out 3
      clear ho hb hg2 hat
      refine hK.out _ _ ((blk_cell B8.out 3).trans rfl) (fun hHeld => ?_)
      clear hK K
      refine norm_ (a' := ?_) ?_ ?_
      rotate_left
      · show Act.put _ (some 124) _ = _
        simp only [Act.put, List.setIfInBounds_toArray, List.set_cons_zero, List.set_cons_succ, i64_w, i32_w]
        rfl
      refine pure_ (i := 8) (N := some 125) (v := ?_) (a' := ?_) #[true, true, true, true, true, true, true, true, true, false] rfl rfl (by kernel_rfl) (fun _ _ _ h => h) (Or.inl ⟨by rfl, ?_⟩) ?_ ?_
      rotate_left
      · intro w'
        go_simp
        with_reducible rfl
      rotate_left
      · simp only [Act.put, List.setIfInBounds_toArray, List.set_cons_zero, List.set_cons_succ, i64_w, i32_w]
        rfl
      refine last_ (i := 9) (N := none) #[true, true, true, true, true, true, true, true, true, true] rfl rfl (by kernel_rfl) (by decide) (fun K hK => ?_)
      refine skip_ (w1 := ?_) (by rfl) rfl ?_ ?_
      rotate_left
      · go_simp
        rfl
      refine hK.out _ _ ?_
      clear hK K
      refine done_ (by kernel_rfl) ?_
      go_wp2
      rw [show (acc ++ [x]).length = acc.length + 1 from by simp] at Q9
      go_roundw
      case rel => exact ⟨j + 1, acc ++ [x], _, a2, l2, by rw [HWR.out]; rfl, ⟨HREM.out, by rw [List.length_append, HP.out.2.1]; rfl, HJ.out, HFB.out _ _ _ _ _ HP.out.2.2.2.1 HP.out.2.2.2.2.1 HP.out.2.2.2.2.2.1 HP.out.2.2.2.2.2.2 HFA.out⟩, Q9⟩
      case measure => exact HM.out
    · have i1 : decide ((j : Int) < (n : Int)) = false := decide_eq_false (by omega)
      have i2 : decide (j < n) = false := decide_eq_false hlt
      have i3 : (j < n) = False := eq_false hlt
      have hjn : n - j = 0 := by omega
      have hT := HP.out.1
      rw [hjn] at hT
      have hT2 : T = .ok acc a' l' := hT.symm
      subst hT2
      clear hT hjn hlt
      have hz0 : wr.cell? ⟨vb, 0, none⟩ = some (.int .i64 4) := (blk_cell HL.out.box 0).trans rfl
      have hz1 : wr.cell? ⟨vb, 1, none⟩ = some (.int .i64 0) := (blk_cell HL.out.box 1).trans rfl
      have hz2 : wr.cell? ⟨vb, 2, none⟩ = some (.string ⟨#[]⟩) := (blk_cell HL.out.box 2).trans rfl
      have hz3 : wr.cell? ⟨vb, 3, none⟩ = some v3 := (blk_cell HL.out.box 3).trans rfl
      have hz4 : wr.cell? ⟨vb, 4, none⟩ = some (.slice none 0 0) := (blk_cell HL.out.box 4).trans rfl
      have hv1 : v3.oneCell' = true := by obtain ⟨A_, c_, e_⟩ := Kd.R_slice HL.out.row; subst e_; rfl
      go_wp2_with (first | ((with_reducible refine gate_store (p := 4) rfl ?_); refine wt.store_res rfl rfl 4 _ rfl w.heap.size rfl (.int .i64 4) (.int .i64 0) (.string ⟨#[]⟩) v3 (.slice none 0 0) rfl (fun q hq => by simp at hq; rcases hq with rfl | rfl | rfl | rfl | rfl <;> first | rfl | exact hv1) _ rfl HL.out.res ?_; intro w5 hres hgr; have HRES := Aside0.mk hres; have HGR := Aside0.mk hgr; clear hgr hres))
      go_wp2
      refine bodyPost_ret (results_cell_row rfl _ _ w.heap.size 25 _ (0, 0) _ rfl HRES.out Try.underlying25 rfl (by kernel_rfl)) rfl ?_
      have e1 := HL.out.hgl; have e2 := HL.out.hvb
      exact ⟨⟨_, _, rfl, Kd.R_mono (Kd.R_grown HL.out.row HGR.out (fun k hk e => by have := Option.some.inj e; have := hk.1; omega)) (fun k hk => by have := hk.1; omega), Kd.R_nil _ _ _ _ _⟩, wt.fin_nx HL.out.fr HL.out.blk (by omega) HGR.out (Nat.le_refl _) HBB.out.size HL.out.bel⟩
theorem wt.val_t6 {bs : List Int} {u i : Int → Int × Int × Int} (hU : wt.Uin bs u i) {w0 w : World} {g : Nat} {A : Option Addr} {c : Nat} {a l : Int} (hb : Below w0.heap.size w0 w) (hg : w0.heap.size ≤ g) (hB : wt.Blk w g A bs.length c a l) (hC : (Kd.int .u8).C w A bs.length bs) (hc : bs.length ≤ c) (within : Int) (hw : (within == 8) = false) (ha0 : 0 ≤ a) (ha1 : a < (bs.length : Int)) (hl0 : 1 ≤ l) (hl1 : l ≤ 2048) (ht : rd bs a = 6) (he : (u (a + 1)).2.2 = 0) (hn : (u (a + 1)).1 ≤ (l - 1) / 2) (hwi : 0 ≤ within ∧ within ≤ 8) (f : Int → Int → wt.R3 S25) (hfb : ∀ (a l : Int) (x : S25) (a2 l2 : Int), 0 ≤ a → a ≤ (bs.length : Int) → 0 ≤ l → l ≤ 2048 → f a l = .ok x a2 l2 → 0 ≤ a2 ∧ a2 ≤ (bs.length : Int) ∧ 0 ≤ l2 ∧ l2 ≤ 2048) (IH : ∀ (W : World) (a l : Int), Below w0.heap.size w0 W → wt.Blk W g A bs.length c a l → (Kd.int .u8).C W A bs.length bs → 0 ≤ a → a ≤ bs.length → 0 ≤ l → l ≤ 2048 → Calls Try.prog 38 #[.pointer (some ⟨g, 0, none⟩), .int .i64 (within + 1)] W (wt.GotV (f a l) w0 W g A bs.length c)) :
    Calls Try.prog 38 #[.pointer (some ⟨g, 0, none⟩), .int .i64 within] w (wt.GotV (wt.recV (wt.recL bs u f (u (a + 1)).1.toNat [] [] (u (a + 1)).2.1 (l - 1))) w0 w g A bs.length c) := by
  have HB := Aside0.mk hB
  have HC := Aside0.mk hC
  have HCC := Aside0.mk hc
  have HBB := Aside0.mk hb
  have HGG := Aside0.mk hg
  have HLL := Aside0.mk hU.L
  have HUU := Aside0.mk hU
  have hgl : g < w.heap.size := blk_lt hB
  have hu25 := Try.underlying25
  obtain ⟨a, rfl⟩ := Int.eq_ofNat_of_zero_le ha0
  have t0 : ((a : Int) == (bs.length : Int)) = false := beq_eq_false_iff_ne.2 (by omega)
  have t1 : (a = bs.length) = False := eq_false (by omega)
  have t2 : decide (a = bs.length) = false := decide_eq_false (by omega)
  have t3 : (a : Int) < (bs.length : Int) := ha1
  have t4 : a < bs.length := by omega
  have t5 : decide (a < bs.length) = true := decide_eq_true t4
  have hwr := Aside0.mk (show wrap64 ((a : Int) + 1) = (a : Int) + 1 by have := hU.L; unfold wrap64; omega)
  have HL0 := Aside0.mk hl0
  have HL1 := Aside0.mk hl1
  obtain ⟨ad, hA, hx0⟩ := Kd.at_int hC (a : Int) (by omega) ha1
  subst hA
  rw [Int.toNat_natCast, ht] at hx0
  have HBW := Aside0.mk ((Below.refl w.heap.size w).alloc (Nat.le_refl _) (.cells #[.int .i64 0, .int .i64 0, .string ⟨#[]⟩, .slice none 0 0, .slice none 0 0] 25))
  have L1 := Aside0.mk (show wt.Ly (w.alloc (.cells #[.int .i64 0, .int .i64 0, .string ⟨#[]⟩, .slice none 0 0, .slice none 0 0] 25)) g (some ad) bs.length c (a : Int) l (ad.add a) 6 w.heap.size #[.int .i64 0, .int .i64 0, .string ⟨#[]⟩, .slice none 0 0, .slice none 0 0] from ⟨HB.out.below HBW.out, (HBW.out.cell (World.block_lt_of_cell? w _ hx0)).trans hx0, by simpa using heap_alloc_new w _⟩)
  clear hx0
  have h0 := L1.out.blk.c0; have h1 := L1.out.blk.c1; have h2 := L1.out.blk.c2; have f1 := L1.out.blk.fz 1; have f2 := L1.out.blk.fz 2; have hx0 := L1.out.byt; have fr_ := blk_frozen L1.out.res 0
  have HF4 : ∀ W4, W4 = ((w.alloc (.cells #[.int .i64 0, .int .i64 0, .string ⟨#[]⟩, .slice none 0 0, .slice none 0 0] 25)).setCell ⟨g, 2, none⟩ (.int .i64 (l - 1))).setCell ⟨g, 1, none⟩ (.int .i64 ((a : Int) + 1)) → wt.Fr g w W4 ∧ Below w0.heap.size w0 W4 := by
    rintro _ rfl
    exact ⟨((wt.Fr.of_below HBW.out).trans (wt.Fr.set _ _ _ _)).trans (wt.Fr.set _ _ _ _), ((HBB.out.alloc HBB.out.size _).setCell hg _).setCell hg _⟩
  have HF4 := Aside0.mk HF4
  have hs0 : wrap64 ((a : Int) + 1) = (a : Int) + 1 := hwr.out
  have HCN := Aside0.mk (fun (W : World) (x1 : Below w0.heap.size w0 W) (x2 : wt.Blk W g (some ad) bs.length c ((a : Int) + 1) (l - 1)) (x3 : (Kd.int .u8).C W (some ad) bs.length bs) => wt.countY hU x1 hg x2 x3 hc (a : Int) 2 he (by omega) (by omega) (by omega) (by omega) hn)
  have hrR := hU.R ((a : Int) + 1)
  have hrN := hU.N ((a : Int) + 1) he
  obtain ⟨r1, r2, r3, hr⟩ : ∃ r1 r2 r3, u ((a : Int) + 1) = (r1, r2, r3) := ⟨_, _, _, rfl⟩
  rw [hr] at HCN hn hrR hrN ⊢
  dsimp only at HCN hn hrR hrN ⊢
  have HGL := Aside0.mk hgl
  have hr2 : 0 ≤ r2 ∧ r2 ≤ bs.length := ⟨Int.le_of_lt (Int.lt_of_le_of_lt hrN.1 hrN.2.1), hrN.2.2⟩
  have hr1 : 0 ≤ r1 := hrR.1
  obtain ⟨n, rfl⟩ := Int.eq_ofNat_of_zero_le hr1
  have hn2 : n ≤ 2048 := by have := Int.ediv_mul_le (l - 1) (show (2 : Int) ≠ 0 by omega); omega
  have HN2 := Aside0.mk hn2
  have hwi2 : wrap64 (within + 1) = within + 1 := by unfold wrap64; omega
  rw [← hwi2] at IH
  clear hwi2
  have HIH := Aside0.mk IH
  have HFB := Aside0.mk hfb
  rw [Int.toNat_natCast]
  obtain ⟨T, hT⟩ : ∃ T, wt.recL bs u f n [] [] r2 (l - 1) = T := ⟨_, rfl⟩
  rw [hT]
  have HP0 := Aside0.mk (show wt.recL bs u f (n - 0) [] [] r2 (l - 1) = T ∧ (([] : List S25).length = 0 ∧ ([] : List ByteArray).length = 0) ∧ 0 ≤ n ∧ (0 ≤ r2 ∧ r2 ≤ bs.length ∧ 0 ≤ l - 1 ∧ l - 1 ≤ 2048) from ⟨hT, ⟨rfl, rfl⟩, Nat.zero_le _, by omega⟩)
  clear hn hrR hrN he hr hr2 hr1 hT hn2 IH hfb hwi
  clear hU hb hg hB hC hc ha1 hl0 hl1 ha0 hgl
  go_enter Try.func38, Try.ntmps38
  go_wp2_with (first | (go_at_call 51; refine (wt.weighsY L1.out.blk 1 (a : Int) HL0.out HL1.out (by omega)).mono ?_; rintro e_ w3 ⟨rfl, hx⟩; have L3 := Aside0.mk (L1.out.fr (hx ▸ wt.Fr.set _ _ _ _) (hx ▸ L1.out.blk.set2 _)); have HX3 := Aside0.mk hx; clear hx; clear h0 h1 h2 f1 f2 hx0 fr_; have h0 := L3.out.blk.c0; have h1 := L3.out.blk.c1; have h2 := L3.out.blk.c2; have f1 := L3.out.blk.fz 1; have f2 := L3.out.blk.fz 2; have hx0 := L3.out.byt; have fr_ := blk_frozen L3.out.res 0) | ((with_reducible refine gate_store (p := 48) rfl ?_); go_must (refine store_event ?hg (t := 3) (p := 48) (v := .tmp 46) (w1 := w3.setCell ⟨g, 1, none⟩ (.int .i64 (wrap64 ((a : Int) + 1)))) ?ho ?hN ?hr ?_); (case ho => rfl); (case hN => rfl); (case hg => rfl); (case hr => first | (go_simp; done) | (go_simp; rfl)); intro w4 e4; rw [hwr.out] at e4; have L4 := Aside0.mk (L3.out.fr (e4 ▸ wt.Fr.set _ _ _ _) (e4 ▸ L3.out.blk.set1 _)); have HX4 := Aside0.mk e4; clear e4; have HFW := Aside0.mk (HF4.out _ (HX4.out.trans (by rw [HX3.out]))); clear h0 h1 h2 f1 f2 hx0 fr_; have h0 := L4.out.blk.c0; have h1 := L4.out.blk.c1; have h2 := L4.out.blk.c2; have f1 := L4.out.blk.fz 1; have f2 := L4.out.blk.fz 2; have hx0 := L4.out.byt; have fr_ := blk_frozen L4.out.res 0) | ((with_reducible refine gate_store (p := 11) rfl ?_); refine wt.store_res rfl rfl 11 _ rfl w4.heap.size rfl (.int .i64 5) (.int .i64 0) (.string ⟨#[]⟩) (.slice none 0 0) (.slice none 0 0) rfl (fun q hq => by simp at hq; rcases hq with rfl | rfl | rfl | rfl | rfl <;> rfl) _ rfl (by simpa using heap_alloc_new w4 _) ?_; intro w5 hres hgr; have HB5 := Aside0.mk (wt.own_res hgr); have L5 := Aside0.mk (L4.out.below HB5.out); have hv : w.heap.size < w4.heap.size := by { rw [HX4.out, HX3.out, Deep.nblk_setCell, Deep.nblk_setCell, Deep.nblk_alloc]; exact Nat.lt_succ_self _ }; have Q5 := Aside0.mk (show wt.LQ w0 w w5 g (some ad) bs.length c w4.heap.size ((a : Int) + 1) (l - 1) 5 (.slice none 0 0) (.slice none 0 0) [] [] from ⟨L5.out.blk, HFW.out.1.trans (wt.Fr.of_below HB5.out), below_then HFW.out.2 HFW.out.2.size HB5.out, hres, L5.out.res, Kd.R_nil _ _ _ _ _, Kd.R_nil _ _ _ _ _, hv, HGL.out, HGG.out⟩); clear hres hgr hv; clear h0 h1 h2 f1 f2 hx0 fr_; have h0 := L5.out.blk.c0; have h1 := L5.out.blk.c1; have h2 := L5.out.blk.c2; have f1 := L5.out.blk.fz 1; have f2 := L5.out.blk.fz 2; have hx0 := L5.out.byt; have fr_ := blk_frozen L5.out.res 0) | (go_at_call 53; refine (HCN.out _ Q5.out.bel Q5.out.blk (wt.bytes_fr HC.out HB.out Q5.out.fr)).mono ?_; rintro e_ w6 ⟨rfl, hx⟩; have Q6 := Aside0.mk (Q5.out.step hx); clear hx; clear h0 h1 h2 f1 f2 hx0 fr_))
  generalize w4.heap.size = vb at *
  go_loopw [134] (fun v134 wr => ∃ (j : Nat) (acc : List S25) (ks : List ByteArray) (v3 v4 : Value) (a' l' : Int), v134 = .int .i64 (j : Int) ∧ Aside0 (wt.recL bs u f (n - j) ks acc a' l' = T ∧ (acc.length = j ∧ ks.length = j) ∧ j ≤ n ∧ (0 ≤ a' ∧ a' ≤ bs.length ∧ 0 ≤ l' ∧ l' ≤ 2048)) ∧ Aside0 (wt.LQ w0 w wr g (some ad) bs.length c vb a' l' 5 v3 v4 acc ks)) (fun v134 _ => n - (intOf v134).toNat)
  case atStart => exact ⟨0, [], [], _, _, _, _, rfl, HP0, Q6⟩
  case round =>
    clear Q6 Q5 HP0 HB5 L5
    obtain ⟨j, acc, ks, v3, v4, a', l', rfl, HP, HL⟩ := hrel
    obtain ⟨A4, c4, e4⟩ := Kd.R_slice HL.out.keys
    subst e4
    by_cases hlt : j < n
    · have i1 : decide ((j : Int) < (n : Int)) = true := decide_eq_true (by omega)
      have i2 : decide (j < n) = true := decide_eq_true hlt
      have i3 : (j < n) = True := eq_true hlt
      have HWR := Aside0.mk (show wrap64 ((j : Int) + 1) = (j : Int) + 1 by have := HN2.out; unfold wrap64; omega)
      have HM := Aside0.mk (wt.meas j n hlt HWR.out)
      have hq : n - j = (n - (j + 1)) + 1 := by omega
      have HQ := Aside0.mk hq
      have HJ := Aside0.mk (show j + 1 ≤ n by omega)
      clear hlt hq
      go_wp2
      refine start_ (n := 10) (S := fun w' => w'.cell? ⟨vb, 4, none⟩ = some (.slice A4 ks.length c4)) (ds := [9]) #[false, false, false, false, false, false, false, false, false, false] (by kernel_rfl) rfl rfl ((blk_cell (HL.out.below (below_drew (Below.refl _ _))).box 4).trans rfl) (fun hHeld => ?_)
      generalize hwd : wr.drew = wd at hHeld ⊢
      have QD := Aside0.mk (hwd ▸ HL.out.below (below_drew (Below.refl _ _)))
      clear hwd
      refine pure_ (i := 0) (N := some 136) (v := ?_) (a' := ?_) #[true, false, false, false, false, false, false, false, false, false] rfl rfl (by kernel_rfl) (fun _ _ _ h => h) (Or.inl ⟨by rfl, ?_⟩) ?_ ?_
      rotate_left
      · intro w'
        go_simp
        with_reducible rfl
      rotate_left
      · simp only [Act.put, List.setIfInBounds_toArray, List.set_cons_zero, List.set_cons_succ, i64_w, i32_w]
        rfl
      refine pure_ (i := 2) (N := some 138) (v := ?_) (a' := ?_) #[true, false, true, false, false, false, false, false, false, false] rfl rfl (by kernel_rfl) (fun _ _ _ h => h) (Or.inl ⟨by rfl, ?_⟩) ?_ ?_
      rotate_left
      · intro w'
        go_simp
        with_reducible rfl
      rotate_left
      · simp only [Act.put, List.setIfInBounds_toArray, List.set_cons_zero, List.set_cons_succ, i64_w, i32_w]
        rfl
      refine pure_ (i := 3) (N := some 139) (v := ?_) (a' := ?_) #[true, false, true, true, false, false, false, false, false, false] rfl rfl (by kernel_rfl) (fun _ _ _ h => h) (Or.inl ⟨by rfl, ?_⟩) ?_ ?_
      rotate_left
      · intro w'
        go_simp
        with_reducible rfl
      rotate_left
      · simp only [Act.put, List.setIfInBounds_toArray, List.set_cons_zero, List.set_cons_succ, i64_w, i32_w]
        rfl
      refine take_ (i := 1) (N := some 137) (v := ?_) (a' := ?_) #[true, true, true, true, false, false, false, false, false, false] rfl rfl (by kernel_rfl) (fun _ _ _ h => h) (Or.inl ⟨by rfl, ?_⟩) hHeld ?_ ?_
      rotate_left
      · intro w' s0
        go_simp
        with_reducible rfl
      rotate_left
      · simp only [Act.put, List.setIfInBounds_toArray, List.set_cons_zero, List.set_cons_succ, i64_w, i32_w]
        rfl
      refine take_ (i := 4) (N := some 140) (v := ?_) (a' := ?_) #[true, true, true, true, true, false, false, false, false, false] rfl rfl (by kernel_rfl) (fun _ _ _ h => h) (Or.inl ⟨by rfl, ?_⟩) hHeld ?_ ?_
      rotate_left
      · intro w' s0
        go_simp
        with_reducible rfl
      rotate_left
      · simp only [Act.put, List.setIfInBounds_toArray, List.set_cons_zero, List.set_cons_succ, i64_w, i32_w]
        rfl
      refine one_ (i := 5) (N := some 141) #[true, true, true, true, true, true, false, false, false, false] rfl rfl (by kernel_rfl) (by decide) (fun K hK => ?_)
      refine wt.goesT Try.func55 (by kernel_rfl) rfl #[.pointer (some ⟨g, 0, none⟩), .slice A4 ks.length c4] (by rfl) rfl rfl (by (try simp only [List.map_toArray, List.map_cons, List.map_nil]); first | done | rfl) ?_
      refine (wt.key1 HUU.out QD.out.bel HGG.out QD.out.blk (wt.bytes_fr HC.out HB.out QD.out.fr) HCC.out A4 c4 ks (Kd.R_reads' QD.out.keys).2.2 HP.out.2.2.2.2.2.1 HP.out.2.2.2.2.2.2 (Kd.R_reads' QD.out.keys).2.1 (by have e1 := HP.out.2.1.2; have e2 := HP.out.2.2.1; have e3 := HN2.out; omega)).mono ?_
      rintro e w7 hgot
      have hrem := HP.out.1
      rw [HQ.out] at hrem
      unfold wt.recL at hrem
      rcases hka : wt.keyS bs u ks a' l' with ⟨kk, ak, lk⟩ | ⟨ee, pp⟩
      rotate_left
      · rw [hka] at hgot hrem
        subst hrem
        exact Or.inr ⟨_, hgot.1, rfl, rfl, QD.out.fr.trans hgot.2.fr, hgot.2.bel⟩
      rw [hka] at hgot hrem
      obtain ⟨rfl, hnx⟩ := hgot
      refine Or.inl ⟨_, rfl, ?_⟩
      have HREM1 := Aside0.mk hrem
      have HBK := Aside0.mk (wt.keyS_b HUU.out HP.out.2.2.2.2.2 hka)
      have Q7 := Aside0.mk (QD.out.step hnx)
      clear hrem hka hnx
      refine hK.out _ _ ((blk_cell Q7.out.box 4).trans rfl) (fun hHeld => ?_)
      clear hK K
      refine norm_ (a' := ?_) ?_ ?_
      rotate_left
      · show Act.put _ (some 141) _ = _
        simp only [Act.put, List.setIfInBounds_toArray, List.set_cons_zero, List.set_cons_succ, i64_w, i32_w]
        rfl
      refine one_ (i := 6) (N := some 142) #[true, true, true, true, true, true, true, false, false, false] rfl rfl (by kernel_rfl) (by decide) (fun K hK => ?_)
      refine value_ (w1 := ?_) (v := ?_) (by rfl) rfl ?_ ?_
      rotate_left 2
      · go_simp
        constructor
        · rfl
        · rfl
      refine hK.out _ _ ((blk_cell (blk_alloc Q7.out.box _) 4).trans rfl) (fun hHeld => ?_)
      clear hK K
      refine norm_ (a' := ?_) ?_ ?_
      rotate_left
      · show Act.put _ (some 142) _ = _
        simp only [Act.put, List.setIfInBounds_toArray, List.set_cons_zero, List.set_cons_succ, i64_w, i32_w]
        rfl
      refine one_ (i := 7) (N := some 143) #[true, true, true, true, true, true, true, true, false, false] rfl rfl (by kernel_rfl) (by decide) (fun K hK => ?_)
      refine Kd.R_append_step Kd.string (w0 := w0) w0.heap.size (by rfl) (.tmp 137) (.tmp 142) 23 9 (.string ⟨#[]⟩) 16 rfl Try.underlying23 info9 rfl (by decide) (by omega) (.slice A4 ks.length c4) ks kk [.string kk] (fun k => vb < k) (fun _ => False) rfl rfl rfl (fun _ h => h.elim) ?aF ?aO ?aB ?aS ?aL ?_
      (case aF => exact fun k hk => Nat.lt_of_lt_of_le Q7.out.lt hk)
      (case aO => exact Q7.out.keys)
      (case aB => exact Q7.out.bel)
      (case aS => exact Q7.out.bel.size)
      (case aL => have e1 := HP.out.2.1; have e2 := HJ.out; have e3 := HN2.out; omega)
      intro v6 w8 ho hb hg2 hat
      obtain ⟨A6, c6, e6⟩ := Kd.R_slice ho
      subst e6
      have Q8 := Aside0.mk (Q7.out.app4 ho hb hg2 hat)
      have B8_ := Aside0.mk (blk_grown Q7.out.box hg2 (fun e => absurd (Q7.out.keys.1 vb e.symm) (Nat.lt_irrefl _)))
      have fv8_ := blk_frozen B8_.out 4
      clear ho hb hg2 hat Q7 QD
      refine hK.out _ _ ((blk_cell B8_.out 4).trans rfl) (fun hHeld => ?_)
      clear hK K
      refine norm_ (a' := ?_) ?_ ?_
      rotate_left
      · show Act.put _ (some 143) _ = _
        simp only [Act.put, List.setIfInBounds_toArray, List.set_cons_zero, List.set_cons_succ, i64_w, i32_w]
        rfl
      refine pure_ (i := 8) (N := some 144) (v := ?_) (a' := ?_) #[true, true, true, true, true, true, true, true, true, false] rfl rfl (by kernel_rfl) (fun _ _ _ h => h) (Or.inl ⟨by rfl, ?_⟩) ?_ ?_
      rotate_left
      · intro w'
        go_simp
        with_reducible rfl
      rotate_left
      · simp only [Act.put, List.setIfInBounds_toArray, List.set_cons_zero, List.set_cons_succ, i64_w, i32_w]
        rfl
      refine last_ (i := 9) (N := none) #[true, true, true, true, true, true, true, true, true, true] rfl rfl (by kernel_rfl) (by decide) (fun K hK => ?_)
      refine skip_ (w1 := ?_) (by rfl) rfl ?_ ?_
      rotate_left
      · go_simp
        rfl
      refine hK.out _ _ ?_
      clear hK K
      refine done_ (by kernel_rfl) ?_
      rw [show (ks ++ [kk]).length = ks.length + 1 from by simp] at Q8
      generalize hw9 : w8.setCell ⟨vb, 4, none⟩ (.slice A6 (ks.length + 1) c6) = w9 at Q8 ⊢
      clear hw9
      go_wp2
      refine start_ (n := 10) (S := fun w' => w'.cell? ⟨vb, 3, none⟩ = some v3) (ds := [9]) #[false, false, false, false, false, false, false, false, false, false] (by kernel_rfl) rfl rfl ((blk_cell (Q8.out.below (below_drew (Below.refl _ _))).box 3).trans rfl) (fun hHeld => ?_)
      generalize hwd : w9.drew = wd at hHeld ⊢
      have QD := Aside0.mk (hwd ▸ Q8.out.below (below_drew (Below.refl _ _)))
      clear hwd
      refine pure_ (i := 0) (N := some 145) (v := ?_) (a' := ?_) #[true, false, false, false, false, false, false, false, false, false] rfl rfl (by kernel_rfl) (fun _ _ _ h => h) (Or.inl ⟨by rfl, ?_⟩) ?_ ?_
      rotate_left
      · intro w'
        go_simp
        with_reducible rfl
      rotate_left
      · simp only [Act.put, List.setIfInBounds_toArray, List.set_cons_zero, List.set_cons_succ, i64_w, i32_w]
        rfl
      refine pure_ (i := 2) (N := some 147) (v := ?_) (a' := ?_) #[true, false, true, false, false, false, false, false, false, false] rfl rfl (by kernel_rfl) (fun _ _ _ h => h) (Or.inl ⟨by rfl, ?_⟩) ?_ ?_
      rotate_left
      · intro w'
        go_simp
        with_reducible rfl
      rotate_left
      · simp only [Act.put, List.setIfInBounds_toArray, List.set_cons_zero, List.set_cons_succ, i64_w, i32_w]
        rfl
      refine pure_ (i := 3) (N := some 148) (v := ?_) (a' := ?_) #[true, false, true, true, false, false, false, false, false, false] rfl rfl (by kernel_rfl) (fun _ _ _ h => h) (Or.inl ⟨by rfl, ?_⟩) ?_ ?_
      rotate_left
      · intro w'
        go_simp
        with_reducible rfl
      rotate_left
      · simp only [Act.put, List.setIfInBounds_toArray, List.set_cons_zero, List.set_cons_succ, i64_w, i32_w]
        rfl
      refine pure_ (i := 4) (N := some 149) (v := ?_) (a' := ?_) #[true, false, true, true, true, false, false, false, false, false] rfl rfl (by kernel_rfl) (fun _ _ _ h => h) (Or.inl ⟨by rfl, ?_⟩) ?_ ?_
      rotate_left
      · intro w'
        go_simp
        with_reducible rfl
      rotate_left
      · simp only [Act.put, List.setIfInBounds_toArray, List.set_cons_zero, List.set_cons_succ, i64_w, i32_w]
        rfl
      refine take_ (i := 1) (N := some 146) (v := ?_) (a' := ?_) #[true, true, true, true, true, false, false, false, false, false] rfl rfl (by kernel_rfl) (fun _ _ _ h => h) (Or.inl ⟨by rfl, ?_⟩) hHeld ?_ ?_
      rotate_left
      · intro w' s0
        go_simp
        with_reducible rfl
      rotate_left
      · simp only [Act.put, List.setIfInBounds_toArray, List.set_cons_zero, List.set_cons_succ, i64_w, i32_w]
        rfl
      refine one_ (i := 5) (N := some 150) #[true, true, true, true, true, true, false, false, false, false] rfl rfl (by kernel_rfl) (by decide) (fun K hK => ?_)
      refine wt.goesT Try.func38 (by kernel_rfl) rfl #[.pointer (some ⟨g, 0, none⟩), .int .i64 (wrap64 (within + 1))] (by rfl) rfl rfl (by (try simp only [List.map_toArray, List.map_cons, List.map_nil]); first | done | rfl) ?_
      refine (HIH.out _ _ _ QD.out.bel QD.out.blk (wt.bytes_fr HC.out HB.out QD.out.fr) HBK.out.1 HBK.out.2.1 HBK.out.2.2.1 HBK.out.2.2.2).mono ?_
      rintro e w7 hgot
      have hrem := HREM1.out
      rcases hfa : f ak lk with ⟨x, a2, l2⟩ | ⟨ee, pp⟩
      rotate_left
      · rw [hfa] at hgot hrem
        subst hrem
        exact Or.inr ⟨_, hgot.1, rfl, rfl, QD.out.fr.trans hgot.2.fr, hgot.2.bel⟩
      rw [hfa] at hgot hrem
      obtain ⟨⟨u3, u4, rfl, hr3, hr4⟩, hnx⟩ := hgot
      refine Or.inl ⟨_, rfl, ?_⟩
      have HREM := Aside0.mk hrem
      have HFA := Aside0.mk hfa
      have Q7 := Aside0.mk (QD.out.step hnx)
      have R3_ := Aside0.mk hr3
      have R4_ := Aside0.mk hr4
      have HSZ := Aside0.mk (show wd.heap.size ≤ w7.heap.size from hnx.fr.1)
      clear hrem hfa hnx hr3 hr4
      refine hK.out _ _ ((blk_cell Q7.out.box 3).trans rfl) (fun hHeld => ?_)
      clear hK K
      refine norm_ (a' := ?_) ?_ ?_
      rotate_left
      · show Act.put _ (some 150) _ = _
        simp only [Act.put, List.setIfInBounds_toArray, List.set_cons_zero, List.set_cons_succ, i64_w, i32_w]
        rfl
      refine one_ (i := 6) (N := some 151) #[true, true, true, true, true, true, true, false, false, false] rfl rfl (by kernel_rfl) (by decide) (fun K hK => ?_)
      refine value_ (w1 := ?_) (v := ?_) (by rfl) rfl ?_ ?_
      rotate_left 2
      · go_simp
        constructor
        · rfl
        · rfl
      refine hK.out _ _ ((blk_cell (blk_alloc Q7.out.box _) 3).trans rfl) (fun hHeld => ?_)
      clear hK K
      refine norm_ (a' := ?_) ?_ ?_
      rotate_left
      · show Act.put _ (some 151) _ = _
        simp only [Act.put, List.setIfInBounds_toArray, List.set_cons_zero, List.set_cons_succ, i64_w, i32_w]
        rfl
      refine one_ (i := 7) (N := some 152) #[true, true, true, true, true, true, true, true, false, false] rfl rfl (by kernel_rfl) (by decide) (fun K hK => ?_)
      refine Kd.R_append_step k25 (w0 := w0) w0.heap.size (by rfl) (.tmp 146) (.tmp 151) 22 25 (.agg #[(.int .i64 0), (.int .i64 0), (.string ⟨#[]⟩), (.slice none 0 0), (.slice none 0 0)]) 80 rfl Try.underlying22 info25 rfl (by decide) (by omega) v3 acc x [.int .i64 x.f0, .int .i64 x.f1, .string x.f2, u3, u4] (fun k => vb < k ∧ some k ≠ (.slice A6 (ks.length + 1) c6 : Value).ownBlock) (fun k => wd.heap.size ≤ k) rfl rfl ?aP ?aK ?aF ?aO ?aB ?aS ?aL ?_
      (case aP => exact k25_mkM _ _ _ x R3_.out R4_.out)
      (case aK => exact fun k hk => ⟨⟨Nat.lt_of_lt_of_le QD.out.lt hk, fun e => absurd (Kd.R_lt QD.out.keys k e.symm) (by omega)⟩, fun e => absurd (Kd.R_lt QD.out.row k e.symm) (by omega)⟩)
      (case aF => exact fun k hk => ⟨Nat.lt_of_lt_of_le Q7.out.lt hk, fun e => absurd (Kd.R_lt Q7.out.keys k e.symm) (by omega)⟩)
      (case aO => exact Q7.out.row)
      (case aB => exact Q7.out.bel)
      (case aS => exact Q7.out.bel.size)
      (case aL => have e1 := HP.out.2.1; have e2 := HJ.out; have e3 := HN2.out; omega)
      intro v5 w8_ ho hb hg2 hat
      obtain ⟨A5, c5, e5⟩ := Kd.R_slice ho
      subst e5
      have Q9 := Aside0.mk (Q7.out.app3 ho hb hg2)
      have B8 := Aside0.mk (blk_grown Q7.out.box hg2 (fun e => absurd (Q7.out.row.1 vb e.symm).1 (Nat.lt_irrefl _)))
      have fv8 := blk_frozen B8.out 3
      clear ho hb hg2 hat
      refine hK.out _ _ ((blk_cell B8.out 3).trans rfl) (fun hHeld => ?_)
      clear hK K
      refine norm_ (a' := ?_) ?_ ?_
      rotate_left
      · show Act.put _ (some 152) _ = _
        simp only [Act.put, List.setIfInBounds_toArray, List.set_cons_zero, List.set_cons_succ, i64_w, i32_w]
        rfl
      refine pure_ (i := 8) (N := some 153) (v := ?_) (a' := ?_) #[true, true, true, true, true, true, true, true, true, false] rfl rfl (by kernel_rfl) (fun _ _ _ h => h) (Or.inl ⟨by rfl, ?_⟩) ?_ ?_
      rotate_left
      · intro w'
        go_simp
        with_reducible rfl
      rotate_left
      · simp only [Act.put, List.setIfInBounds_toArray, List.set_cons_zero, List.set_cons_succ, i64_w, i32_w]
        rfl
      refine last_ (i := 9) (N := none) #[true, true, true, true, true, true, true, true, true, true] rfl rfl (by kernel_rfl) (by decide) (fun K hK => ?_)
      refine skip_ (w1 := ?_) (by rfl) rfl ?_ ?_
      rotate_left
      · go_simp
        rfl
      refine hK.out _ _ ?_
      clear hK K
      refine done_ (by kernel_rfl) ?_
      go_wp2
      rw [show (acc ++ [x]).length = acc.length + 1 from by simp] at Q9
      go_roundw
      case rel => exact ⟨j + 1, acc ++ [x], ks ++ [kk], _, _, a2, l2, by rw [HWR.out]; rfl, ⟨HREM.out, ⟨by rw [List.length_append, HP.out.2.1.1]; rfl, by rw [List.length_append, HP.out.2.1.2]; rfl⟩, HJ.out, HFB.out _ _ _ _ _ HBK.out.1 HBK.out.2.1 HBK.out.2.2.1 HBK.out.2.2.2 HFA.out⟩, Q9⟩
      case measure => exact HM.out
    · have i1 : decide ((j : Int) < (n : Int)) = false := decide_eq_false (by omega)
      have i2 : decide (j < n) = false := decide_eq_false hlt
      have i3 : (j < n) = False := eq_false hlt
      have hjn : n - j = 0 := by omega
      have hT := HP.out.1
      rw [hjn] at hT
      have hT2 : T = .ok (ks, acc) a' l' := hT.symm
      subst hT2
      clear hT hjn hlt
      have hz0 : wr.cell? ⟨vb, 0, none⟩ = some (.int .i64 5) := (blk_cell HL.out.box 0).trans rfl
      have hz1 : wr.cell? ⟨vb, 1, none⟩ = some (.int .i64 0) := (blk_cell HL.out.box 1).trans rfl
      have hz2 : wr.cell? ⟨vb, 2, none⟩ = some (.string ⟨#[]⟩) := (blk_cell HL.out.box 2).trans rfl
      have hz3 : wr.cell? ⟨vb, 3, none⟩ = some v3 := (blk_cell HL.out.box 3).trans rfl
      have hz4 : wr.cell? ⟨vb, 4, none⟩ = some (.slice A4 ks.length c4) := (blk_cell HL.out.box 4).trans rfl
      have hv1 : v3.oneCell' = true := by obtain ⟨A_, c_, e_⟩ := Kd.R_slice HL.out.row; subst e_; rfl
      go_wp2_with (first | ((with_reducible refine gate_store (p := 4) rfl ?_); refine wt.store_res rfl rfl 4 _ rfl w.heap.size rfl (.int .i64 5) (.int .i64 0) (.string ⟨#[]⟩) v3 (.slice A4 ks.length c4) rfl (fun q hq => by simp at hq; rcases hq with rfl | rfl | rfl | rfl | rfl <;> first | rfl | exact hv1) _ rfl HL.out.res ?_; intro w5 hres hgr; have HRES := Aside0.mk hres; have HGR := Aside0.mk hgr; clear hgr hres))
      go_wp2
      refine bodyPost_ret (results_cell_row rfl _ _ w.heap.size 25 _ (0, 0) _ rfl HRES.out Try.underlying25 rfl (by kernel_rfl)) rfl ?_
      have e1 := HL.out.hgl; have e2 := HL.out.hvb
      exact ⟨⟨_, _, rfl, Kd.R_mono (Kd.R_grown HL.out.row HGR.out (fun k hk e => by have := Option.some.inj e; have := hk.1; omega)) (fun k hk => by have := hk.1; omega), Kd.R_mono (Kd.R_grown HL.out.keys HGR.out (fun k hk e => by have := Option.some.inj e; omega)) (fun k hk => by omega)⟩, wt.fin_nx HL.out.fr HL.out.blk (by omega) HGR.out (Nat.le_refl _) HBB.out.size HL.out.bel⟩
theorem wt.val_t5E {bs : List Int} {u i : Int → Int × Int × Int} (hU : wt.Uin bs u i) {w0 w : World} {g : Nat} {A : Option Addr} {c : Nat} {a l : Int} (hb : Below w0.heap.size w0 w) (hg : w0.heap.size ≤ g) (hB : wt.Blk w g A bs.length c a l) (hC : (Kd.int .u8).C w A bs.length bs) (hc : bs.length ≤ c) (within : Int) (hw : (within == 8) = false) (ha0 : 0 ≤ a) (ha1 : a < (bs.length : Int)) (hl0 : 1 ≤ l) (hl1 : l ≤ 2048) (ht : rd bs a = 5) (he : (u (a + 1)).2.2 ≠ 0) :
    Calls Try.prog 38 #[.pointer (some ⟨g, 0, none⟩), .int .i64 within] w (wt.GotV (.bad 41 (a + 1)) w0 w g A bs.length c) := by
  have HB := Aside0.mk hB
  have HC := Aside0.mk hC
  have HCC := Aside0.mk hc
  have HBB := Aside0.mk hb
  have HGG := Aside0.mk hg
  have HLL := Aside0.mk hU.L
  have HUU := Aside0.mk hU
  have hgl : g < w.heap.size := blk_lt hB
  have hu25 := Try.underlying25
  obtain ⟨a, rfl⟩ := Int.eq_ofNat_of_zero_le ha0
  have t0 : ((a : Int) == (bs.length : Int)) = false := beq_eq_false_iff_ne.2 (by omega)
  have t1 : (a = bs.length) = False := eq_false (by omega)
  have t2 : decide (a = bs.length) = false := decide_eq_false (by omega)
  have t3 : (a : Int) < (bs.length : Int) := ha1
  have t4 : a < bs.length := by omega
  have t5 : decide (a < bs.length) = true := decide_eq_true t4
  have hwr := Aside0.mk (show wrap64 ((a : Int) + 1) = (a : Int) + 1 by have := hU.L; unfold wrap64; omega)
  have HL0 := Aside0.mk hl0
  have HL1 := Aside0.mk hl1
  obtain ⟨ad, hA, hx0⟩ := Kd.at_int hC (a : Int) (by omega) ha1
  subst hA
  rw [Int.toNat_natCast, ht] at hx0
  have HBW := Aside0.mk ((Below.refl w.heap.size w).alloc (Nat.le_refl _) (.cells #[.int .i64 0, .int .i64 0, .string ⟨#[]⟩, .slice none 0 0, .slice none 0 0] 25))
  have L1 := Aside0.mk (show wt.Ly (w.alloc (.cells #[.int .i64 0, .int .i64 0, .string ⟨#[]⟩, .slice none 0 0, .slice none 0 0] 25)) g (some ad) bs.length c (a : Int) l (ad.add a) 5 w.heap.size #[.int .i64 0, .int .i64 0, .string ⟨#[]⟩, .slice none 0 0, .slice none 0 0] from ⟨HB.out.below HBW.out, (HBW.out.cell (World.block_lt_of_cell? w _ hx0)).trans hx0, by simpa using heap_alloc_new w _⟩)
  clear hx0
  have h0 := L1.out.blk.c0; have h1 := L1.out.blk.c1; have h2 := L1.out.blk.c2; have f1 := L1.out.blk.fz 1; have f2 := L1.out.blk.fz 2; have hx0 := L1.out.byt; have fr_ := blk_frozen L1.out.res 0
  have HF4 : ∀ W4, W4 = ((w.alloc (.cells #[.int .i64 0, .int .i64 0, .string ⟨#[]⟩, .slice none 0 0, .slice none 0 0] 25)).setCell ⟨g, 2, none⟩ (.int .i64 (l - 1))).setCell ⟨g, 1, none⟩ (.int .i64 ((a : Int) + 1)) → wt.Fr g w W4 ∧ Below w0.heap.size w0 W4 := by
    rintro _ rfl
    exact ⟨((wt.Fr.of_below HBW.out).trans (wt.Fr.set _ _ _ _)).trans (wt.Fr.set _ _ _ _), ((HBB.out.alloc HBB.out.size _).setCell hg _).setCell hg _⟩
  have HF4 := Aside0.mk HF4
  have hs0 : wrap64 ((a : Int) + 1) = (a : Int) + 1 := hwr.out
  have HCN := Aside0.mk (fun (W : World) (x1 : Below w0.heap.size w0 W) (x2 : wt.Blk W g (some ad) bs.length c ((a : Int) + 1) (l - 1)) (x3 : (Kd.int .u8).C W (some ad) bs.length bs) => wt.countE hU x1 hg x2 x3 hc (a : Int) 1 he)
  have HGL := Aside0.mk hgl
  clear hU hb hg hB hC hc ha1 hl0 hl1 ha0 hgl
  go_enter Try.func38, Try.ntmps38
  go_wp2_with (first | (go_at_call 51; refine (wt.weighsY L1.out.blk 1 (a : Int) HL0.out HL1.out (by omega)).mono ?_; rintro e_ w3 ⟨rfl, hx⟩; have L3 := Aside0.mk (L1.out.fr (hx ▸ wt.Fr.set _ _ _ _) (hx ▸ L1.out.blk.set2 _)); have HX3 := Aside0.mk hx; clear hx; clear h0 h1 h2 f1 f2 hx0 fr_; have h0 := L3.out.blk.c0; have h1 := L3.out.blk.c1; have h2 := L3.out.blk.c2; have f1 := L3.out.blk.fz 1; have f2 := L3.out.blk.fz 2; have hx0 := L3.out.byt; have fr_ := blk_frozen L3.out.res 0) | ((with_reducible refine gate_store (p := 48) rfl ?_); go_must (refine store_event ?hg (t := 3) (p := 48) (v := .tmp 46) (w1 := w3.setCell ⟨g, 1, none⟩ (.int .i64 (wrap64 ((a : Int) + 1)))) ?ho ?hN ?hr ?_); (case ho => rfl); (case hN => rfl); (case hg => rfl); (case hr => first | (go_simp; done) | (go_simp; rfl)); intro w4 e4; rw [hwr.out] at e4; have L4 := Aside0.mk (L3.out.fr (e4 ▸ wt.Fr.set _ _ _ _) (e4 ▸ L3.out.blk.set1 _)); have HX4 := Aside0.mk e4; clear e4; have HFW := Aside0.mk (HF4.out _ (HX4.out.trans (by rw [HX3.out]))); clear h0 h1 h2 f1 f2 hx0 fr_; have h0 := L4.out.blk.c0; have h1 := L4.out.blk.c1; have h2 := L4.out.blk.c2; have f1 := L4.out.blk.fz 1; have f2 := L4.out.blk.fz 2; have hx0 := L4.out.byt; have fr_ := blk_frozen L4.out.res 0) | ((with_reducible refine gate_store (p := 10) rfl ?_); refine wt.store_res rfl rfl 10 _ rfl w4.heap.size rfl (.int .i64 4) (.int .i64 0) (.string ⟨#[]⟩) (.slice none 0 0) (.slice none 0 0) rfl (fun q hq => by simp at hq; rcases hq with rfl | rfl | rfl | rfl | rfl <;> rfl) _ rfl (by simpa using heap_alloc_new w4 _) ?_; intro w5 hres hgr; have HB5 := Aside0.mk (wt.own_res hgr); have L5 := Aside0.mk (L4.out.below HB5.out); have hv : w.heap.size < w4.heap.size := by { rw [HX4.out, HX3.out, Deep.nblk_setCell, Deep.nblk_setCell, Deep.nblk_alloc]; exact Nat.lt_succ_self _ }; have Q5 := Aside0.mk (show wt.LQ w0 w w5 g (some ad) bs.length c w4.heap.size ((a : Int) + 1) (l - 1) 4 (.slice none 0 0) (.slice none 0 0) [] [] from ⟨L5.out.blk, HFW.out.1.trans (wt.Fr.of_below HB5.out), below_then HFW.out.2 HFW.out.2.size HB5.out, hres, L5.out.res, Kd.R_nil _ _ _ _ _, Kd.R_nil _ _ _ _ _, hv, HGL.out, HGG.out⟩); clear hres hgr hv; clear h0 h1 h2 f1 f2 hx0 fr_; have h0 := L5.out.blk.c0; have h1 := L5.out.blk.c1; have h2 := L5.out.blk.c2; have f1 := L5.out.blk.fz 1; have f2 := L5.out.blk.fz 2; have hx0 := L5.out.byt; have fr_ := blk_frozen L5.out.res 0) | (go_at_call 53; refine (HCN.out _ Q5.out.bel Q5.out.blk (wt.bytes_fr HC.out HB.out Q5.out.fr)).mono ?_; rintro e_ w5 ⟨rfl, hx⟩; have HX5 := Aside0.mk hx; clear hx; unfold wt.flt))
  exact ⟨rfl, rfl, Q5.out.fr.trans HX5.out.fr, HX5.out.bel⟩
theorem wt.val_t5S {bs : List Int} {u i : Int → Int × Int × Int} (hU : wt.Uin bs u i) {w0 w : World} {g : Nat} {A : Option Addr} {c : Nat} {a l : Int} (hb : Below w0.heap.size w0 w) (hg : w0.heap.size ≤ g) (hB : wt.Blk w g A bs.length c a l) (hC : (Kd.int .u8).C w A bs.length bs) (hc : bs.length ≤ c) (within : Int) (hw : (within == 8) = false) (ha0 : 0 ≤ a) (ha1 : a < (bs.length : Int)) (hl0 : 1 ≤ l) (hl1 : l ≤ 2048) (ht : rd bs a = 5) (he : (u (a + 1)).2.2 = 0) (hn : (l - 1) / 1 < (u (a + 1)).1) :
    Calls Try.prog 38 #[.pointer (some ⟨g, 0, none⟩), .int .i64 within] w (wt.GotV (.bad 42 a) w0 w g A bs.length c) := by
  have HB := Aside0.mk hB
  have HC := Aside0.mk hC
  have HCC := Aside0.mk hc
  have HBB := Aside0.mk hb
  have HGG := Aside0.mk hg
  have HLL := Aside0.mk hU.L
  have HUU := Aside0.mk hU
  have hgl : g < w.heap.size := blk_lt hB
  have hu25 := Try.underlying25
  obtain ⟨a, rfl⟩ := Int.eq_ofNat_of_zero_le ha0
  have t0 : ((a : Int) == (bs.length : Int)) = false := beq_eq_false_iff_ne.2 (by omega)
  have t1 : (a = bs.length) = False := eq_false (by omega)
  have t2 : decide (a = bs.length) = false := decide_eq_false (by omega)
  have t3 : (a : Int) < (bs.length : Int) := ha1
  have t4 : a < bs.length := by omega
  have t5 : decide (a < bs.length) = true := decide_eq_true t4
  have hwr := Aside0.mk (show wrap64 ((a : Int) + 1) = (a : Int) + 1 by have := hU.L; unfold wrap64; omega)
  have HL0 := Aside0.mk hl0
  have HL1 := Aside0.mk hl1
  obtain ⟨ad, hA, hx0⟩ := Kd.at_int hC (a : Int) (by omega) ha1
  subst hA
  rw [Int.toNat_natCast, ht] at hx0
  have HBW := Aside0.mk ((Below.refl w.heap.size w).alloc (Nat.le_refl _) (.cells #[.int .i64 0, .int .i64 0, .string ⟨#[]⟩, .slice none 0 0, .slice none 0 0] 25))
  have L1 := Aside0.mk (show wt.Ly (w.alloc (.cells #[.int .i64 0, .int .i64 0, .string ⟨#[]⟩, .slice none 0 0, .slice none 0 0] 25)) g (some ad) bs.length c (a : Int) l (ad.add a) 5 w.heap.size #[.int .i64 0, .int .i64 0, .string ⟨#[]⟩, .slice none 0 0, .slice none 0 0] from ⟨HB.out.below HBW.out, (HBW.out.cell (World.block_lt_of_cell? w _ hx0)).trans hx0, by simpa using heap_alloc_new w _⟩)
  clear hx0
  have h0 := L1.out.blk.c0; have h1 := L1.out.blk.c1; have h2 := L1.out.blk.c2; have f1 := L1.out.blk.fz 1; have f2 := L1.out.blk.fz 2; have hx0 := L1.out.byt; have fr_ := blk_frozen L1.out.res 0
  have HF4 : ∀ W4, W4 = ((w.alloc (.cells #[.int .i64 0, .int .i64 0, .string ⟨#[]⟩, .slice none 0 0, .slice none 0 0] 25)).setCell ⟨g, 2, none⟩ (.int .i64 (l - 1))).setCell ⟨g, 1, none⟩ (.int .i64 ((a : Int) + 1)) → wt.Fr g w W4 ∧ Below w0.heap.size w0 W4 := by
    rintro _ rfl
    exact ⟨((wt.Fr.of_below HBW.out).trans (wt.Fr.set _ _ _ _)).trans (wt.Fr.set _ _ _ _), ((HBB.out.alloc HBB.out.size _).setCell hg _).setCell hg _⟩
  have HF4 := Aside0.mk HF4
  have hs0 : wrap64 ((a : Int) + 1) = (a : Int) + 1 := hwr.out
  have HCN := Aside0.mk (fun (W : World) (x1 : Below w0.heap.size w0 W) (x2 : wt.Blk W g (some ad) bs.length c ((a : Int) + 1) (l - 1)) (x3 : (Kd.int .u8).C W (some ad) bs.length bs) => wt.countN hU x1 hg x2 x3 hc (a : Int) 1 he (by omega) (by omega) (by omega) (by omega) hn)
  have HGL := Aside0.mk hgl
  clear hU hb hg hB hC hc ha1 hl0 hl1 ha0 hgl
  go_enter Try.func38, Try.ntmps38
  go_wp2_with (first | (go_at_call 51; refine (wt.weighsY L1.out.blk 1 (a : Int) HL0.out HL1.out (by omega)).mono ?_; rintro e_ w3 ⟨rfl, hx⟩; have L3 := Aside0.mk (L1.out.fr (hx ▸ wt.Fr.set _ _ _ _) (hx ▸ L1.out.blk.set2 _)); have HX3 := Aside0.mk hx; clear hx; clear h0 h1 h2 f1 f2 hx0 fr_; have h0 := L3.out.blk.c0; have h1 := L3.out.blk.c1; have h2 := L3.out.blk.c2; have f1 := L3.out.blk.fz 1; have f2 := L3.out.blk.fz 2; have hx0 := L3.out.byt; have fr_ := blk_frozen L3.out.res 0) | ((with_reducible refine gate_store (p := 48) rfl ?_); go_must (refine store_event ?hg (t := 3) (p := 48) (v := .tmp 46) (w1 := w3.setCell ⟨g, 1, none⟩ (.int .i64 (wrap64 ((a : Int) + 1)))) ?ho ?hN ?hr ?_); (case ho => rfl); (case hN => rfl); (case hg => rfl); (case hr => first | (go_simp; done) | (go_simp; rfl)); intro w4 e4; rw [hwr.out] at e4; have L4 := Aside0.mk (L3.out.fr (e4 ▸ wt.Fr.set _ _ _ _) (e4 ▸ L3.out.blk.set1 _)); have HX4 := Aside0.mk e4; clear e4; have HFW := Aside0.mk (HF4.out _ (HX4.out.trans (by rw [HX3.out]))); clear h0 h1 h2 f1 f2 hx0 fr_; have h0 := L4.out.blk.c0; have h1 := L4.out.blk.c1; have h2 := L4.out.blk.c2; have f1 := L4.out.blk.fz 1; have f2 := L4.out.blk.fz 2; have hx0 := L4.out.byt; have fr_ := blk_frozen L4.out.res 0) | ((with_reducible refine gate_store (p := 10) rfl ?_); refine wt.store_res rfl rfl 10 _ rfl w4.heap.size rfl (.int .i64 4) (.int .i64 0) (.string ⟨#[]⟩) (.slice none 0 0) (.slice none 0 0) rfl (fun q hq => by simp at hq; rcases hq with rfl | rfl | rfl | rfl | rfl <;> rfl) _ rfl (by simpa using heap_alloc_new w4 _) ?_; intro w5 hres hgr; have HB5 := Aside0.mk (wt.own_res hgr); have L5 := Aside0.mk (L4.out.below HB5.out); have hv : w.heap.size < w4.heap.size := by { rw [HX4.out, HX3.out, Deep.nblk_setCell, Deep.nblk_setCell, Deep.nblk_alloc]; exact Nat.lt_succ_self _ }; have Q5 := Aside0.mk (show wt.LQ w0 w w5 g (some ad) bs.length c w4.heap.size ((a : Int) + 1) (l - 1) 4 (.slice none 0 0) (.slice none 0 0) [] [] from ⟨L5.out.blk, HFW.out.1.trans (wt.Fr.of_below HB5.out), below_then HFW.out.2 HFW.out.2.size HB5.out, hres, L5.out.res, Kd.R_nil _ _ _ _ _, Kd.R_nil _ _ _ _ _, hv, HGL.out, HGG.out⟩); clear hres hgr hv; clear h0 h1 h2 f1 f2 hx0 fr_; have h0 := L5.out.blk.c0; have h1 := L5.out.blk.c1; have h2 := L5.out.blk.c2; have f1 := L5.out.blk.fz 1; have f2 := L5.out.blk.fz 2; have hx0 := L5.out.byt; have fr_ := blk_frozen L5.out.res 0) | (go_at_call 53; refine (HCN.out _ Q5.out.bel Q5.out.blk (wt.bytes_fr HC.out HB.out Q5.out.fr)).mono ?_; rintro e_ w5 ⟨rfl, hx⟩; have HX5 := Aside0.mk hx; clear hx; unfold wt.flt))
  exact ⟨rfl, rfl, Q5.out.fr.trans HX5.out.fr, HX5.out.bel⟩
theorem wt.val_t6E {bs : List Int} {u i : Int → Int × Int × Int} (hU : wt.Uin bs u i) {w0 w : World} {g : Nat} {A : Option Addr} {c : Nat} {a l : Int} (hb : Below w0.heap.size w0 w) (hg : w0.heap.size ≤ g) (hB : wt.Blk w g A bs.length c a l) (hC : (Kd.int .u8).C w A bs.length bs) (hc : bs.length ≤ c) (within : Int) (hw : (within == 8) = false) (ha0 : 0 ≤ a) (ha1 : a < (bs.length : Int)) (hl0 : 1 ≤ l) (hl1 : l ≤ 2048) (ht : rd bs a = 6) (he : (u (a + 1)).2.2 ≠ 0) :
    Calls Try.prog 38 #[.pointer (some ⟨g, 0, none⟩), .int .i64 within] w (wt.GotV (.bad 41 (a + 1)) w0 w g A bs.length c) := by
  have HB := Aside0.mk hB
  have HC := Aside0.mk hC
  have HCC := Aside0.mk hc
  have HBB := Aside0.mk hb
  have HGG := Aside0.mk hg
  have HLL := Aside0.mk hU.L
  have HUU := Aside0.mk hU
  have hgl : g < w.heap.size := blk_lt hB
  have hu25 := Try.underlying25
  obtain ⟨a, rfl⟩ := Int.eq_ofNat_of_zero_le ha0
  have t0 : ((a : Int) == (bs.length : Int)) = false := beq_eq_false_iff_ne.2 (by omega)
  have t1 : (a = bs.length) = False := eq_false (by omega)
  have t2 : decide (a = bs.length) = false := decide_eq_false (by omega)
  have t3 : (a : Int) < (bs.length : Int) := ha1
  have t4 : a < bs.length := by omega
  have t5 : decide (a < bs.length) = true := decide_eq_true t4
  have hwr := Aside0.mk (show wrap64 ((a : Int) + 1) = (a : Int) + 1 by have := hU.L; unfold wrap64; omega)
  have HL0 := Aside0.mk hl0
  have HL1 := Aside0.mk hl1
  obtain ⟨ad, hA, hx0⟩ := Kd.at_int hC (a : Int) (by omega) ha1
  subst hA
  rw [Int.toNat_natCast, ht] at hx0
  have HBW := Aside0.mk ((Below.refl w.heap.size w).alloc (Nat.le_refl _) (.cells #[.int .i64 0, .int .i64 0, .string ⟨#[]⟩, .slice none 0 0, .slice none 0 0] 25))
  have L1 := Aside0.mk (show wt.Ly (w.alloc (.cells #[.int .i64 0, .int .i64 0, .string ⟨#[]⟩, .slice none 0 0, .slice none 0 0] 25)) g (some ad) bs.length c (a : Int) l (ad.add a) 6 w.heap.size #[.int .i64 0, .int .i64 0, .string ⟨#[]⟩, .slice none 0 0, .slice none 0 0] from ⟨HB.out.below HBW.out, (HBW.out.cell (World.block_lt_of_cell? w _ hx0)).trans hx0, by simpa using heap_alloc_new w _⟩)
  clear hx0
  have h0 := L1.out.blk.c0; have h1 := L1.out.blk.c1; have h2 := L1.out.blk.c2; have f1 := L1.out.blk.fz 1; have f2 := L1.out.blk.fz 2; have hx0 := L1.out.byt; have fr_ := blk_frozen L1.out.res 0
  have HF4 : ∀ W4, W4 = ((w.alloc (.cells #[.int .i64 0, .int .i64 0, .string ⟨#[]⟩, .slice none 0 0, .slice none 0 0] 25)).setCell ⟨g, 2, none⟩ (.int .i64 (l - 1))).setCell ⟨g, 1, none⟩ (.int .i64 ((a : Int) + 1)) → wt.Fr g w W4 ∧ Below w0.heap.size w0 W4 := by
    rintro _ rfl
    exact ⟨((wt.Fr.of_below HBW.out).trans (wt.Fr.set _ _ _ _)).trans (wt.Fr.set _ _ _ _), ((HBB.out.alloc HBB.out.size _).setCell hg _).setCell hg _⟩
  have HF4 := Aside0.mk HF4
  have hs0 : wrap64 ((a : Int) + 1) = (a : Int) + 1 := hwr.out
  have HCN := Aside0.mk (fun (W : World) (x1 : Below w0.heap.size w0 W) (x2 : wt.Blk W g (some ad) bs.length c ((a : Int) + 1) (l - 1)) (x3 : (Kd.int .u8).C W (some ad) bs.length bs) => wt.countE hU x1 hg x2 x3 hc (a : Int) 2 he)
  have HGL := Aside0.mk hgl
  clear hU hb hg hB hC hc ha1 hl0 hl1 ha0 hgl
  go_enter Try.func38, Try.ntmps38
  go_wp2_with (first | (go_at_call 51; refine (wt.weighsY L1.out.blk 1 (a : Int) HL0.out HL1.out (by omega)).mono ?_; rintro e_ w3 ⟨rfl, hx⟩; have L3 := Aside0.mk (L1.out.fr (hx ▸ wt.Fr.set _ _ _ _) (hx ▸ L1.out.blk.set2 _)); have HX3 := Aside0.mk hx; clear hx; clear h0 h1 h2 f1 f2 hx0 fr_; have h0 := L3.out.blk.c0; have h1 := L3.out.blk.c1; have h2 := L3.out.blk.c2; have f1 := L3.out.blk.fz 1; have f2 := L3.out.blk.fz 2; have hx0 := L3.out.byt; have fr_ := blk_frozen L3.out.res 0) | ((with_reducible refine gate_store (p := 48) rfl ?_); go_must (refine store_event ?hg (t := 3) (p := 48) (v := .tmp 46) (w1 := w3.setCell ⟨g, 1, none⟩ (.int .i64 (wrap64 ((a : Int) + 1)))) ?ho ?hN ?hr ?_); (case ho => rfl); (case hN => rfl); (case hg => rfl); (case hr => first | (go_simp; done) | (go_simp; rfl)); intro w4 e4; rw [hwr.out] at e4; have L4 := Aside0.mk (L3.out.fr (e4 ▸ wt.Fr.set _ _ _ _) (e4 ▸ L3.out.blk.set1 _)); have HX4 := Aside0.mk e4; clear e4; have HFW := Aside0.mk (HF4.out _ (HX4.out.trans (by rw [HX3.out]))); clear h0 h1 h2 f1 f2 hx0 fr_; have h0 := L4.out.blk.c0; have h1 := L4.out.blk.c1; have h2 := L4.out.blk.c2; have f1 := L4.out.blk.fz 1; have f2 := L4.out.blk.fz 2; have hx0 := L4.out.byt; have fr_ := blk_frozen L4.out.res 0) | ((with_reducible refine gate_store (p := 11) rfl ?_); refine wt.store_res rfl rfl 11 _ rfl w4.heap.size rfl (.int .i64 5) (.int .i64 0) (.string ⟨#[]⟩) (.slice none 0 0) (.slice none 0 0) rfl (fun q hq => by simp at hq; rcases hq with rfl | rfl | rfl | rfl | rfl <;> rfl) _ rfl (by simpa using heap_alloc_new w4 _) ?_; intro w5 hres hgr; have HB5 := Aside0.mk (wt.own_res hgr); have L5 := Aside0.mk (L4.out.below HB5.out); have hv : w.heap.size < w4.heap.size := by { rw [HX4.out, HX3.out, Deep.nblk_setCell, Deep.nblk_setCell, Deep.nblk_alloc]; exact Nat.lt_succ_self _ }; have Q5 := Aside0.mk (show wt.LQ w0 w w5 g (some ad) bs.length c w4.heap.size ((a : Int) + 1) (l - 1) 5 (.slice none 0 0) (.slice none 0 0) [] [] from ⟨L5.out.blk, HFW.out.1.trans (wt.Fr.of_below HB5.out), below_then HFW.out.2 HFW.out.2.size HB5.out, hres, L5.out.res, Kd.R_nil _ _ _ _ _, Kd.R_nil _ _ _ _ _, hv, HGL.out, HGG.out⟩); clear hres hgr hv; clear h0 h1 h2 f1 f2 hx0 fr_; have h0 := L5.out.blk.c0; have h1 := L5.out.blk.c1; have h2 := L5.out.blk.c2; have f1 := L5.out.blk.fz 1; have f2 := L5.out.blk.fz 2; have hx0 := L5.out.byt; have fr_ := blk_frozen L5.out.res 0) | (go_at_call 53; refine (HCN.out _ Q5.out.bel Q5.out.blk (wt.bytes_fr HC.out HB.out Q5.out.fr)).mono ?_; rintro e_ w5 ⟨rfl, hx⟩; have HX5 := Aside0.mk hx; clear hx; unfold wt.flt))
  exact ⟨rfl, rfl, Q5.out.fr.trans HX5.out.fr, HX5.out.bel⟩
theorem wt.val_t6S {bs : List Int} {u i : Int → Int × Int × Int} (hU : wt.Uin bs u i) {w0 w : World} {g : Nat} {A : Option Addr} {c : Nat} {a l : Int} (hb : Below w0.heap.size w0 w) (hg : w0.heap.size ≤ g) (hB : wt.Blk w g A bs.length c a l) (hC : (Kd.int .u8).C w A bs.length bs) (hc : bs.length ≤ c) (within : Int) (hw : (within == 8) = false) (ha0 : 0 ≤ a) (ha1 : a < (bs.length : Int)) (hl0 : 1 ≤ l) (hl1 : l ≤ 2048) (ht : rd bs a = 6) (he : (u (a + 1)).2.2 = 0) (hn : (l - 1) / 2 < (u (a + 1)).1) :
    Calls Try.prog 38 #[.pointer (some ⟨g, 0, none⟩), .int .i64 within] w (wt.GotV (.bad 42 a) w0 w g A bs.length c) := by
  have HB := Aside0.mk hB
  have HC := Aside0.mk hC
  have HCC := Aside0.mk hc
  have HBB := Aside0.mk hb
  have HGG := Aside0.mk hg
  have HLL := Aside0.mk hU.L
  have HUU := Aside0.mk hU
  have hgl : g < w.heap.size := blk_lt hB
  have hu25 := Try.underlying25
  obtain ⟨a, rfl⟩ := Int.eq_ofNat_of_zero_le ha0
  have t0 : ((a : Int) == (bs.length : Int)) = false := beq_eq_false_iff_ne.2 (by omega)
  have t1 : (a = bs.length) = False := eq_false (by omega)
  have t2 : decide (a = bs.length) = false := decide_eq_false (by omega)
  have t3 : (a : Int) < (bs.length : Int) := ha1
  have t4 : a < bs.length := by omega
  have t5 : decide (a < bs.length) = true := decide_eq_true t4
  have hwr := Aside0.mk (show wrap64 ((a : Int) + 1) = (a : Int) + 1 by have := hU.L; unfold wrap64; omega)
  have HL0 := Aside0.mk hl0
  have HL1 := Aside0.mk hl1
  obtain ⟨ad, hA, hx0⟩ := Kd.at_int hC (a : Int) (by omega) ha1
  subst hA
  rw [Int.toNat_natCast, ht] at hx0
  have HBW := Aside0.mk ((Below.refl w.heap.size w).alloc (Nat.le_refl _) (.cells #[.int .i64 0, .int .i64 0, .string ⟨#[]⟩, .slice none 0 0, .slice none 0 0] 25))
  have L1 := Aside0.mk (show wt.Ly (w.alloc (.cells #[.int .i64 0, .int .i64 0, .string ⟨#[]⟩, .slice none 0 0, .slice none 0 0] 25)) g (some ad) bs.length c (a : Int) l (ad.add a) 6 w.heap.size #[.int .i64 0, .int .i64 0, .string ⟨#[]⟩, .slice none 0 0, .slice none 0 0] from ⟨HB.out.below HBW.out, (HBW.out.cell (World.block_lt_of_cell? w _ hx0)).trans hx0, by simpa using heap_alloc_new w _⟩)
  clear hx0
  have h0 := L1.out.blk.c0; have h1 := L1.out.blk.c1; have h2 := L1.out.blk.c2; have f1 := L1.out.blk.fz 1; have f2 := L1.out.blk.fz 2; have hx0 := L1.out.byt; have fr_ := blk_frozen L1.out.res 0
  have HF4 : ∀ W4, W4 = ((w.alloc (.cells #[.int .i64 0, .int .i64 0, .string ⟨#[]⟩, .slice none 0 0, .slice none 0 0] 25)).setCell ⟨g, 2, none⟩ (.int .i64 (l - 1))).setCell ⟨g, 1, none⟩ (.int .i64 ((a : Int) + 1)) → wt.Fr g w W4 ∧ Below w0.heap.size w0 W4 := by
    rintro _ rfl
    exact ⟨((wt.Fr.of_below HBW.out).trans (wt.Fr.set _ _ _ _)).trans (wt.Fr.set _ _ _ _), ((HBB.out.alloc HBB.out.size _).setCell hg _).setCell hg _⟩
  have HF4 := Aside0.mk HF4
  have hs0 : wrap64 ((a : Int) + 1) = (a : Int) + 1 := hwr.out
  have HCN := Aside0.mk (fun (W : World) (x1 : Below w0.heap.size w0 W) (x2 : wt.Blk W g (some ad) bs.length c ((a : Int) + 1) (l - 1)) (x3 : (Kd.int .u8).C W (some ad) bs.length bs) => wt.countN hU x1 hg x2 x3 hc (a : Int) 2 he (by omega) (by omega) (by omega) (by omega) hn)
  have HGL := Aside0.mk hgl
  clear hU hb hg hB hC hc ha1 hl0 hl1 ha0 hgl
  go_enter Try.func38, Try.ntmps38
  go_wp2_with (first | (go_at_call 51; refine (wt.weighsY L1.out.blk 1 (a : Int) HL0.out HL1.out (by omega)).mono ?_; rintro e_ w3 ⟨rfl, hx⟩; have L3 := Aside0.mk (L1.out.fr (hx ▸ wt.Fr.set _ _ _ _) (hx ▸ L1.out.blk.set2 _)); have HX3 := Aside0.mk hx; clear hx; clear h0 h1 h2 f1 f2 hx0 fr_; have h0 := L3.out.blk.c0; have h1 := L3.out.blk.c1; have h2 := L3.out.blk.c2; have f1 := L3.out.blk.fz 1; have f2 := L3.out.blk.fz 2; have hx0 := L3.out.byt; have fr_ := blk_frozen L3.out.res 0) | ((with_reducible refine gate_store (p := 48) rfl ?_); go_must (refine store_event ?hg (t := 3) (p := 48) (v := .tmp 46) (w1 := w3.setCell ⟨g, 1, none⟩ (.int .i64 (wrap64 ((a : Int) + 1)))) ?ho ?hN ?hr ?_); (case ho => rfl); (case hN => rfl); (case hg => rfl); (case hr => first | (go_simp; done) | (go_simp; rfl)); intro w4 e4; rw [hwr.out] at e4; have L4 := Aside0.mk (L3.out.fr (e4 ▸ wt.Fr.set _ _ _ _) (e4 ▸ L3.out.blk.set1 _)); have HX4 := Aside0.mk e4; clear e4; have HFW := Aside0.mk (HF4.out _ (HX4.out.trans (by rw [HX3.out]))); clear h0 h1 h2 f1 f2 hx0 fr_; have h0 := L4.out.blk.c0; have h1 := L4.out.blk.c1; have h2 := L4.out.blk.c2; have f1 := L4.out.blk.fz 1; have f2 := L4.out.blk.fz 2; have hx0 := L4.out.byt; have fr_ := blk_frozen L4.out.res 0) | ((with_reducible refine gate_store (p := 11) rfl ?_); refine wt.store_res rfl rfl 11 _ rfl w4.heap.size rfl (.int .i64 5) (.int .i64 0) (.string ⟨#[]⟩) (.slice none 0 0) (.slice none 0 0) rfl (fun q hq => by simp at hq; rcases hq with rfl | rfl | rfl | rfl | rfl <;> rfl) _ rfl (by simpa using heap_alloc_new w4 _) ?_; intro w5 hres hgr; have HB5 := Aside0.mk (wt.own_res hgr); have L5 := Aside0.mk (L4.out.below HB5.out); have hv : w.heap.size < w4.heap.size := by { rw [HX4.out, HX3.out, Deep.nblk_setCell, Deep.nblk_setCell, Deep.nblk_alloc]; exact Nat.lt_succ_self _ }; have Q5 := Aside0.mk (show wt.LQ w0 w w5 g (some ad) bs.length c w4.heap.size ((a : Int) + 1) (l - 1) 5 (.slice none 0 0) (.slice none 0 0) [] [] from ⟨L5.out.blk, HFW.out.1.trans (wt.Fr.of_below HB5.out), below_then HFW.out.2 HFW.out.2.size HB5.out, hres, L5.out.res, Kd.R_nil _ _ _ _ _, Kd.R_nil _ _ _ _ _, hv, HGL.out, HGG.out⟩); clear hres hgr hv; clear h0 h1 h2 f1 f2 hx0 fr_; have h0 := L5.out.blk.c0; have h1 := L5.out.blk.c1; have h2 := L5.out.blk.c2; have f1 := L5.out.blk.fz 1; have f2 := L5.out.blk.fz 2; have hx0 := L5.out.byt; have fr_ := blk_frozen L5.out.res 0) | (go_at_call 53; refine (HCN.out _ Q5.out.bel Q5.out.blk (wt.bytes_fr HC.out HB.out Q5.out.fr)).mono ?_; rintro e_ w5 ⟨rfl, hx⟩; have HX5 := Aside0.mk hx; clear hx; unfold wt.flt))
  exact ⟨rfl, rfl, Q5.out.fr.trans HX5.out.fr, HX5.out.bel⟩
end
end Go.Proofs.Ytnkbobblnhaclaa.X

/- Xxwtake3: walks by hand, for the claim. -/
namespace Go.Proofs.Ytnkbobblnhaclaa.X
open Go.RowKit Go.Proofs.YtnkbobblnhaclaaW.PrintWords Go.Proofs.YtnkbobblnhaclaaW.PrintLast Go.Proofs.YtnkbobblnhaclaaW.PrintMore Go.Proofs.YtnkbobblnhaclaaW
section
set_option maxHeartbeats 4000000
set_option maxRecDepth 100000
/-- The reader stays within its bytes and its weight. -/
def wt.Bd (n : Nat) (a l : Int) : Prop := 0 ≤ a ∧ a ≤ (n : Int) ∧ 0 ≤ l ∧ l ≤ 2048
theorem wt.arrL_b {n : Nat} {f : Int → Int → wt.R3 S25} (hf : ∀ (a l : Int) (x : S25) (a2 l2 : Int), wt.Bd n a l → f a l = .ok x a2 l2 → wt.Bd n a2 l2) : ∀ (k : Nat) (acc : List S25) (a l : Int) (vs : List S25) (a2 l2 : Int), wt.Bd n a l → wt.arrL f k acc a l = .ok vs a2 l2 → wt.Bd n a2 l2
  | 0, acc, a, l, vs, a2, l2, hb, h => by
    unfold wt.arrL at h
    injection h with _ e2 e3
    subst e2; subst e3; exact hb
  | k + 1, acc, a, l, vs, a2, l2, hb, h => by
    unfold wt.arrL at h
    rcases hfa : f a l with ⟨x, a1, l1⟩ | ⟨e, p⟩
    · rw [hfa] at h
      exact wt.arrL_b hf k _ a1 l1 vs a2 l2 (hf a l x a1 l1 hb hfa) h
    · rw [hfa] at h; cases h
theorem wt.recL_b {bs : List Int} {u i : Int → Int × Int × Int} (hU : wt.Uin bs u i) {f : Int → Int → wt.R3 S25} (hf : ∀ (a l : Int) (x : S25) (a2 l2 : Int), wt.Bd bs.length a l → f a l = .ok x a2 l2 → wt.Bd bs.length a2 l2) : ∀ (k : Nat) (ks : List ByteArray) (acc : List S25) (a l : Int) (vs : List ByteArray × List S25) (a2 l2 : Int), wt.Bd bs.length a l → wt.recL bs u f k ks acc a l = .ok vs a2 l2 → wt.Bd bs.length a2 l2
  | 0, ks, acc, a, l, vs, a2, l2, hb, h => by
    unfold wt.recL at h
    injection h with _ e2 e3
    subst e2; subst e3; exact hb
  | k + 1, ks, acc, a, l, vs, a2, l2, hb, h => by
    unfold wt.recL at h
    rcases hka : wt.keyS bs u ks a l with ⟨kk, a1, l1⟩ | ⟨e, p⟩
    · rw [hka] at h
      have hb1 : wt.Bd bs.length a1 l1 := wt.keyS_b hU ⟨hb.2.2.1, hb.2.2.2⟩ hka
      dsimp only at h
      rcases hfa : f a1 l1 with ⟨x, a3, l3⟩ | ⟨e, p⟩
      · rw [hfa] at h
        exact wt.recL_b hU hf k _ _ a3 l3 vs a2 l2 (hf a1 l1 x a3 l3 hb1 hfa) h
      · rw [hfa] at h; cases h
    · rw [hka] at h; cases h
theorem wt.valS_s (bs : List Int) (u i : Int → Int × Int × Int) (d : Nat) (a l : Int) : wt.valS bs u i (d + 1) a l =
    if a = (bs.length : Int) ∨ rd bs a > 6 then .bad 41 a
    else if 1 > l then .bad 42 a
    else if rd bs a = 1 then .ok ⟨1, 0, ⟨#[]⟩, [], []⟩ (a + 1) (l - 1)
    else if rd bs a = 2 then .ok ⟨1, 1, ⟨#[]⟩, [], []⟩ (a + 1) (l - 1)
    else if rd bs a = 3 then (if (i (a + 1)).2.2 ≠ 0 then .bad 41 (a + 1) else .ok ⟨2, (i (a + 1)).1, ⟨#[]⟩, [], []⟩ (i (a + 1)).2.1 (l - 1))
    else if rd bs a = 4 then (if (u (a + 1)).2.2 ≠ 0 then .bad 41 (a + 1) else if (l - 1) / 1 < (u (a + 1)).1 then .bad 42 a else if (bs.length : Int) - (u (a + 1)).2.1 < (u (a + 1)).1 then .bad 41 (a + 1) else .ok ⟨3, 0, strOfNums ((bs.drop (u (a + 1)).2.1.toNat).take (u (a + 1)).1.toNat), [], []⟩ ((u (a + 1)).2.1 + (u (a + 1)).1) (l - 1 - (u (a + 1)).1))
    else if rd bs a = 5 then (if (u (a + 1)).2.2 ≠ 0 then .bad 41 (a + 1) else if (l - 1) / 1 < (u (a + 1)).1 then .bad 42 a else wt.arrV (wt.arrL (wt.valS bs u i d) (u (a + 1)).1.toNat [] (u (a + 1)).2.1 (l - 1)))
    else if rd bs a = 6 then (if (u (a + 1)).2.2 ≠ 0 then .bad 41 (a + 1) else if (l - 1) / 2 < (u (a + 1)).1 then .bad 42 a else wt.recV (wt.recL bs u (wt.valS bs u i d) (u (a + 1)).1.toNat [] [] (u (a + 1)).2.1 (l - 1)))
    else .ok ⟨0, 0, ⟨#[]⟩, [], []⟩ (a + 1) (l - 1) := by
  rw [wt.valS]
  by_cases h0 : a = (bs.length : Int) ∨ rd bs a > 6
  · rw [if_pos h0, if_pos h0]
  rw [if_neg h0, if_neg h0]
  by_cases h1 : 1 > l
  · rw [if_pos h1, if_pos h1]
  rw [if_neg h1, if_neg h1]
  by_cases k1 : rd bs a = 1
  · rw [if_pos k1, if_pos k1]
  rw [if_neg k1, if_neg k1]
  by_cases k2 : rd bs a = 2
  · rw [if_pos k2, if_pos k2]
  rw [if_neg k2, if_neg k2]
  by_cases k3 : rd bs a = 3
  · rw [if_pos k3, if_pos k3]
  rw [if_neg k3, if_neg k3]
  by_cases k4 : rd bs a = 4
  · rw [if_pos k4, if_pos k4]
    unfold wt.countS
    by_cases e1 : (u (a + 1)).2.2 ≠ 0
    · rw [if_pos e1, if_pos e1]
    rw [if_neg e1, if_neg e1]
    by_cases e2 : (l - 1) / 1 < (u (a + 1)).1
    · rw [if_pos e2, if_pos e2]
    rw [if_neg e2, if_neg e2]
  rw [if_neg k4, if_neg k4]
  by_cases k5 : rd bs a = 5
  · rw [if_pos k5, if_pos k5]
    unfold wt.countS
    by_cases e1 : (u (a + 1)).2.2 ≠ 0
    · rw [if_pos e1, if_pos e1]
    rw [if_neg e1, if_neg e1]
    by_cases e2 : (l - 1) / 1 < (u (a + 1)).1
    · rw [if_pos e2, if_pos e2]
    rw [if_neg e2, if_neg e2]
    dsimp only
    rcases wt.arrL (wt.valS bs u i d) (u (a + 1)).1.toNat [] (u (a + 1)).2.1 (l - 1) with ⟨x, a3, l3⟩ | ⟨e, p⟩ <;> rfl
  rw [if_neg k5, if_neg k5]
  by_cases k6 : rd bs a = 6
  · rw [if_pos k6, if_pos k6]
    unfold wt.countS
    by_cases e1 : (u (a + 1)).2.2 ≠ 0
    · rw [if_pos e1, if_pos e1]
    rw [if_neg e1, if_neg e1]
    by_cases e2 : (l - 1) / 2 < (u (a + 1)).1
    · rw [if_pos e2, if_pos e2]
    rw [if_neg e2, if_neg e2]
    dsimp only
    rcases wt.recL bs u (wt.valS bs u i d) (u (a + 1)).1.toNat [] [] (u (a + 1)).2.1 (l - 1) with ⟨⟨x, y⟩, a3, l3⟩ | ⟨e, p⟩ <;> rfl
  rw [if_neg k6, if_neg k6]
theorem wt.valS_b {bs : List Int} {u i : Int → Int × Int × Int} (hU : wt.Uin bs u i) : ∀ (d : Nat) (a l : Int) (x : S25) (a2 l2 : Int), wt.Bd bs.length a l → wt.valS bs u i d a l = .ok x a2 l2 → wt.Bd bs.length a2 l2
  | 0, a, l, x, a2, l2, hb, h => by
    rw [wt.valS] at h
    split at h <;> cases h
  | d + 1, a, l, x, a2, l2, hb, h => by
    rw [wt.valS_s] at h
    obtain ⟨b1, b2, b3, b4⟩ := hb
    by_cases h0 : a = (bs.length : Int) ∨ rd bs a > 6
    · rw [if_pos h0] at h; cases h
    rw [if_neg h0] at h
    have h0' : a ≠ (bs.length : Int) := fun e => h0 (Or.inl e)
    by_cases h1 : 1 > l
    · rw [if_pos h1] at h; cases h
    rw [if_neg h1] at h
    have hone : wt.Bd bs.length (a + 1) (l - 1) := ⟨by omega, by omega, by omega, by omega⟩
    by_cases k1 : rd bs a = 1
    · rw [if_pos k1] at h; injection h with _ e2 e3; subst e2; subst e3; exact hone
    rw [if_neg k1] at h
    by_cases k2 : rd bs a = 2
    · rw [if_pos k2] at h; injection h with _ e2 e3; subst e2; subst e3; exact hone
    rw [if_neg k2] at h
    by_cases k3 : rd bs a = 3
    · rw [if_pos k3] at h
      by_cases e1 : (i (a + 1)).2.2 ≠ 0
      · rw [if_pos e1] at h; cases h
      rw [if_neg e1] at h
      have hN := hU.M (a + 1) (Classical.byContradiction e1)
      injection h with _ e2 e3; subst e2; subst e3; exact ⟨by omega, by omega, by omega, by omega⟩
    rw [if_neg k3] at h
    by_cases k4 : rd bs a = 4
    · rw [if_pos k4] at h
      by_cases e1 : (u (a + 1)).2.2 ≠ 0
      · rw [if_pos e1] at h; cases h
      rw [if_neg e1] at h
      have hN := hU.N (a + 1) (Classical.byContradiction e1)
      have hR := hU.R (a + 1)
      by_cases e2 : (l - 1) / 1 < (u (a + 1)).1
      · rw [if_pos e2] at h; cases h
      rw [if_neg e2] at h
      rw [Int.ediv_one] at e2
      by_cases e3 : (bs.length : Int) - (u (a + 1)).2.1 < (u (a + 1)).1
      · rw [if_pos e3] at h; cases h
      rw [if_neg e3] at h
      injection h with _ e2 e3; subst e2; subst e3; exact ⟨by omega, by omega, by omega, by omega⟩
    rw [if_neg k4] at h
    by_cases k5 : rd bs a = 5
    · rw [if_pos k5] at h
      by_cases e1 : (u (a + 1)).2.2 ≠ 0
      · rw [if_pos e1] at h; cases h
      rw [if_neg e1] at h
      have hN := hU.N (a + 1) (Classical.byContradiction e1)
      by_cases e2 : (l - 1) / 1 < (u (a + 1)).1
      · rw [if_pos e2] at h; cases h
      rw [if_neg e2] at h
      rcases hL : wt.arrL (wt.valS bs u i d) (u (a + 1)).1.toNat [] (u (a + 1)).2.1 (l - 1) with ⟨x, a3, l3⟩ | ⟨e, p⟩
      · rw [hL] at h
        have := wt.arrL_b (wt.valS_b hU d) _ _ _ _ _ _ _ ⟨by omega, by omega, by omega, by omega⟩ hL
        injection h with _ e2 e3; subst e2; subst e3; exact this
      · rw [hL] at h; cases h
    rw [if_neg k5] at h
    by_cases k6 : rd bs a = 6
    · rw [if_pos k6] at h
      by_cases e1 : (u (a + 1)).2.2 ≠ 0
      · rw [if_pos e1] at h; cases h
      rw [if_neg e1] at h
      have hN := hU.N (a + 1) (Classical.byContradiction e1)
      by_cases e2 : (l - 1) / 2 < (u (a + 1)).1
      · rw [if_pos e2] at h; cases h
      rw [if_neg e2] at h
      rcases hL : wt.recL bs u (wt.valS bs u i d) (u (a + 1)).1.toNat [] [] (u (a + 1)).2.1 (l - 1) with ⟨⟨x, y⟩, a3, l3⟩ | ⟨e, p⟩
      · rw [hL] at h
        have := wt.recL_b hU (wt.valS_b hU d) _ _ _ _ _ _ _ _ ⟨by omega, by omega, by omega, by omega⟩ hL
        injection h with _ e2 e3; subst e2; subst e3; exact this
      · rw [hL] at h; cases h
    rw [if_neg k6] at h
    injection h with _ e2 e3; subst e2; subst e3; exact hone
/-- reader.value: what it reads, in new memory. -/
theorem wt.value1 {bs : List Int} {u i : Int → Int × Int × Int} (hU : wt.Uin bs u i) {w0 : World} {g : Nat} {A : Option Addr} {c : Nat} (hg : w0.heap.size ≤ g) (hc : bs.length ≤ c) : ∀ (d : Nat), d ≤ 8 → ∀ (within : Int), within = 8 - (d : Int) → ∀ (w : World) (a l : Int), Below w0.heap.size w0 w → wt.Blk w g A bs.length c a l → (Kd.int .u8).C w A bs.length bs → 0 ≤ a → a ≤ (bs.length : Int) → 0 ≤ l → l ≤ 2048 →
    Calls Try.prog 38 #[.pointer (some ⟨g, 0, none⟩), .int .i64 within] w (wt.GotV (wt.valS bs u i d a l) w0 w g A bs.length c) := by
  intro d
  induction d with
  | zero =>
    intro _ within hw w a l hb hB hC ha0 ha1 hl0 hl1
    rw [wt.valS]
    by_cases h0 : a = (bs.length : Int) ∨ rd bs a > 6
    · rw [if_pos h0]
      rcases h0 with h0 | h0
      · exact wt.val_b1 hU hb hg hB hC hc within h0
      · by_cases h00 : a = (bs.length : Int)
        · exact wt.val_b1 hU hb hg hB hC hc within h00
        · exact wt.val_b2 hU hb hg hB hC hc within ha0 (by omega) h0
    rw [if_neg h0]
    exact wt.val_bd hU hb hg hB hC hc within (by subst hw; rfl) ha0 (by have : a ≠ (bs.length : Int) := fun e => h0 (Or.inl e); omega) (by have : ¬ rd bs a > 6 := fun e => h0 (Or.inr e); omega)
  | succ d ih =>
    intro hd within hw w a l hb hB hC ha0 ha1 hl0 hl1
    rw [wt.valS_s]
    by_cases h0 : a = (bs.length : Int) ∨ rd bs a > 6
    · rw [if_pos h0]
      rcases h0 with h0 | h0
      · exact wt.val_b1 hU hb hg hB hC hc within h0
      · by_cases h00 : a = (bs.length : Int)
        · exact wt.val_b1 hU hb hg hB hC hc within h00
        · exact wt.val_b2 hU hb hg hB hC hc within ha0 (by omega) h0
    rw [if_neg h0]
    have ha2 : a < (bs.length : Int) := by
      have : a ≠ (bs.length : Int) := fun e => h0 (Or.inl e)
      omega
    have hx : rd bs a ≤ 6 := by
      have : ¬ rd bs a > 6 := fun e => h0 (Or.inr e)
      omega
    have hw8 : (within == 8) = false := beq_eq_false_iff_ne.2 (by omega)
    by_cases h1 : 1 > l
    · rw [if_pos h1]
      exact wt.val_bw hU hb hg hB hC hc within hw8 ha0 ha2 hx h1
    rw [if_neg h1]
    have hl : 1 ≤ l := by omega
    by_cases k1 : rd bs a = 1
    · rw [if_pos k1]; exact wt.val_t1 hU hb hg hB hC hc within hw8 ha0 ha2 hl hl1 k1
    rw [if_neg k1]
    by_cases k2 : rd bs a = 2
    · rw [if_pos k2]; exact wt.val_t2 hU hb hg hB hC hc within hw8 ha0 ha2 hl hl1 k2
    rw [if_neg k2]
    by_cases k3 : rd bs a = 3
    · rw [if_pos k3]
      by_cases e1 : (i (a + 1)).2.2 ≠ 0
      · rw [if_pos e1]; exact wt.val_t3N hU hb hg hB hC hc within hw8 ha0 ha2 hl hl1 k3 e1
      · rw [if_neg e1]; exact wt.val_t3 hU hb hg hB hC hc within hw8 ha0 ha2 hl hl1 k3 (Classical.byContradiction e1)
    rw [if_neg k3]
    have hIH : ∀ (W : World) (a l : Int), Below w0.heap.size w0 W → wt.Blk W g A bs.length c a l → (Kd.int .u8).C W A bs.length bs → 0 ≤ a → a ≤ (bs.length : Int) → 0 ≤ l → l ≤ 2048 → Calls Try.prog 38 #[.pointer (some ⟨g, 0, none⟩), .int .i64 (within + 1)] W (wt.GotV (wt.valS bs u i d a l) w0 W g A bs.length c) := ih (by omega) (within + 1) (by omega)
    have hFB : ∀ (a l : Int) (x : S25) (a2 l2 : Int), 0 ≤ a → a ≤ (bs.length : Int) → 0 ≤ l → l ≤ 2048 → wt.valS bs u i d a l = .ok x a2 l2 → 0 ≤ a2 ∧ a2 ≤ (bs.length : Int) ∧ 0 ≤ l2 ∧ l2 ≤ 2048 := fun a l x a2 l2 q1 q2 q3 q4 q => wt.valS_b hU d a l x a2 l2 ⟨q1, q2, q3, q4⟩ q
    have hwi : 0 ≤ within ∧ within ≤ 8 := by omega
    by_cases k4 : rd bs a = 4
    · rw [if_pos k4]
      by_cases e1 : (u (a + 1)).2.2 ≠ 0
      · rw [if_pos e1]; exact wt.val_t4E hU hb hg hB hC hc within hw8 ha0 ha2 hl hl1 k4 e1
      rw [if_neg e1]
      have e1' : (u (a + 1)).2.2 = 0 := Classical.byContradiction e1
      by_cases e2 : (l - 1) / 1 < (u (a + 1)).1
      · rw [if_pos e2]; exact wt.val_t4S hU hb hg hB hC hc within hw8 ha0 ha2 hl hl1 k4 e1' e2
      rw [if_neg e2]
      by_cases e3 : (bs.length : Int) - (u (a + 1)).2.1 < (u (a + 1)).1
      · rw [if_pos e3]; exact wt.val_t4C hU hb hg hB hC hc within hw8 ha0 ha2 hl hl1 k4 e1' (Int.not_lt.1 e2) e3
      · rw [if_neg e3]; exact wt.val_t4 hU hb hg hB hC hc within hw8 ha0 ha2 hl hl1 k4 e1' (Int.not_lt.1 e2) (Int.not_lt.1 e3)
    rw [if_neg k4]
    by_cases k5 : rd bs a = 5
    · rw [if_pos k5]
      by_cases e1 : (u (a + 1)).2.2 ≠ 0
      · rw [if_pos e1]; exact wt.val_t5E hU hb hg hB hC hc within hw8 ha0 ha2 hl hl1 k5 e1
      rw [if_neg e1]
      have e1' : (u (a + 1)).2.2 = 0 := Classical.byContradiction e1
      by_cases e2 : (l - 1) / 1 < (u (a + 1)).1
      · rw [if_pos e2]; exact wt.val_t5S hU hb hg hB hC hc within hw8 ha0 ha2 hl hl1 k5 e1' e2
      · rw [if_neg e2]; exact wt.val_t5 hU hb hg hB hC hc within hw8 ha0 ha2 hl hl1 k5 e1' (Int.not_lt.1 e2) hwi _ hFB hIH
    rw [if_neg k5]
    by_cases k6 : rd bs a = 6
    · rw [if_pos k6]
      by_cases e1 : (u (a + 1)).2.2 ≠ 0
      · rw [if_pos e1]; exact wt.val_t6E hU hb hg hB hC hc within hw8 ha0 ha2 hl hl1 k6 e1
      rw [if_neg e1]
      have e1' : (u (a + 1)).2.2 = 0 := Classical.byContradiction e1
      by_cases e2 : (l - 1) / 2 < (u (a + 1)).1
      · rw [if_pos e2]; exact wt.val_t6S hU hb hg hB hC hc within hw8 ha0 ha2 hl hl1 k6 e1' e2
      · rw [if_neg e2]; exact wt.val_t6 hU hb hg hB hC hc within hw8 ha0 ha2 hl hl1 k6 e1' (Int.not_lt.1 e2) hwi _ hFB hIH
    rw [if_neg k6]
    have hbx : 0 ≤ rd bs a := by
      have hlt : a.toNat < bs.length := by omega
      have : rd bs a = bs[a.toNat] := by unfold rd; rw [List.getD_eq_getElem?_getD, List.getElem?_eq_getElem hlt]; rfl
      rw [this]
      exact (hU.B _ (List.getElem_mem hlt)).1
    exact wt.val_t0 hU hb hg hB hC hc within hw8 ha0 ha2 hl hl1 (by omega)
end
end Go.Proofs.Ytnkbobblnhaclaa.X

