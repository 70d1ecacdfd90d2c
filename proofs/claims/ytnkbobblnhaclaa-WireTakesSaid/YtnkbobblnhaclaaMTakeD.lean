/- MTakeD: texts of this claim, one behind the other. -/
import Derived.Test.YtnkbobblnhaclaaXx0
import Derived.Test.YtnkbobblnhaclaaXWords
import Derived.Laws.Rows
import Derived.Test.YtnkbobblnhaclaaMTakeC
import Derived.Test.YtnkbobblnhaclaaMTakeB
import Derived.Test.YtnkbobblnhaclaaPlTakes
import Derived.Test.YtnkbobblnhaclaaXxscruplelaw04same
import Derived.WalkLawsBesides
import Derived.Laws.Pointers
import Derived.Shelf.Abstract
import Derived.Deep.DeepMust
import Derived.Deep.QuietTactic
import Derived.BigQuiet
import Derived.ChangeArms
set_option linter.unusedVariables false
set_option linter.unusedSimpArgs false
/- Xxwsmall: walks by hand, for the claim. -/
namespace Go.Proofs.Ytnkbobblnhaclaa.X
open Go.RowKit Go.Proofs.YtnkbobblnhaclaaW.PrintWords Go.Proofs.YtnkbobblnhaclaaW.PrintLast Go.Proofs.YtnkbobblnhaclaaW.PrintMore Go.Proofs.YtnkbobblnhaclaaW
section
set_option maxRecDepth 100000
open Go.Proofs.Ytnkbobblnhaclaa
theorem wt.uin_of {bs : List Int} (hb : Pl.Bytes bs) (hl : bs.length ≤ 140737488351232) : wt.Uin bs (Pl.uintAt bs) (Pl.intAt bs) where
  U := ⟨24, fun a => Pl.Uint_eq 24 (Nat.le_refl _) bs hb (by omega) a⟩
  I := ⟨24, fun a => Pl.Int_eq 24 (Nat.le_refl _) bs hb (by omega) a⟩
  R := fun a => Pl.uintAt_range bs hb a
  N := fun a h => by have := Pl.uintAt_ok bs hb a h; omega
  M := fun a h => by have := Pl.uintAt_ok bs hb a h; show 0 ≤ a ∧ a < (Pl.uintAt bs a).2.1 ∧ (Pl.uintAt bs a).2.1 ≤ bs.length; omega
  V := fun a => Pl.unzz_range _ (Pl.uintAt_range bs hb a).1 (Pl.uintAt_range bs hb a).2
  L := hl
  B := hb
theorem wt.rin_of {bs : List Int} (hb : Pl.Bytes bs) (hl : bs.length ≤ 140737488351232) : wt.Rin bs (Pl.uintAt bs) (Pl.intAt bs) where
  U := ⟨24, fun a => Pl.rUint_eq 24 (Nat.le_refl _) bs hb (by omega) a⟩
  I := ⟨24, fun a => Pl.rInt_eq 24 (Nat.le_refl _) bs hb (by omega) a⟩
/-- A value whose parts are small, so many deep. -/
def wt.sm : Nat → S25 → Prop
  | 0, _ => False
  | d + 1, x => (0 ≤ x.f0 ∧ x.f0 ≤ 5) ∧ (-9223372036854775808 ≤ x.f1 ∧ x.f1 ≤ 9223372036854775807) ∧ x.f2.size ≤ 2048 ∧ x.f3.length ≤ 2048 ∧ x.f4.length ≤ 2048 ∧ (∀ s ∈ x.f4, s.size ≤ 2048) ∧ ∀ y ∈ x.f3, wt.sm d y
theorem wt.sm.szL : ∀ (d : Nat) {x : S25}, wt.sm d x → wt.szL 2048 d x.f3
  | 0, x, h => h
  | d + 1, x, h => ⟨h.2.2.2.1, fun y hy => by
    have hs := h.2.2.2.2.2.2 y hy
    refine ⟨wt.sm.szL d hs, ?_⟩
    cases d with
    | zero => exact hs.elim
    | succ d => exact hs.2.2.2.2.1⟩
theorem wt.sm.val : ∀ (d : Nat) {x : S25}, wt.sm d x → Val x ∧ Siz x
  | 0, x, h => h.elim
  | d + 1, x, h => by
    obtain ⟨h0, h1, h2, h3, h4, k4, k3⟩ := h
    exact ⟨.mk x (by omega) (by omega) h1.1 h1.2 (by omega) (by omega) (by omega) (fun s hs => by have := k4 s hs; omega) (fun y hy => (wt.sm.val d (k3 y hy)).1), .mk x (by omega) (by omega) (by omega) (fun s hs => by have := k4 s hs; omega) (fun y hy => (wt.sm.val d (k3 y hy)).2)⟩
theorem wt.arrL_sm {n : Nat} {p : S25 → Prop} {f : Int → Int → wt.R3 S25} (hf : ∀ (a l : Int) (x : S25) (a2 l2 : Int), wt.Bd n a l → f a l = .ok x a2 l2 → p x ∧ wt.Bd n a2 l2) : ∀ (k : Nat) (acc : List S25) (a l : Int) (vs : List S25) (a2 l2 : Int), wt.Bd n a l → (∀ y ∈ acc, p y) → wt.arrL f k acc a l = .ok vs a2 l2 → (∀ y ∈ vs, p y) ∧ vs.length = acc.length + k
  | 0, acc, a, l, vs, a2, l2, hb, hp, h => by
    unfold wt.arrL at h
    injection h with e1 _ _
    subst e1; exact ⟨hp, rfl⟩
  | k + 1, acc, a, l, vs, a2, l2, hb, hp, h => by
    unfold wt.arrL at h
    rcases hfa : f a l with ⟨x, a1, l1⟩ | ⟨e, q⟩
    · rw [hfa] at h
      have hx := hf a l x a1 l1 hb hfa
      have := wt.arrL_sm hf k (acc ++ [x]) a1 l1 vs a2 l2 hx.2 (fun y hy => by
        rcases List.mem_append.1 hy with hy | hy
        · exact hp y hy
        · rw [List.mem_singleton.1 hy]; exact hx.1) h
      refine ⟨this.1, ?_⟩
      rw [this.2, List.length_append, List.length_singleton]
      omega
    · rw [hfa] at h; cases h
theorem wt.keyS_sm {bs : List Int} {u i : Int → Int × Int × Int} (hU : wt.Uin bs u i) {ks : List ByteArray} {a l a2 l2 : Int} {k : ByteArray} (h : wt.keyS bs u ks a l = .ok k a2 l2) : k.size ≤ 2048 := by
  unfold wt.keyS at h
  by_cases h1 : (u a).2.2 ≠ 0
  · rw [if_pos h1] at h; cases h
  rw [if_neg h1] at h
  by_cases h2 : (u a).1 > 32
  · rw [if_pos h2] at h; cases h
  rw [if_neg h2] at h
  by_cases h3 : (u a).1 > (bs.length : Int) - (u a).2.1
  · rw [if_pos h3] at h; cases h
  rw [if_neg h3] at h
  dsimp only at h
  split at h
  · cases h
  split at h
  · cases h
  · injection h with e1 e2 e3
    subst e1
    rw [wt.str_size, List.length_take]
    have := (hU.R a).1
    omega
theorem wt.recL_sm {bs : List Int} {u i : Int → Int × Int × Int} (hU : wt.Uin bs u i) {p : S25 → Prop} {f : Int → Int → wt.R3 S25} (hf : ∀ (a l : Int) (x : S25) (a2 l2 : Int), wt.Bd bs.length a l → f a l = .ok x a2 l2 → p x ∧ wt.Bd bs.length a2 l2) : ∀ (k : Nat) (ks : List ByteArray) (acc : List S25) (a l : Int) (vs : List ByteArray × List S25) (a2 l2 : Int), wt.Bd bs.length a l → (∀ y ∈ acc, p y) → (∀ s ∈ ks, s.size ≤ 2048) → wt.recL bs u f k ks acc a l = .ok vs a2 l2 → (∀ y ∈ vs.2, p y) ∧ vs.2.length = acc.length + k ∧ (∀ s ∈ vs.1, s.size ≤ 2048) ∧ vs.1.length = ks.length + k
  | 0, ks, acc, a, l, vs, a2, l2, hb, hp, hk, h => by
    unfold wt.recL at h
    injection h with e1 _ _
    subst e1; exact ⟨hp, rfl, hk, rfl⟩
  | k + 1, ks, acc, a, l, vs, a2, l2, hb, hp, hk, h => by
    unfold wt.recL at h
    rcases hka : wt.keyS bs u ks a l with ⟨kk, a1, l1⟩ | ⟨e, q⟩
    · rw [hka] at h
      have hb1 : wt.Bd bs.length a1 l1 := wt.keyS_b hU ⟨hb.2.2.1, hb.2.2.2⟩ hka
      have hks := wt.keyS_sm hU hka
      dsimp only at h
      rcases hfa : f a1 l1 with ⟨x, a3, l3⟩ | ⟨e, q⟩
      · rw [hfa] at h
        have hx := hf a1 l1 x a3 l3 hb1 hfa
        have := wt.recL_sm hU hf k (ks ++ [kk]) (acc ++ [x]) a3 l3 vs a2 l2 hx.2 (fun y hy => by
          rcases List.mem_append.1 hy with hy | hy
          · exact hp y hy
          · rw [List.mem_singleton.1 hy]; exact hx.1) (fun s hs => by
          rcases List.mem_append.1 hs with hs | hs
          · exact hk s hs
          · rw [List.mem_singleton.1 hs]; exact hks) h
        refine ⟨this.1, ?_, this.2.2.1, ?_⟩
        · rw [this.2.1, List.length_append, List.length_singleton]; omega
        · rw [this.2.2.2, List.length_append, List.length_singleton]; omega
      · rw [hfa] at h; cases h
    · rw [hka] at h; cases h
theorem wt.sm.mk {d : Nat} {f0 f1 : Int} {f2 : ByteArray} {f3 : List S25} {f4 : List ByteArray} (h0 : 0 ≤ f0 ∧ f0 ≤ 5) (h1 : -9223372036854775808 ≤ f1 ∧ f1 ≤ 9223372036854775807) (h2 : f2.size ≤ 2048) (h3 : f3.length ≤ 2048) (h4 : f4.length ≤ 2048) (k4 : ∀ s ∈ f4, s.size ≤ 2048) (k3 : ∀ y ∈ f3, wt.sm d y) : wt.sm (d + 1) ⟨f0, f1, f2, f3, f4⟩ := ⟨h0, h1, h2, h3, h4, k4, k3⟩
theorem wt.valS_sm {bs : List Int} {u i : Int → Int × Int × Int} (hU : wt.Uin bs u i) : ∀ (d : Nat) (a l : Int) (x : S25) (a2 l2 : Int), wt.Bd bs.length a l → wt.valS bs u i d a l = .ok x a2 l2 → wt.sm d x
  | 0, a, l, x, a2, l2, hb, h => by
    rw [wt.valS] at h
    split at h <;> cases h
  | d + 1, a, l, x, a2, l2, hb, h => by
    rw [wt.valS_s] at h
    have hbb := hb
    obtain ⟨b1, b2, b3, b4⟩ := hb
    have leaf : ∀ {f0 f1 : Int} {f2 : ByteArray} {b m : Int}, (0 ≤ f0 ∧ f0 ≤ 5) → (-9223372036854775808 ≤ f1 ∧ f1 ≤ 9223372036854775807) → f2.size ≤ 2048 → wt.R3.ok (⟨f0, f1, f2, [], []⟩ : S25) b m = .ok x a2 l2 → wt.sm (d + 1) x := fun q0 q1 q2 h => by
      injection h with e1 _ _
      subst e1
      exact wt.sm.mk q0 q1 q2 (Nat.zero_le _) (Nat.zero_le _) (fun s hs => by cases hs) (fun y hy => by cases hy)
    have nb : ∀ {e q : Int}, wt.R3.bad e q = .ok x a2 l2 → wt.sm (d + 1) x := fun h => by cases h
    have hz : (⟨#[]⟩ : ByteArray).size ≤ 2048 := by decide
    have ih : ∀ (a l : Int) (x : S25) (a2 l2 : Int), wt.Bd bs.length a l → wt.valS bs u i d a l = .ok x a2 l2 → wt.sm d x ∧ wt.Bd bs.length a2 l2 := fun a l x a2 l2 q h => ⟨wt.valS_sm hU d a l x a2 l2 q h, wt.valS_b hU d a l x a2 l2 q h⟩
    by_cases h0 : a = (bs.length : Int) ∨ rd bs a > 6
    · rw [if_pos h0] at h; exact nb h
    rw [if_neg h0] at h
    by_cases h1 : 1 > l
    · rw [if_pos h1] at h; exact nb h
    rw [if_neg h1] at h
    by_cases k1 : rd bs a = 1
    · rw [if_pos k1] at h; exact leaf (by omega) (by omega) hz h
    rw [if_neg k1] at h
    by_cases k2 : rd bs a = 2
    · rw [if_pos k2] at h; exact leaf (by omega) (by omega) hz h
    rw [if_neg k2] at h
    by_cases k3 : rd bs a = 3
    · rw [if_pos k3] at h
      by_cases e1 : (i (a + 1)).2.2 ≠ 0
      · rw [if_pos e1] at h; exact nb h
      · rw [if_neg e1] at h; exact leaf (by omega) (hU.V _) hz h
    rw [if_neg k3] at h
    by_cases k4 : rd bs a = 4
    · rw [if_pos k4] at h
      by_cases e1 : (u (a + 1)).2.2 ≠ 0
      · rw [if_pos e1] at h; exact nb h
      rw [if_neg e1] at h
      by_cases e2 : (l - 1) / 1 < (u (a + 1)).1
      · rw [if_pos e2] at h; exact nb h
      rw [if_neg e2] at h
      rw [Int.ediv_one] at e2
      by_cases e3 : (bs.length : Int) - (u (a + 1)).2.1 < (u (a + 1)).1
      · rw [if_pos e3] at h; exact nb h
      · rw [if_neg e3] at h
        refine leaf (by omega) (by omega) ?_ h
        rw [wt.str_size, List.length_take]
        have := (hU.R (a + 1)).1
        omega
    rw [if_neg k4] at h
    by_cases k5 : rd bs a = 5
    · rw [if_pos k5] at h
      by_cases e1 : (u (a + 1)).2.2 ≠ 0
      · rw [if_pos e1] at h; exact nb h
      rw [if_neg e1] at h
      by_cases e2 : (l - 1) / 1 < (u (a + 1)).1
      · rw [if_pos e2] at h; exact nb h
      rw [if_neg e2] at h
      rw [Int.ediv_one] at e2
      have hN := hU.N (a + 1) (Classical.byContradiction e1)
      rcases hL : wt.arrL (wt.valS bs u i d) (u (a + 1)).1.toNat [] (u (a + 1)).2.1 (l - 1) with ⟨vs, a3, l3⟩ | ⟨e, p⟩
      · rw [hL] at h
        have hp := wt.arrL_sm (p := wt.sm d) ih _ _ _ _ _ _ _ ⟨by omega, by omega, by omega, by omega⟩ (fun y hy => by cases hy) hL
        injection h with e1 _ _
        subst e1
        have hlen : vs.length ≤ 2048 := by rw [hp.2]; simp; omega
        exact wt.sm.mk (by decide) (by decide) hz hlen (Nat.zero_le _) (fun s hs => by cases hs) hp.1
      · rw [hL] at h; exact nb h
    rw [if_neg k5] at h
    by_cases k6 : rd bs a = 6
    · rw [if_pos k6] at h
      by_cases e1 : (u (a + 1)).2.2 ≠ 0
      · rw [if_pos e1] at h; exact nb h
      rw [if_neg e1] at h
      by_cases e2 : (l - 1) / 2 < (u (a + 1)).1
      · rw [if_pos e2] at h; exact nb h
      rw [if_neg e2] at h
      have hN := hU.N (a + 1) (Classical.byContradiction e1)
      have hle : (l - 1) / 2 ≤ l - 1 := Int.ediv_le_self _ (by omega)
      rcases hL : wt.recL bs u (wt.valS bs u i d) (u (a + 1)).1.toNat [] [] (u (a + 1)).2.1 (l - 1) with ⟨⟨ks, vs⟩, a3, l3⟩ | ⟨e, p⟩
      · rw [hL] at h
        have hp := wt.recL_sm hU (p := wt.sm d) ih _ _ _ _ _ _ _ _ ⟨by omega, by omega, by omega, by omega⟩ (fun y hy => by cases hy) (fun s hs => by cases hs) hL
        injection h with e1 _ _
        subst e1
        have hlen : vs.length ≤ 2048 := by have := hp.2.1; simp at this; omega
        have hlen4 : ks.length ≤ 2048 := by have := hp.2.2.2; simp at this; omega
        exact wt.sm.mk (by decide) (by decide) hz hlen hlen4 hp.2.2.1 hp.1
      · rw [hL] at h; exact nb h
    rw [if_neg k6] at h
    exact leaf (by omega) (by omega) hz h
/-- A small value is the same as itself. -/
theorem wt.same_ok {d : Nat} {x : S25} (h : wt.sm d x) : ∃ K, scruplelaw04_same.f K x.f0 x.f1 x.f2 x.f3 x.f4 x.f0 x.f1 x.f2 x.f3 x.f4 = some true := by
  obtain ⟨hv, hs⟩ := wt.sm.val d h
  obtain ⟨t, ⟨K1, h1⟩, _⟩ := few_ev x hv hs
  obtain ⟨b, ⟨K2, h2⟩, hb⟩ := alike_ev x hv hs x hv
  have hb1 : b = true := hb.2 rfl
  subst hb1
  refine ⟨max K1 K2, ?_⟩
  unfold scruplelaw04_same.f
  have e1 := h1 (max K1 K2) (Nat.le_max_left _ _)
  have e2 := h2 (max K1 K2) (Nat.le_max_right _ _)
  dsimp only at e1 e2
  rw [e1, Option.bind_some]
  cases t with
  | true => rw [if_pos rfl, e2]; rfl
  | false => rw [if_neg (by decide)]
theorem wt.few_ok {d : Nat} {x : S25} (h : wt.sm d x) : ∃ K t, scruplelaw04_few.f K x.f0 x.f1 x.f2 x.f3 x.f4 = some t := by
  obtain ⟨hv, hs⟩ := wt.sm.val d h
  obtain ⟨t, ⟨K1, h1⟩, _⟩ := few_ev x hv hs
  exact ⟨K1, t, h1 K1 (Nat.le_refl _)⟩
end
end Go.Proofs.Ytnkbobblnhaclaa.X

/- XTakes: walks by hand, for the claim. -/
namespace Go.Proofs.Ytnkbobblnhaclaa.X
open Go.RowKit Go.Proofs.YtnkbobblnhaclaaW.PrintWords Go.Proofs.YtnkbobblnhaclaaW.PrintLast Go.Proofs.YtnkbobblnhaclaaW.PrintMore Go.Proofs.YtnkbobblnhaclaaW
section
set_option maxHeartbeats 4000000
set_option maxRecDepth 100000
open Go.Proofs.Ytnkbobblnhaclaa
open Go.ChangeShapes Go.WideShapes Go.ChangeAt in
theorem el_int {H : Type} {enc : TypeId × Value → H} {P : Program} {w : World} {held : Bool} {spare : Nat → Bool} {k : IntKind} {e : TypeId} (he : P.underlying e = some (.int k)) : ∀ n cs (y : DataW H × List MemPlace), DataW.trod enc P w 0 spare held n e cs = some y → ∃ x, (Kd.int k).K w x cs ∧ (Lit.int k x).wf = true := fun n cs y hy => by
  obtain ⟨x, q, _, z⟩ := DataW.trod_int he hy
  exact ⟨x, q, z⟩
theorem wt.VRow.CC {w : World} {Y : Nat → Prop} {d n c : Nat} {A : Option Addr} {xs : List S25} (h : wt.VRow w Y d (.slice A n c) xs) : n = xs.length ∧ xs.length ≤ c ∧ k25.C w A xs.length xs := by
  obtain ⟨A', c', e, h1, h2⟩ := wt.VRow.C d h
  injection e with e1 e2 e3
  subst e1; subst e2; subst e3
  exact ⟨rfl, h1, h2⟩
theorem wt.KRow.CC {w : World} {Y : Nat → Prop} {n c : Nat} {A : Option Addr} {xs : List ByteArray} (h : wt.KRow w Y (.slice A n c) xs) : n = xs.length ∧ xs.length ≤ c ∧ Kd.string.C w A xs.length xs := by
  obtain ⟨A', c', e, h1, h2⟩ := h.C
  injection e with e1 e2 e3
  subst e1; subst e2; subst e3
  exact ⟨rfl, h1, h2⟩
/-- A value as it stands in memory. -/
def wt.vl (x : S25) (A3 : Option Addr) (c3 : Nat) (A4 : Option Addr) (c4 : Nat) : Value := .agg #[.int .i64 x.f0, .int .i64 x.f1, .string x.f2, .slice A3 x.f3.length c3, .slice A4 x.f4.length c4]
/-- Its rows. -/
structure wt.Tr (W : World) (lo hi : Nat) (x : S25) (A3 : Option Addr) (c3 : Nat) (A4 : Option Addr) (c4 : Nat) : Prop where
  v : wt.VRow W (fun k => lo ≤ k ∧ k < hi) 8 (.slice A3 x.f3.length c3) x.f3
  k : wt.KRow W (fun k => lo ≤ k ∧ k < hi) (.slice A4 x.f4.length c4) x.f4
section
variable {W W1 : World} {lo hi : Nat} {x : S25} {A3 : Option Addr} {c3 : Nat} {A4 : Option Addr} {c4 : Nat}
theorem wt.Tr.move (h : wt.Tr W lo hi x A3 c3 A4 c4) (hm : ∀ k, lo ≤ k → k < hi → W1.heap[k]? = W.heap[k]?) : wt.Tr W1 lo hi x A3 c3 A4 c4 :=
  ⟨wt.VRow.move (fun _ q => q) (fun k hk _ => hm k hk.1 hk.2) 8 h.v, h.k.move (fun _ q => q) (fun k hk _ => hm k hk.1 hk.2)⟩
theorem wt.Tr.below (h : wt.Tr W lo hi x A3 c3 A4 c4) (hb : Below W.heap.size W W1) (hh : hi ≤ W.heap.size) : wt.Tr W1 lo hi x A3 c3 A4 c4 := h.move (fun k _ hk => hb.block k (Nat.lt_of_lt_of_le hk hh))
end
theorem wt.same13 {W : World} {l1 h1 l2 h2 : Nat} {x : S25} {A3 : Option Addr} {c3 : Nat} {A4 : Option Addr} {c4 : Nat} {B3 : Option Addr} {d3 : Nat} {B4 : Option Addr} {d4 : Nat} {d : Nat} (hs : wt.sm d x) (p : wt.Tr W l1 h1 x A3 c3 A4 c4) (q : wt.Tr W l2 h2 x B3 d3 B4 d4) :
    Calls Try.prog 13 #[wt.vl x A3 c3 A4 c4, wt.vl x B3 d3 B4 d4] W fun e w' => e = .returned (.bool true) ∧ Below W.heap.size W w' := by
  obtain ⟨K, hK⟩ := wt.same_ok hs
  exact scruplelaw04_same.calls K x.f0 x.f1 x.f2 A3 c3 x.f3 A4 c4 x.f4 x.f0 x.f1 x.f2 B3 d3 x.f3 B4 d4 x.f4 true W p.v.CC.2.2 p.v.CC.2.1 p.k.CC.2.2 p.k.CC.2.1 q.v.CC.2.2 q.v.CC.2.1 q.k.CC.2.2 q.k.CC.2.1 hK
theorem wt.over21 {W : World} {lo hi : Nat} {x : S25} {A3 : Option Addr} {c3 : Nat} {A4 : Option Addr} {c4 : Nat} {d : Nat} (mark : ByteArray) (hd : d = 8) (hs : wt.sm d x) (p : wt.Tr W lo hi x A3 c3 A4 c4) (hh : hi ≤ W.heap.size) :
    Calls Try.prog 21 #[wt.vl x A3 c3 A4 c4, .string mark] W fun e w' => e = .returned (.tuple #[]) ∧ wt.SimW (fun k => lo ≤ k ∧ k < hi) mark W w' := by
  subst hd
  obtain ⟨K, t, hK⟩ := wt.few_ok hs
  exact wt.over1 (B := 2048) (by omega) x _ _ W (fun k hk => Nat.lt_of_lt_of_le hk.2 hh) p.v p.k (wt.sm.szL 8 hs) hs.2.2.2.2.1 hK
/-- What Take tells: a value, a place, a fault. -/
def wt.tk (r : wt.R3 S25) : S25 × Int × Int := match r with
  | .ok x a _ => (x, a, 0)
  | .bad e p => (z25, p, e)
theorem wt.tk_sm {bs : List Int} {u i : Int → Int × Int × Int} (hU : wt.Uin bs u i) (at_ : Int) : wt.sm 8 (wt.tk (wt.takeS bs u i at_)).1 := by
  have hz : wt.sm 8 z25 := wt.sm.mk (by decide) (by decide) (by decide) (by decide) (by decide) (fun s hs => by cases hs) (fun y hy => by cases hy)
  unfold wt.takeS
  by_cases h : at_ < 0 ∨ at_ > (bs.length : Int)
  · rw [if_pos h]; exact hz
  rw [if_neg h]
  have h0 : 0 ≤ at_ := by
    have : ¬ at_ < 0 := fun e => h (Or.inl e)
    omega
  have h1 : at_ ≤ (bs.length : Int) := by
    have : ¬ at_ > (bs.length : Int) := fun e => h (Or.inr e)
    omega
  rcases hr : wt.valS bs u i 8 at_ 2048 with ⟨x, a2, l2⟩ | ⟨ee, pp⟩
  · exact wt.valS_sm hU 8 at_ 2048 x a2 l2 ⟨h0, h1, by omega, by omega⟩ hr
  · exact hz
theorem wt.take22 {bs : List Int} {u i : Int → Int × Int × Int} (hU : wt.Uin bs u i) {W : World} {A : Option Addr} {c : Nat} (at_ : Int) {x : S25} {n0 e0 : Int} (hx : wt.tk (wt.takeS bs u i at_) = (x, n0, e0)) (hC : (Kd.int .u8).C W A bs.length bs) (hc : bs.length ≤ c) :
    Calls Try.prog 22 #[.slice A bs.length c, .int .i64 at_] W fun e w' => ∃ A3 c3 A4 c4, e = .returned (.tuple #[wt.vl x A3 c3 A4 c4, .int .i64 n0, .int .i64 e0]) ∧ wt.Tr w' W.heap.size w'.heap.size x A3 c3 A4 c4 ∧ Below W.heap.size W w' := by
  refine (wt.take1 hU at_ hC hc).mono ?_
  intro e w' h
  cases hr : wt.takeS bs u i at_ with
  | ok y a l =>
    rw [hr] at h hx
    injection hx with e1 e2
    injection e2 with e2 e3
    subst e1; subst e2; subst e3
    obtain ⟨v3, v4, h1, h2, h3, h4⟩ := h
    obtain ⟨A3, c3, e3, _⟩ := wt.VRow.C 8 h2
    obtain ⟨A4, c4, e4, _⟩ := h3.C
    subst e3; subst e4
    exact ⟨A3, c3, A4, c4, h1, ⟨h2, h3⟩, h4⟩
  | bad f p =>
    rw [hr] at h hx
    injection hx with e1 e2
    injection e2 with e2 e3
    subst e1; subst e2; subst e3
    exact ⟨none, 0, none, 0, h.1, ⟨Or.inl ⟨rfl, rfl⟩, Or.inl ⟨rfl, rfl⟩⟩, h.2⟩
theorem wt.take23 {bs : List Int} {u i : Int → Int × Int × Int} (hU : wt.Uin bs u i) (hR : wt.Rin bs u i) {W : World} {A : Option Addr} {c : Nat} (at_ : Int) {x : S25} {n0 e0 : Int} (hx : wt.tk (wt.takeS bs u i at_) = (x, n0, e0)) (hs : wt.sm 8 x) (hC : (Kd.int .u8).C W A bs.length bs) (hc : bs.length ≤ c) :
    Calls Try.prog 23 #[.slice A bs.length c, .int .i64 at_] W fun e w' => ∃ A3 c3 A4 c4, e = .returned (.tuple #[wt.vl x A3 c3 A4 c4, .int .i64 n0, .int .i64 e0]) ∧ wt.Tr w' W.heap.size w'.heap.size x A3 c3 A4 c4 ∧ Below W.heap.size W w' := by
  refine (wt.rtake1 hU hR at_ hC hc).mono ?_
  intro e w' h
  cases hr : wt.takeS bs u i at_ with
  | ok y a l =>
    rw [hr] at h hx
    injection hx with e1 e2
    injection e2 with e2 e3
    subst e1; subst e2; subst e3
    obtain ⟨v3, v4, h1, h2, h3, h4⟩ := h
    obtain ⟨A3, c3, e3⟩ := Kd.R_slice h2
    obtain ⟨A4, c4, e4⟩ := Kd.R_slice h3
    subst e3; subst e4
    exact ⟨A3, c3, A4, c4, h1, ⟨wt.VRow.of_R 8 (Kd.R_bound h2) (fun k hk => ⟨hk.2.1, hk.2.2.1⟩) (wt.szL.deep 8 (wt.sm.szL 8 hs)), wt.KRow.of_R (Kd.R_bound h3) (fun k hk => ⟨hk.2.1, hk.2.2.1⟩)⟩, h4⟩
  | bad f p =>
    rw [hr] at h hx
    injection hx with e1 e2
    injection e2 with e2 e3
    subst e1; subst e2; subst e3
    exact ⟨none, 0, none, 0, h.1, ⟨Or.inl ⟨rfl, rfl⟩, Or.inl ⟨rfl, rfl⟩⟩, h.2⟩
theorem wt.room_ok {bs xs : List Int} {w1 : World} {base b cap : Nat} (hr : Kd.R (Kd.int .u8) 5 w1 base (fun _ => True) (.slice (some ⟨b, 0, none⟩) (bs.length + 40) cap) xs) (hle : wt.LentL bs xs) : (Kd.int .u8).C w1 (some ⟨b, 0, none⟩) bs.length bs := by
  have q := Kd.C_take (m := bs.length) (Kd.R_reads' hr).2.2 (by have := hle.len; omega)
  rw [hle.take] at q
  exact q
/-- What stands while the lent bytes are wiped: the second value, the reference's, and the bytes. -/
structure wt.MM (w wr : World) (n1 n3 n4 n5 n6 : Nat) (W : World) (x : S25) (A23 : Option Addr) (c23 : Nat) (A24 : Option Addr) (c24 : Nat) (A33 : Option Addr) (c33 : Nat) (A34 : Option Addr) (c34 : Nat) (b n cap : Nat) : Prop where
  t2 : wt.Tr W n3 n4 x A23 c23 A24 c24
  t3 : wt.Tr W n5 n6 x A33 c33 A34 c34
  x2 : W.heap[n4]? = some (.cells #[.int .i64 x.f0, .int .i64 x.f1, .string x.f2, .slice A23 x.f3.length c23, .slice A24 x.f4.length c24] 25 (0, 0))
  x3 : W.heap[n6]? = some (.cells #[.int .i64 x.f0, .int .i64 x.f1, .string x.f2, .slice A33 x.f3.length c33, .slice A34 x.f4.length c34] 25 (0, 0))
  bel : Below w.heap.size w W
  row : ∃ xs, Kd.R (Kd.int .u8) 5 W w.heap.size (fun _ => True) (.slice (some ⟨b, 0, none⟩) n cap) xs
  bn : w.heap.size ≤ b ∧ b < n3 ∧ n3 ≤ n4 ∧ n4 < n5 ∧ n5 ≤ n6 ∧ n6 < W.heap.size
/-- Ahead of the wiping. -/
structure wt.M7 (w wr : World) (bs : List Int) (xs : List Int) (n1 n2 n3 n4 n5 n6 : Nat) (W : World) (x : S25) (A13 : Option Addr) (c13 : Nat) (A14 : Option Addr) (c14 : Nat) (A23 : Option Addr) (c23 : Nat) (A24 : Option Addr) (c24 : Nat) (A33 : Option Addr) (c33 : Nat) (A34 : Option Addr) (c34 : Nat) (b n cap : Nat) : Prop where
  t1 : wt.Tr W n1 n2 x A13 c13 A14 c14
  t2 : wt.Tr W n3 n4 x A23 c23 A24 c24
  t3 : wt.Tr W n5 n6 x A33 c33 A34 c34
  x1 : W.heap[n2]? = some (.cells #[.int .i64 x.f0, .int .i64 x.f1, .string x.f2, .slice A13 x.f3.length c13, .slice A14 x.f4.length c14] 25 (0, 0))
  x2 : W.heap[n4]? = some (.cells #[.int .i64 x.f0, .int .i64 x.f1, .string x.f2, .slice A23 x.f3.length c23, .slice A24 x.f4.length c24] 25 (0, 0))
  x3 : W.heap[n6]? = some (.cells #[.int .i64 x.f0, .int .i64 x.f1, .string x.f2, .slice A33 x.f3.length c33, .slice A34 x.f4.length c34] 25 (0, 0))
  bel : Below w.heap.size w W
  row : Kd.R (Kd.int .u8) 5 W w.heap.size (fun _ => True) (.slice (some ⟨b, 0, none⟩) n cap) xs
  bn : w.heap.size ≤ b ∧ b < n1 ∧ n1 ≤ n2 ∧ n2 < n3 ∧ n3 ≤ n4 ∧ n4 < n5 ∧ n5 ≤ n6 ∧ n6 < W.heap.size
section
variable {w wr W W1 : World} {bs xs : List Int} {n1 n2 n3 n4 n5 n6 : Nat} {x : S25} {A13 : Option Addr} {c13 : Nat} {A14 : Option Addr} {c14 : Nat} {A23 : Option Addr} {c23 : Nat} {A24 : Option Addr} {c24 : Nat} {A33 : Option Addr} {c33 : Nat} {A34 : Option Addr} {c34 : Nat} {b n cap : Nat}
theorem wt.M7.h1 (h : wt.M7 w wr bs xs n1 n2 n3 n4 n5 n6 W x A13 c13 A14 c14 A23 c23 A24 c24 A33 c33 A34 c34 b n cap) : n2 ≤ W.heap.size := by have := h.bn; omega
theorem wt.M7.below (h : wt.M7 w wr bs xs n1 n2 n3 n4 n5 n6 W x A13 c13 A14 c14 A23 c23 A24 c24 A33 c33 A34 c34 b n cap) (hb : Below W.heap.size W W1) : wt.M7 w wr bs xs n1 n2 n3 n4 n5 n6 W1 x A13 c13 A14 c14 A23 c23 A24 c24 A33 c33 A34 c34 b n cap :=
  have q := h.bn
  have s := hb.size
  ⟨h.t1.below hb (by omega), h.t2.below hb (by omega), h.t3.below hb (by omega), blk_below h.x1 hb, blk_below h.x2 hb, blk_below h.x3 hb, below_then h.bel h.bel.size hb, Kd.R_below h.row hb, by omega⟩
theorem wt.M7.still {A : Option Addr} {c : Nat} (h : wt.M7 w wr bs xs n1 n2 n3 n4 n5 n6 W x A13 c13 A14 c14 A23 c23 A24 c24 A33 c33 A34 c34 b (bs.length + 40) cap) (hle : wt.LentL bs xs) (hL : bs.length ≤ 140737488351232) (hC : (Kd.int .u8).C w A bs.length bs) (hc : bs.length ≤ c) :
    Calls Try.prog 17 #[.slice (some ⟨b, 0, none⟩) (bs.length + 40) cap, .slice A bs.length c] W fun e w' => e = .returned (.bool true) ∧ Below W.heap.size W w' := by
  obtain ⟨K, hK⟩ := wt.still_ok hle hL
  have hr := Kd.R_reads' h.row
  have := scruplelaw04_still.calls K (some ⟨b, 0, none⟩) cap xs A c bs true W hr.2.2 (by have := hr.1; have := hr.2.1; omega) (Kd.C_below hC h.bel) hc hK
  rw [hle.len] at this
  exact this.mono (fun e w' q => ⟨q.1, q.2.below⟩)
theorem wt.M7.wiped {mark : ByteArray} (h : wt.M7 w wr bs xs n1 n2 n3 n4 n5 n6 W x A13 c13 A14 c14 A23 c23 A24 c24 A33 c33 A34 c34 b n cap) (hs : wt.SimW (fun k => n1 ≤ k ∧ k < n2) mark W W1) : wt.MM w wr n1 n3 n4 n5 n6 W1 x A23 c23 A24 c24 A33 c33 A34 c34 b n cap := by
  have q := h.bn
  have s := hs.size
  have same : ∀ k, k < W.heap.size → k < n1 ∨ n2 ≤ k → W1.heap[k]? = W.heap[k]? := fun k hk hn => hs.out k hk (fun y => by omega)
  exact ⟨h.t2.move (fun k h1 h2 => same k (by omega) (by omega)), h.t3.move (fun k h1 h2 => same k (by omega) (by omega)), (same _ (by omega) (by omega)).trans h.x2, (same _ (by omega) (by omega)).trans h.x3,
    ⟨hs.os.trans h.bel.os, hs.tape.trans h.bel.tape, hs.output.trans h.bel.output, Nat.le_trans h.bel.size hs.size, fun k hk => (same k (Nat.lt_of_lt_of_le hk h.bel.size) (by omega)).trans (h.bel.block k hk)⟩,
    ⟨xs, Kd.R_step (Kd.R_tight rfl h.row) (fun k hk hlt => same k hlt (by have e : k = b := Option.some.inj (hk.trans rfl); omega)) |> fun z => Kd.R_mono z (fun _ _ => trivial)⟩, by omega⟩
theorem wt.MM.cell (h : wt.MM w wr n1 n3 n4 n5 n6 W x A23 c23 A24 c24 A33 c33 A34 c34 b n cap) {k : Nat} (hk : k < n) : ∃ old, W.cell? ⟨b, k, none⟩ = some (.int .u8 old) ∧ W.frozen? ⟨b, k, none⟩ = false := by
  obtain ⟨xs, hr⟩ := h.row
  have hx := Kd.R_reads' hr
  obtain ⟨ad, ea, hz⟩ := Kd.at_int hx.2.2 (k : Int) (by omega) (by omega)
  have ea := Option.some.inj ea
  rw [← ea, Int.toNat_natCast, Addr.add_lit, Nat.zero_add] at hz
  obtain ⟨g, cap', e1, _, _, cells, hcl⟩ := Kd.R_form hr (by omega)
  injection e1 with e1
  injection e1 with e1
  injection e1 with e1
  exact ⟨_, hz, by rw [e1]; exact blk_frozen hcl k⟩
theorem wt.MM.put (h : wt.MM w wr n1 n3 n4 n5 n6 W x A23 c23 A24 c24 A33 c33 A34 c34 b n cap) (k : Nat) : wt.MM w wr n1 n3 n4 n5 n6 (W.setCell ⟨b, k, none⟩ (.int .u8 9)) x A23 c23 A24 c24 A33 c33 A34 c34 b n cap := by
  have q := h.bn
  have same : ∀ i, i ≠ b → (W.setCell ⟨b, k, none⟩ (.int .u8 9)).heap[i]? = W.heap[i]? := fun i hi => Below.heap_setCell W ⟨b, k, none⟩ (.int .u8 9) i hi
  obtain ⟨xs, hr⟩ := h.row
  have hp := (Kd.R_putg hr (k : Int) 9).1
  rw [Int.toNat_natCast] at hp
  exact ⟨h.t2.move (fun i h1 h2 => same i (by omega)), h.t3.move (fun i h1 h2 => same i (by omega)), (same _ (by omega)).trans h.x2, (same _ (by omega)).trans h.x3, h.bel.setCell (show w.heap.size ≤ b from q.1) _, ⟨_, hp⟩, by rw [Deep.nblk_setCell]; omega⟩
theorem wt.MM.all (h : wt.MM w wr n1 n3 n4 n5 n6 W x A23 c23 A24 c24 A33 c33 A34 c34 b n cap) (hb : Below W.heap.size W W1) : Below w.heap.size w W1 := below_then h.bel h.bel.size hb
end
theorem wt.mk7 {w wr w1 w2 w3 w4 w5 w6 w7 : World} {bs xs : List Int} {x : S25} {A13 : Option Addr} {c13 : Nat} {A14 : Option Addr} {c14 : Nat} {A23 : Option Addr} {c23 : Nat} {A24 : Option Addr} {c24 : Nat} {A33 : Option Addr} {c33 : Nat} {A34 : Option Addr} {c34 : Nat} {b n cap : Nat}
    (hB : Below w.heap.size w wr) (b0 : Below wr.heap.size wr w1) (b1 : Below w1.heap.size w1 w2) (o1 : Below w2.heap.size w2 w3) (b2 : Below w3.heap.size w3 w4) (o2 : Below w4.heap.size w4 w5) (b3 : Below w5.heap.size w5 w6) (o3 : Below w6.heap.size w6 w7)
    (t1 : wt.Tr w2 w1.heap.size w2.heap.size x A13 c13 A14 c14) (t2 : wt.Tr w4 w3.heap.size w4.heap.size x A23 c23 A24 c24) (t3 : wt.Tr w6 w5.heap.size w6.heap.size x A33 c33 A34 c34)
    (x1 : w3.heap[w2.heap.size]? = some (.cells #[.int .i64 x.f0, .int .i64 x.f1, .string x.f2, .slice A13 x.f3.length c13, .slice A14 x.f4.length c14] 25 (0, 0))) (x2 : w5.heap[w4.heap.size]? = some (.cells #[.int .i64 x.f0, .int .i64 x.f1, .string x.f2, .slice A23 x.f3.length c23, .slice A24 x.f4.length c24] 25 (0, 0))) (x3 : w7.heap[w6.heap.size]? = some (.cells #[.int .i64 x.f0, .int .i64 x.f1, .string x.f2, .slice A33 x.f3.length c33, .slice A34 x.f4.length c34] 25 (0, 0)))
    (hr : Kd.R (Kd.int .u8) 5 w1 wr.heap.size (fun _ => True) (.slice (some ⟨b, 0, none⟩) n cap) xs) (hbb : wr.heap.size ≤ b ∧ b < w1.heap.size) :
    wt.M7 w wr bs xs w1.heap.size w2.heap.size w3.heap.size w4.heap.size w5.heap.size w6.heap.size w7 x A13 c13 A14 c14 A23 c23 A24 c24 A33 c33 A34 c34 b n cap := by
  have s0 := hB.size
  have s1 := b0.size
  have s2 := b1.size
  have s3 := blk_lt x1
  have s4 := b2.size
  have s5 := blk_lt x2
  have s6 := b3.size
  have s7 := blk_lt x3
  have e56 : Below w5.heap.size w5 w7 := below_then b3 b3.size o3
  have e47 : Below w4.heap.size w4 w7 := below_then o2 o2.size e56
  have e37 : Below w3.heap.size w3 w7 := below_then b2 b2.size e47
  have e27 : Below w2.heap.size w2 w7 := below_then o1 o1.size e37
  have e17 : Below w1.heap.size w1 w7 := below_then b1 b1.size e27
  exact ⟨t1.below e27 (Nat.le_refl _), t2.below e47 (Nat.le_refl _), t3.below o3 (Nat.le_refl _), blk_below x1 e37, blk_below x2 e56, x3, below_then (below_then hB s0 b0) (by omega) e17, Kd.R_lower (Kd.R_below hr e17) s0, by omega⟩
/-- WireTakes. -/
theorem wt.takes1 {bs ps : List Int} {w : World} {A PA : Option Addr} {c pc : Nat} (hC : (Kd.int .u8).C w A bs.length bs) (hc : bs.length ≤ c) (hP : (Kd.int .i64).C w PA ps.length ps) (hpc : ps.length ≤ pc) (hb : Pl.Bytes bs) (hl : bs.length ≤ 140737488351232) (hpl : ps.length ≤ 140737488351232) :
    Calls Try.prog 5 #[.slice A bs.length c, .slice PA ps.length pc] w fun e w' => e = .returned (.bool true) ∧ Below w.heap.size w w' := by
  have HU := Aside0.mk (wt.uin_of hb hl)
  have HRR := Aside0.mk (wt.rin_of hb hl)
  have HC := Aside0.mk hC
  have HCC := Aside0.mk hc
  have HP := Aside0.mk hP
  have HLL := Aside0.mk hl
  have HPL := Aside0.mk hpl
  have hu25 := Try.underlying25
  clear hC hc hP hpc hb hl hpl
  go_enter Try.func5, Try.ntmps5
  go_wp2
  go_loopw [5] (fun v5 wr => ∃ j : Nat, v5 = .int .i64 (j : Int) ∧ Aside0 (j ≤ ps.length + 1) ∧ Aside0 (Below w.heap.size w wr)) (fun v5 _ => (ps.length + 1) - (intOf v5).toNat)
  case atStart => exact ⟨0, rfl, ⟨Nat.zero_le _⟩, ⟨Below.refl _ _⟩⟩
  case round =>
    obtain ⟨j, rfl, HJ0, HB⟩ := hrel
    by_cases hlt : j < ps.length + 1
    · have HWR := Aside0.mk (show wrap64 ((j : Int) + 1) = (j : Int) + 1 by have := HPL.out; unfold wrap64; omega)
      have HM := Aside0.mk (wt.meas j (ps.length + 1) hlt HWR.out)
      have HJ := Aside0.mk (show j + 1 ≤ ps.length + 1 by omega)
      have i1 : decide ((j : Int) ≤ (ps.length : Int)) = true := decide_eq_true (by omega)
      have i2 : decide (j ≤ ps.length) = true := decide_eq_true (by omega)
      have i3 : (j ≤ ps.length) = True := eq_true (by omega)
      by_cases hjp : j < ps.length
      · have k1 : decide ((j : Int) < (ps.length : Int)) = true := decide_eq_true (by omega)
        have k2 : decide (j < ps.length) = true := decide_eq_true hjp
        have k3 : (j < ps.length) = True := eq_true hjp
        have t3 : (j : Int) < (ps.length : Int) := by omega
        obtain ⟨pad, hA, hz⟩ := Kd.at_int (Kd.C_below HP.out HB.out) (j : Int) (by omega) (by omega)
        subst hA
        rw [Int.toNat_natCast] at hz
        generalize rd ps (j : Int) = at_ at hz
        clear hlt hjp
        obtain ⟨x, n0, e0, hx⟩ : ∃ x n0 e0, wt.tk (wt.takeS bs (Pl.uintAt bs) (Pl.intAt bs) at_) = (x, n0, e0) := ⟨_, _, _, rfl⟩
        have HTK := Aside0.mk hx
        have HSM := Aside0.mk (show wt.sm 8 x by have q := wt.tk_sm HU.out at_; rw [hx] at q; exact q)
        clear hx
        go_wp2_with (first | (go_at_call 14; refine (wt.lent1 wr (Kd.C_below HC.out HB.out) HCC.out HLL.out).mono ?_; rintro e_ w1 ⟨b, cap, xs, rfl, hr, hle, hcap, hbl⟩; have RW1 := Aside0.mk hr; have LE := Aside0.mk hle; have CAP := Aside0.mk (show bs.length ≤ cap by omega); have BW0 := Aside0.mk hbl; have HBB := Aside0.mk (And.intro (Kd.R_base hr b rfl) (Kd.R_lt hr b rfl)); have T1K := HB; have C1 := Aside0.mk (wt.room_ok hr hle); clear hr hle hcap hbl T1K) | (go_at_call 22; refine (wt.take22 HU.out at_ HTK.out C1.out CAP.out).mono ?_; rintro e_ w2 ⟨A13, c13, A14, c14, rfl, ht, hb⟩; unfold wt.vl; have T1 := Aside0.mk ht; have BW1 := Aside0.mk hb; have C1b := C1;  clear ht hb C1) | ((with_reducible refine gate_store (p := 9) rfl ?_); refine wt.store_res rfl rfl 9 _ rfl w2.heap.size rfl (.int .i64 x.f0) (.int .i64 x.f1) (.string x.f2) (.slice A13 x.f3.length c13) (.slice A14 x.f4.length c14) rfl (fun q hq => by simp at hq; rcases hq with rfl | rfl | rfl | rfl | rfl <;> rfl) _ rfl (by simpa using heap_alloc_new w2 _) ?_; intro w3 hres hgr; have OW1 := Aside0.mk (wt.own_res hgr); have X1 := Aside0.mk hres;  clear hres hgr) | (go_at_call 22; refine (wt.take22 HU.out at_ HTK.out (Kd.C_below (Kd.C_below C1b.out BW1.out) OW1.out) CAP.out).mono ?_; rintro e_ w4 ⟨A23, c23, A24, c24, rfl, ht, hb⟩; unfold wt.vl; have T2 := Aside0.mk ht; have BW2 := Aside0.mk hb;  clear ht hb C1b) | ((with_reducible refine gate_store (p := 12) rfl ?_); refine wt.store_res rfl rfl 12 _ rfl w4.heap.size rfl (.int .i64 x.f0) (.int .i64 x.f1) (.string x.f2) (.slice A23 x.f3.length c23) (.slice A24 x.f4.length c24) rfl (fun q hq => by simp at hq; rcases hq with rfl | rfl | rfl | rfl | rfl <;> rfl) _ rfl (by simpa using heap_alloc_new w4 _) ?_; intro w5 hres hgr; have OW2 := Aside0.mk (wt.own_res hgr); have X2 := Aside0.mk hres;  clear hres hgr) | (go_at_call 23; refine (wt.take23 HU.out HRR.out at_ HTK.out HSM.out (Kd.C_below HC.out (below_then (below_then (below_then (below_then (below_then HB.out HB.out.size BW0.out) (by have := HB.out.size; have := BW0.out.size; omega) BW1.out) (by have := HB.out.size; have := BW0.out.size; have := BW1.out.size; omega) OW1.out) (by have := HB.out.size; have := BW0.out.size; have := BW1.out.size; have := OW1.out.size; omega) BW2.out) (by have := HB.out.size; have := BW0.out.size; have := BW1.out.size; have := OW1.out.size; have := BW2.out.size; omega) OW2.out)) HCC.out).mono ?_; rintro e_ w6 ⟨A33, c33, A34, c34, rfl, ht, hb⟩; unfold wt.vl; have T3 := Aside0.mk ht; have BW3 := Aside0.mk hb;  clear ht hb ) | ((with_reducible refine gate_store (p := 15) rfl ?_); refine wt.store_res rfl rfl 15 _ rfl w6.heap.size rfl (.int .i64 x.f0) (.int .i64 x.f1) (.string x.f2) (.slice A33 x.f3.length c33) (.slice A34 x.f4.length c34) rfl (fun q hq => by simp at hq; rcases hq with rfl | rfl | rfl | rfl | rfl <;> rfl) _ rfl (by simpa using heap_alloc_new w6 _) ?_; intro w7 hres hgr; have OW3 := Aside0.mk (wt.own_res hgr); have X3 := Aside0.mk hres; have M7 := Aside0.mk (wt.mk7 (bs := bs) HB.out BW0.out BW1.out OW1.out BW2.out OW2.out BW3.out OW3.out T1.out T2.out T3.out X1.out X2.out X3.out RW1.out HBB.out); have y1_0 := (blk_cell M7.out.x1 0).trans rfl; have y1_1 := (blk_cell M7.out.x1 1).trans rfl; have y1_2 := (blk_cell M7.out.x1 2).trans rfl; have y1_3 := (blk_cell M7.out.x1 3).trans rfl; have y1_4 := (blk_cell M7.out.x1 4).trans rfl; have y3_0 := (blk_cell M7.out.x3 0).trans rfl; have y3_1 := (blk_cell M7.out.x3 1).trans rfl; have y3_2 := (blk_cell M7.out.x3 2).trans rfl; have y3_3 := (blk_cell M7.out.x3 3).trans rfl; have y3_4 := (blk_cell M7.out.x3 4).trans rfl;  clear hres hgr) | (go_at_call 13; refine (wt.same13 HSM.out M7.out.t1 M7.out.t3).mono ?_; rintro e_ w8 ⟨rfl, hb⟩; have M8 := Aside0.mk (M7.out.below hb); clear hb M7 y1_0 y1_1 y1_2 y1_3 y1_4 y3_0 y3_1 y3_2 y3_3 y3_4) | (go_at_call 17; refine (M8.out.still LE.out HLL.out HC.out HCC.out).mono ?_; rintro e_ w9 ⟨rfl, hb⟩; have M9 := Aside0.mk (M8.out.below hb); clear hb M8; have y1_0 := (blk_cell M9.out.x1 0).trans rfl; have y1_1 := (blk_cell M9.out.x1 1).trans rfl; have y1_2 := (blk_cell M9.out.x1 2).trans rfl; have y1_3 := (blk_cell M9.out.x1 3).trans rfl; have y1_4 := (blk_cell M9.out.x1 4).trans rfl) | (go_at_call 21; refine (wt.over21 ⟨#[121]⟩ rfl HSM.out M9.out.t1 M9.out.h1).mono ?_; rintro e_ w10 ⟨rfl, hs⟩; have M10 := Aside0.mk (M9.out.wiped hs); clear hs M9 y1_0 y1_1 y1_2 y1_3 y1_4))
        go_loopw [18] (fun v18 wr2 => ∃ k : Nat, v18 = .int .i64 (k : Int) ∧ Aside0 (k ≤ bs.length + 40) ∧ Aside0 (wt.MM w wr w1.heap.size w3.heap.size w4.heap.size w5.heap.size w6.heap.size wr2 x A23 c23 A24 c24 A33 c33 A34 c34 b (bs.length + 40) cap)) (fun v18 _ => (bs.length + 40) - (intOf v18).toNat)
        case atStart => exact ⟨0, rfl, ⟨Nat.zero_le _⟩, M10⟩
        case round =>
          clear M10
          obtain ⟨k, rfl, HK0, HMM⟩ := hrel
          by_cases hlt : k < bs.length + 40
          · have q1 : decide ((k : Int) < ((bs.length + 40 : Nat) : Int)) = true := decide_eq_true (by omega)
            have q2 : decide ((k : Int) < (bs.length : Int) + 40) = true := decide_eq_true (by omega)
            have q3 : decide (k < bs.length + 40) = true := decide_eq_true hlt
            have q4 : (k < bs.length + 40) = True := eq_true hlt
            have t5 : (k : Int) < ((bs.length + 40 : Nat) : Int) := by omega
            have t6 : (k : Int) < (bs.length : Int) + 40 := by omega
            have HWR2 := Aside0.mk (show wrap64 ((k : Int) + 1) = (k : Int) + 1 by have := HLL.out; unfold wrap64; omega)
            have HM2 := Aside0.mk (wt.meas k (bs.length + 40) hlt HWR2.out)
            have HK := Aside0.mk (show k + 1 ≤ bs.length + 40 by omega)
            obtain ⟨old, z0, zf⟩ := HMM.out.cell hlt
            clear hlt
            go_wp2
            go_roundw
            case rel => exact ⟨k + 1, by rw [HWR2.out]; rfl, HK, ⟨HMM.out.put k⟩⟩
            case measure => exact HM2.out
          · have q1 : decide ((k : Int) < ((bs.length + 40 : Nat) : Int)) = false := decide_eq_false (by omega)
            have q2 : decide ((k : Int) < (bs.length : Int) + 40) = false := decide_eq_false (by omega)
            have q3 : decide (k < bs.length + 40) = false := decide_eq_false hlt
            have q4 : (k < bs.length + 40) = False := eq_false hlt
            clear hlt
            have y2_0 := (blk_cell HMM.out.x2 0).trans rfl; have y2_1 := (blk_cell HMM.out.x2 1).trans rfl; have y2_2 := (blk_cell HMM.out.x2 2).trans rfl; have y2_3 := (blk_cell HMM.out.x2 3).trans rfl; have y2_4 := (blk_cell HMM.out.x2 4).trans rfl; have y3_0 := (blk_cell HMM.out.x3 0).trans rfl; have y3_1 := (blk_cell HMM.out.x3 1).trans rfl; have y3_2 := (blk_cell HMM.out.x3 2).trans rfl; have y3_3 := (blk_cell HMM.out.x3 3).trans rfl; have y3_4 := (blk_cell HMM.out.x3 4).trans rfl
            go_wp2_with (first | (go_at_call 13; refine (wt.same13 HSM.out HMM.out.t2 HMM.out.t3).mono ?_; rintro e_ w12 ⟨rfl, hb⟩; have HB12 := Aside0.mk (HMM.out.all hb); clear hb y2_0 y2_1 y2_2 y2_3 y2_4 y3_0 y3_1 y3_2 y3_3 y3_4))
            go_roundw
            case rel => exact ⟨j + 1, by rw [HWR.out]; rfl, HJ, HB12⟩
            case measure => exact HM.out
      · have k1 : decide ((j : Int) < (ps.length : Int)) = false := decide_eq_false (by omega)
        have k2 : decide (j < ps.length) = false := decide_eq_false hjp
        have k3 : (j < ps.length) = False := eq_false hjp
        clear hlt hjp
        obtain ⟨x, n0, e0, hx⟩ : ∃ x n0 e0, wt.tk (wt.takeS bs (Pl.uintAt bs) (Pl.intAt bs) 0) = (x, n0, e0) := ⟨_, _, _, rfl⟩
        have HTK := Aside0.mk hx
        have HSM := Aside0.mk (show wt.sm 8 x by have q := wt.tk_sm HU.out 0; rw [hx] at q; exact q)
        clear hx
        go_wp2_with (first | (go_at_call 14; refine (wt.lent1 wr (Kd.C_below HC.out HB.out) HCC.out HLL.out).mono ?_; rintro e_ w1 ⟨b, cap, xs, rfl, hr, hle, hcap, hbl⟩; have RW1 := Aside0.mk hr; have LE := Aside0.mk hle; have CAP := Aside0.mk (show bs.length ≤ cap by omega); have BW0 := Aside0.mk hbl; have HBB := Aside0.mk (And.intro (Kd.R_base hr b rfl) (Kd.R_lt hr b rfl)); have T1K := HB; have C1 := Aside0.mk (wt.room_ok hr hle); clear hr hle hcap hbl T1K) | (go_at_call 22; refine (wt.take22 HU.out 0 HTK.out C1.out CAP.out).mono ?_; rintro e_ w2 ⟨A13, c13, A14, c14, rfl, ht, hb⟩; unfold wt.vl; have T1 := Aside0.mk ht; have BW1 := Aside0.mk hb; have C1b := C1;  clear ht hb C1) | ((with_reducible refine gate_store (p := 9) rfl ?_); refine wt.store_res rfl rfl 9 _ rfl w2.heap.size rfl (.int .i64 x.f0) (.int .i64 x.f1) (.string x.f2) (.slice A13 x.f3.length c13) (.slice A14 x.f4.length c14) rfl (fun q hq => by simp at hq; rcases hq with rfl | rfl | rfl | rfl | rfl <;> rfl) _ rfl (by simpa using heap_alloc_new w2 _) ?_; intro w3 hres hgr; have OW1 := Aside0.mk (wt.own_res hgr); have X1 := Aside0.mk hres;  clear hres hgr) | (go_at_call 22; refine (wt.take22 HU.out 0 HTK.out (Kd.C_below (Kd.C_below C1b.out BW1.out) OW1.out) CAP.out).mono ?_; rintro e_ w4 ⟨A23, c23, A24, c24, rfl, ht, hb⟩; unfold wt.vl; have T2 := Aside0.mk ht; have BW2 := Aside0.mk hb;  clear ht hb C1b) | ((with_reducible refine gate_store (p := 12) rfl ?_); refine wt.store_res rfl rfl 12 _ rfl w4.heap.size rfl (.int .i64 x.f0) (.int .i64 x.f1) (.string x.f2) (.slice A23 x.f3.length c23) (.slice A24 x.f4.length c24) rfl (fun q hq => by simp at hq; rcases hq with rfl | rfl | rfl | rfl | rfl <;> rfl) _ rfl (by simpa using heap_alloc_new w4 _) ?_; intro w5 hres hgr; have OW2 := Aside0.mk (wt.own_res hgr); have X2 := Aside0.mk hres;  clear hres hgr) | (go_at_call 23; refine (wt.take23 HU.out HRR.out 0 HTK.out HSM.out (Kd.C_below HC.out (below_then (below_then (below_then (below_then (below_then HB.out HB.out.size BW0.out) (by have := HB.out.size; have := BW0.out.size; omega) BW1.out) (by have := HB.out.size; have := BW0.out.size; have := BW1.out.size; omega) OW1.out) (by have := HB.out.size; have := BW0.out.size; have := BW1.out.size; have := OW1.out.size; omega) BW2.out) (by have := HB.out.size; have := BW0.out.size; have := BW1.out.size; have := OW1.out.size; have := BW2.out.size; omega) OW2.out)) HCC.out).mono ?_; rintro e_ w6 ⟨A33, c33, A34, c34, rfl, ht, hb⟩; unfold wt.vl; have T3 := Aside0.mk ht; have BW3 := Aside0.mk hb;  clear ht hb ) | ((with_reducible refine gate_store (p := 15) rfl ?_); refine wt.store_res rfl rfl 15 _ rfl w6.heap.size rfl (.int .i64 x.f0) (.int .i64 x.f1) (.string x.f2) (.slice A33 x.f3.length c33) (.slice A34 x.f4.length c34) rfl (fun q hq => by simp at hq; rcases hq with rfl | rfl | rfl | rfl | rfl <;> rfl) _ rfl (by simpa using heap_alloc_new w6 _) ?_; intro w7 hres hgr; have OW3 := Aside0.mk (wt.own_res hgr); have X3 := Aside0.mk hres; have M7 := Aside0.mk (wt.mk7 (bs := bs) HB.out BW0.out BW1.out OW1.out BW2.out OW2.out BW3.out OW3.out T1.out T2.out T3.out X1.out X2.out X3.out RW1.out HBB.out); have y1_0 := (blk_cell M7.out.x1 0).trans rfl; have y1_1 := (blk_cell M7.out.x1 1).trans rfl; have y1_2 := (blk_cell M7.out.x1 2).trans rfl; have y1_3 := (blk_cell M7.out.x1 3).trans rfl; have y1_4 := (blk_cell M7.out.x1 4).trans rfl; have y3_0 := (blk_cell M7.out.x3 0).trans rfl; have y3_1 := (blk_cell M7.out.x3 1).trans rfl; have y3_2 := (blk_cell M7.out.x3 2).trans rfl; have y3_3 := (blk_cell M7.out.x3 3).trans rfl; have y3_4 := (blk_cell M7.out.x3 4).trans rfl;  clear hres hgr) | (go_at_call 13; refine (wt.same13 HSM.out M7.out.t1 M7.out.t3).mono ?_; rintro e_ w8 ⟨rfl, hb⟩; have M8 := Aside0.mk (M7.out.below hb); clear hb M7 y1_0 y1_1 y1_2 y1_3 y1_4 y3_0 y3_1 y3_2 y3_3 y3_4) | (go_at_call 17; refine (M8.out.still LE.out HLL.out HC.out HCC.out).mono ?_; rintro e_ w9 ⟨rfl, hb⟩; have M9 := Aside0.mk (M8.out.below hb); clear hb M8; have y1_0 := (blk_cell M9.out.x1 0).trans rfl; have y1_1 := (blk_cell M9.out.x1 1).trans rfl; have y1_2 := (blk_cell M9.out.x1 2).trans rfl; have y1_3 := (blk_cell M9.out.x1 3).trans rfl; have y1_4 := (blk_cell M9.out.x1 4).trans rfl) | (go_at_call 21; refine (wt.over21 ⟨#[121]⟩ rfl HSM.out M9.out.t1 M9.out.h1).mono ?_; rintro e_ w10 ⟨rfl, hs⟩; have M10 := Aside0.mk (M9.out.wiped hs); clear hs M9 y1_0 y1_1 y1_2 y1_3 y1_4))
        go_loopw [18] (fun v18 wr2 => ∃ k : Nat, v18 = .int .i64 (k : Int) ∧ Aside0 (k ≤ bs.length + 40) ∧ Aside0 (wt.MM w wr w1.heap.size w3.heap.size w4.heap.size w5.heap.size w6.heap.size wr2 x A23 c23 A24 c24 A33 c33 A34 c34 b (bs.length + 40) cap)) (fun v18 _ => (bs.length + 40) - (intOf v18).toNat)
        case atStart => exact ⟨0, rfl, ⟨Nat.zero_le _⟩, M10⟩
        case round =>
          clear M10
          obtain ⟨k, rfl, HK0, HMM⟩ := hrel
          by_cases hlt : k < bs.length + 40
          · have q1 : decide ((k : Int) < ((bs.length + 40 : Nat) : Int)) = true := decide_eq_true (by omega)
            have q2 : decide ((k : Int) < (bs.length : Int) + 40) = true := decide_eq_true (by omega)
            have q3 : decide (k < bs.length + 40) = true := decide_eq_true hlt
            have q4 : (k < bs.length + 40) = True := eq_true hlt
            have t5 : (k : Int) < ((bs.length + 40 : Nat) : Int) := by omega
            have t6 : (k : Int) < (bs.length : Int) + 40 := by omega
            have HWR2 := Aside0.mk (show wrap64 ((k : Int) + 1) = (k : Int) + 1 by have := HLL.out; unfold wrap64; omega)
            have HM2 := Aside0.mk (wt.meas k (bs.length + 40) hlt HWR2.out)
            have HK := Aside0.mk (show k + 1 ≤ bs.length + 40 by omega)
            obtain ⟨old, z0, zf⟩ := HMM.out.cell hlt
            clear hlt
            go_wp2
            go_roundw
            case rel => exact ⟨k + 1, by rw [HWR2.out]; rfl, HK, ⟨HMM.out.put k⟩⟩
            case measure => exact HM2.out
          · have q1 : decide ((k : Int) < ((bs.length + 40 : Nat) : Int)) = false := decide_eq_false (by omega)
            have q2 : decide ((k : Int) < (bs.length : Int) + 40) = false := decide_eq_false (by omega)
            have q3 : decide (k < bs.length + 40) = false := decide_eq_false hlt
            have q4 : (k < bs.length + 40) = False := eq_false hlt
            clear hlt
            have y2_0 := (blk_cell HMM.out.x2 0).trans rfl; have y2_1 := (blk_cell HMM.out.x2 1).trans rfl; have y2_2 := (blk_cell HMM.out.x2 2).trans rfl; have y2_3 := (blk_cell HMM.out.x2 3).trans rfl; have y2_4 := (blk_cell HMM.out.x2 4).trans rfl; have y3_0 := (blk_cell HMM.out.x3 0).trans rfl; have y3_1 := (blk_cell HMM.out.x3 1).trans rfl; have y3_2 := (blk_cell HMM.out.x3 2).trans rfl; have y3_3 := (blk_cell HMM.out.x3 3).trans rfl; have y3_4 := (blk_cell HMM.out.x3 4).trans rfl
            go_wp2_with (first | (go_at_call 13; refine (wt.same13 HSM.out HMM.out.t2 HMM.out.t3).mono ?_; rintro e_ w12 ⟨rfl, hb⟩; have HB12 := Aside0.mk (HMM.out.all hb); clear hb y2_0 y2_1 y2_2 y2_3 y2_4 y3_0 y3_1 y3_2 y3_3 y3_4))
            go_roundw
            case rel => exact ⟨j + 1, by rw [HWR.out]; rfl, HJ, HB12⟩
            case measure => exact HM.out
    · have i1 : decide ((j : Int) ≤ (ps.length : Int)) = false := decide_eq_false (by omega)
      have i2 : decide (j ≤ ps.length) = false := decide_eq_false (by omega)
      have i3 : (j ≤ ps.length) = False := eq_false (by omega)
      clear hlt
      go_wp2
      go_ret
      exact ⟨rfl, HB.out⟩
end
end Go.Proofs.Ytnkbobblnhaclaa.X

