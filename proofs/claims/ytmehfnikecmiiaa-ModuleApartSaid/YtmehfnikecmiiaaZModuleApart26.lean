/- Texts of the claim of ModuleApart, one behind the other; what nothing names is left out. -/
import Derived.Test.YtmehfnikecmiiaaZModuleApart3
import Derived.Test.YtmehfnikecmiiaaZModuleApart2
import Derived.WalkLawsBesides
import Derived.Laws.Pointers
import Derived.Shelf.Abstract
import Derived.Deep.DeepMust
import Derived.Deep.QuietTactic
import Derived.BigQuiet
import Derived.ChangeArms
import Derived.Test.YtmehfnikecmiiaaZModuleApart7
import Derived.Test.YtmehfnikecmiiaaZModuleApart25
import Derived.Test.YtmehfnikecmiiaaZModuleApart18
import Derived.Test.YtmehfnikecmiiaaZModuleApart16
import Derived.Deep.Upon
import Derived.ArgAppend
import Derived.Lib.SlBytesConst
import Derived.Test.YtmehfnikecmiiaaZModuleApart21
set_option linter.unusedVariables false
set_option linter.unusedSimpArgs false
/- Xxmbody: walks by hand, for the claim. -/
namespace Go.Proofs.Ytmehfnikecmiiaa.X
open Go.RowKit Go.Proofs.YtmehfnikecmiiaaW.PrintWords Go.Proofs.YtmehfnikecmiiaaW.PrintLast Go.Proofs.YtmehfnikecmiiaaW.PrintMore Go.Proofs.YtmehfnikecmiiaaW
section
set_option maxHeartbeats 4000000
set_option maxRecDepth 100000
open Go.Proofs.Ytmehfnikecmiiaa Go.Proofs.Ytmehfnikecmiiaa.Pl
theorem mb.row_wr {k n : Nat} (h : k < n) (hn : n ≤ 1048576) : wrap64 ((k : Int) + 1) = (k : Int) + 1 := by unfold wrap64; omega
theorem mb.meas (k n : Nat) (hlt : k < n) (hw : wrap64 ((k : Int) + 1) = (k : Int) + 1) : n - (intOf (.int .i64 (wrap64 ((k : Int) + 1)))).toNat < n - (intOf (.int .i64 (k : Int))).toNat := by
  rw [hw]
  show n - ((k : Int) + 1).toNat < n - ((k : Int)).toNat
  omega
theorem mb.take_map {α : Type} (c : α → List Int) (xs : List α) (j : Nat) (x : α) (h : xs[j]? = some x) : ((xs.take (j + 1)).map c).flatten = ((xs.take j).map c).flatten ++ c x := by
  have hj := (List.getElem?_eq_some_iff.1 h).1
  rw [List.take_add_one, h]
  simp
theorem mb.flat_le {α : Type} (c : α → List Int) (m : Nat) : ∀ (l : List α), (∀ x ∈ l, (c x).length ≤ m) → ((l.map c).flatten).length ≤ m * l.length
  | [], _ => by simp
  | x :: l, h => by
    have h1 := mb.flat_le c m l (fun y hy => h y (List.mem_cons_of_mem _ hy))
    have h2 := h x List.mem_cons_self
    simp only [List.map_cons, List.flatten_cons, List.length_append, List.length_cons]
    rw [Nat.mul_add, Nat.mul_one]
    omega
/-- An export's bytes. -/
def mb.e56 (x : S56) : List Int := enX (x.f0, x.f1)
def mb.e52 (x : S52) : List Int := enF ((x.f0, x.f1), (x.f2, x.f3))
def mb.g56 (x : S56) : Prop := x.f0.size ≤ 64 ∧ 0 ≤ x.f1 ∧ x.f1 ≤ 1000000
def mb.g52 (x : S52) : Prop := (0 ≤ x.f0 ∧ x.f0 ≤ 1000000) ∧ (0 ≤ x.f1 ∧ x.f1 ≤ 1000000) ∧ (0 ≤ x.f2 ∧ x.f2 ≤ 1000000) ∧ x.f3.size ≤ 4000
theorem mb.e56_len {x : S56} (h : mb.g56 x) : (mb.e56 x).length ≤ 100 := by
  have h1 := putU_len (x.f0.size : Int)
  have h2 := putU_len x.f1
  have := h.1
  unfold mb.e56 enX X.str
  simp only [List.length_append, bytesOf_len]
  omega
theorem mb.put31 {b : List Int} {x : S56} (h : mb.g56 x) (hb : b.length ≤ 1000000) : module_putExport.f 10 b x.f0 x.f1 = some (b ++ mb.e56 x) := by
  have h1 := putU_len (x.f0.size : Int)
  obtain ⟨q0, q1, q2⟩ := h
  unfold module_putExport.f
  rw [PutText_eq 10 b x.f0 (Nat.le_refl _) (by omega), Option.bind_some, u64w _ q1 (by omega), PutUint_eq 10 _ x.f1 (Nat.le_refl _) q1 (by omega) (by simp only [List.length_append, bytesOf_len]; omega)]
  unfold mb.e56 enX X.str
  simp
theorem mb.body30 {xs : List S56} {A : Option Addr} {c : Nat} (w : World) (hA : k56.C w A xs.length xs) (hc : xs.length ≤ c) (hn : xs.length ≤ 1000) (hx : ∀ x ∈ xs, mb.g56 x) :
    Calls Try.prog 30 #[.slice A xs.length c, .func (.func 31) #[] #[]] w fun e w' => ∃ A' c', e = .returned (.slice A' (lst mb.e56 xs).length c') ∧ (Kd.int .u8).C w' A' (lst mb.e56 xs).length (lst mb.e56 xs) ∧ (lst mb.e56 xs).length ≤ c' ∧ Below w.heap.size w w' := by
  have hu := Try.underlying56
  have HA := Aside0.mk hA; have HCA := Aside0.mk hc; have HX := Aside0.mk hx; have HN := Aside0.mk hn
  have hw : IntKind.u64.wrap (xs.length : Int) = (xs.length : Int) := u64w _ (by omega) (by omega)
  have PU := Aside0.mk (fun (W : World) => num_PutUint.calls 10 none 0 [] (xs.length : Int) ([] ++ putU (xs.length : Int)) W (Kd.C_nil (Kd.int .u8) W) (Nat.le_refl _) (PutUint_eq 10 [] (xs.length : Int) (Nat.le_refl _) (by omega) (by omega) (by simp)))
  rw [List.nil_append] at PU
  have HPL := Aside0.mk (putU_len (xs.length : Int)).2
  clear hA hc hx hn
  go_enter Try.func30, Try.ntmps30
  go_wp2_with (first | (go_at_call 49; refine (PU.out _).mono ?_; rintro e_ w1 ⟨v0, rfl, hr, hb⟩; have R1 := Aside0.mk hr; have B1 := Aside0.mk hb; clear hr hb))
  obtain ⟨A1, c1, e1⟩ := Kd.R_slice R1.out
  subst e1
  go_loopw [14, 5] (fun v14 v5 wr => ∃ (j : Nat) (B : Option Addr) (cb : Nat) (b : List Int), v14 = .int .i64 (j : Int) ∧ v5 = .slice B b.length cb ∧ Aside0 (j ≤ xs.length ∧ b = putU (xs.length : Int) ++ ((xs.take j).map mb.e56).flatten) ∧ Aside0 ((Kd.int .u8).C wr B b.length b ∧ b.length ≤ cb) ∧ Aside0 (Below w.heap.size w wr)) (fun v14 _ _ => xs.length - (intOf v14).toNat)
  case atStart => exact ⟨0, A1, c1, putU (xs.length : Int), rfl, rfl, ⟨Nat.zero_le _, by simp⟩, ⟨(Kd.R_reads' R1.out).2.2, (Kd.R_reads' R1.out).2.1⟩, B1⟩
  case round =>
    clear R1 B1
    obtain ⟨j, B, cb, b, rfl, rfl, HJ, HB, HO⟩ := hrel
    by_cases hlt : j < xs.length
    · have i1 : decide ((j : Int) < (xs.length : Int)) = true := decide_eq_true (by omega)
      have i2 : decide (j < xs.length) = true := decide_eq_true hlt
      have i3 : (j < xs.length) = True := eq_true hlt
      have i4 : (j : Int) < (xs.length : Int) := by omega
      have HWR := Aside0.mk (mb.row_wr hlt (by have := HN.out; omega))
      have HM := Aside0.mk (mb.meas j xs.length hlt HWR.out)
      have HJ1 := Aside0.mk (show j + 1 ≤ xs.length from hlt)
      have hg : xs[j]? = some (rd_T56 xs (j : Int)) := by
        unfold rd_T56
        rw [Int.toNat_natCast, List.getD_eq_getElem?_getD, List.getElem?_eq_getElem hlt]
        rfl
      obtain ⟨ad, ea, h0, h1⟩ := at_T56 (Kd.C_below HA.out HO.out) (j : Int) (by omega) (by omega)
      subst ea
      rw [Int.toNat_natCast] at h0 h1
      generalize rd_T56 xs (j : Int) = x at *
      have hgx := HX.out x (List.mem_of_getElem? hg)
      have hlen : b.length ≤ 10 + 100 * 1000 := by
        have h1 := mb.flat_le mb.e56 100 (xs.take j) (fun y hy => mb.e56_len (HX.out y (List.mem_of_mem_take hy)))
        have h2 := HPL.out
        have h3 : (xs.take j).length ≤ 1000 := by rw [List.length_take]; have := HN.out; omega
        rw [HJ.out.2, List.length_append]
        have h4 : 100 * (xs.take j).length ≤ 100 * 1000 := Nat.mul_le_mul_left _ h3
        omega
      have PT := Aside0.mk (fun (W : World) (hO : Below w.heap.size w W) (hB : (Kd.int .u8).C W B b.length b) => show Calls Try.prog 31 #[.slice B b.length cb, .agg #[.string x.f0, .int .i64 x.f1]] W (fun e w' => ∃ A' c', e = .returned (.slice A' (b ++ mb.e56 x).length c') ∧ (Kd.int .u8).C w' A' (b ++ mb.e56 x).length (b ++ mb.e56 x) ∧ (b ++ mb.e56 x).length ≤ c' ∧ Below w.heap.size w w') from (module_putExport.calls 10 B cb b x.f0 x.f1 (b ++ mb.e56 x) W hB HB.out.2 (mb.put31 hgx (by omega))).mono (fun e w' ⟨v, h1, h2, h3⟩ => by
        obtain ⟨A', c', e'⟩ := Kd.R_slice h2
        subst e'
        exact ⟨A', c', h1, (Kd.R_reads' h2).2.2, (Kd.R_reads' h2).2.1, below_then hO hO.size h3⟩))
      have HBB := Aside0.mk (show b ++ mb.e56 x = putU (xs.length : Int) ++ ((xs.take (j + 1)).map mb.e56).flatten by rw [mb.take_map mb.e56 xs j x hg, HJ.out.2, List.append_assoc])
      generalize hb2 : b ++ mb.e56 x = b2 at PT HBB
      clear hlt hg hgx hlen hb2
      go_wp2_with (first | (go_at_call 31; refine (PT.out _ (HO.out.alloc HO.out.size _) (Kd.C_alloc HB.out.1 _)).mono ?_; rintro e_ w2 ⟨A2, c2, rfl, hr, hcc, hb⟩; have R2 := Aside0.mk hr; have C2 := Aside0.mk hcc; have B2 := Aside0.mk hb; clear hr hcc hb))
      go_roundw
      case rel => exact ⟨j + 1, A2, c2, b2, by rw [HWR.out]; rfl, rfl, ⟨HJ1.out, HBB.out⟩, ⟨R2.out, C2.out⟩, B2⟩
      case measure => exact HM.out
    · have i1 : decide ((j : Int) < (xs.length : Int)) = false := decide_eq_false (by omega)
      have i2 : decide (j < xs.length) = false := decide_eq_false hlt
      have i3 : (j < xs.length) = False := eq_false hlt
      have hb : b = lst mb.e56 xs := by
        rw [HJ.out.2, List.take_of_length_le (by omega)]
        rfl
      have HBB := Aside0.mk hb
      clear hlt hb
      go_wp2
      go_ret
      exact ⟨B, cb, by rw [← HBB.out]; rfl, HBB.out ▸ HB.out.1, HBB.out ▸ HB.out.2, HO.out⟩
theorem mb.e52_len {x : S52} (h : mb.g52 x) : (mb.e52 x).length ≤ 5000 := by
  have h1 := putU_len x.f0
  have h2 := putU_len x.f1
  have h3 := putU_len x.f2
  have h4 := putU_len (x.f3.size : Int)
  have := h.2.2.2
  unfold mb.e52 enF X.str
  simp only [List.length_append, bytesOf_len]
  omega
/-- Three numbers and a text, behind some bytes. -/
theorem mb.func29 {b : List Int} {A0 : Option Addr} {c0 : Nat} {x : S52} (hx : mb.g52 x) (hb : b.length ≤ 10000000) (w : World) (hC : (Kd.int .u8).C w A0 b.length b) (hc0 : b.length ≤ c0) :
    Calls Try.prog 29 #[.slice A0 b.length c0, .agg #[.int .i64 x.f0, .int .i64 x.f1, .int .i64 x.f2, .string x.f3]] w fun e w' => ∃ A' c', e = .returned (.slice A' (b ++ mb.e52 x).length c') ∧ (Kd.int .u8).C w' A' (b ++ mb.e52 x).length (b ++ mb.e52 x) ∧ (b ++ mb.e52 x).length ≤ c' ∧ Below w.heap.size w w' := by
  obtain ⟨⟨p0, p1⟩, ⟨l0, l1⟩, ⟨s0, s1⟩, hk⟩ := hx
  have hu52 := Try.underlying52
  have wp : IntKind.u64.wrap x.f0 = x.f0 := u64w _ p0 (by omega)
  have wl : IntKind.u64.wrap x.f1 = x.f1 := u64w _ l0 (by omega)
  have ws : IntKind.u64.wrap x.f2 = x.f2 := u64w _ s0 (by omega)
  have n1 := (putU_len x.f0).2
  have n2 := (putU_len x.f1).2
  have n3 := (putU_len x.f2).2
  have PUT := Aside0.mk (fun (n : Int) (h0 : 0 ≤ n) (h1 : n ≤ 1000000) (d : List Int) (hd : d.length ≤ 20000000) (W : World) (B : Option Addr) (cb : Nat) hB hcb => num_PutUint.calls 10 B cb d n (d ++ putU n) W hB hcb (PutUint_eq 10 d n (Nat.le_refl _) h0 (by omega) (by omega)))
  have PTX := Aside0.mk (fun (d : List Int) (hd : d.length ≤ 20000000) (W : World) (B : Option Addr) (cb : Nat) hB hcb => num_PutText.calls 10 B cb d x.f3 (d ++ putU x.f3.size ++ bytesOf x.f3) W hB hcb (PutText_eq 10 d x.f3 (Nat.le_refl _) (by omega)))
  have HB0 := Aside0.mk hC; have HC0 := Aside0.mk hc0
  have HBL := Aside0.mk hb
  have HP := Aside0.mk (And.intro p0 p1); have HL := Aside0.mk (And.intro l0 l1); have HS := Aside0.mk (And.intro s0 s1)
  have N1 := Aside0.mk n1; have N2 := Aside0.mk n2; have N3 := Aside0.mk n3
  clear hC hc0 hb p0 p1 l0 l1 s0 s1 n1 n2 n3 hk
  go_enter Try.func29, Try.ntmps29
  go_wp2_with (first | ((with_reducible refine gate_dst (N := 3) rfl ?_); refine box_event ?hg (N := 3) ?hd (cs := #[.int .i64 x.f0, .int .i64 x.f1, .int .i64 x.f2, .string x.f3]) (t := 52) ?hr ?_; (case hd => rfl); (case hg => rfl); (case hr => first | (go_simp; done) | (go_simp; rfl)); intro gb hg w1 hbox hb1; have BX1 := Aside0.mk hbox; have B1 := Aside0.mk hb1; clear hbox hb1 hg; have z0 : w1.cell? ⟨gb, 0, none⟩ = some (.int .i64 x.f0) := (blk_cell BX1.out 0).trans rfl; have z1 : w1.cell? ⟨gb, 1, none⟩ = some (.int .i64 x.f1) := (blk_cell BX1.out 1).trans rfl; have z2 : w1.cell? ⟨gb, 2, none⟩ = some (.int .i64 x.f2) := (blk_cell BX1.out 2).trans rfl))
  have LB := Aside0.mk (show (w1.alloc (.cells #[.int .i64 x.f0, .int .i64 x.f1, .int .i64 x.f2] 3)).heap[w1.heap.size]? = some (.cells #[.int .i64 x.f0, .int .i64 x.f1, .int .i64 x.f2] 3 (0, 0)) by simpa using heap_alloc_new w1 _)
  have BA := Aside0.mk (B1.out.alloc B1.out.size (.cells #[.int .i64 x.f0, .int .i64 x.f1, .int .i64 x.f2] 3))
  have BX2 := Aside0.mk (blk_alloc BX1.out (.cells #[.int .i64 x.f0, .int .i64 x.f1, .int .i64 x.f2] 3))
  have WP := Aside0.mk wp; have WL := Aside0.mk wl; have WS := Aside0.mk ws
  clear z0 z1 z2 wp wl ws
  go_loopw [15, 0] (fun v15 v0 wr => ∃ (j : Nat) (B : Option Addr) (cb : Nat) (d : List Int), v15 = .int .i64 (j : Int) ∧ v0 = .slice B d.length cb ∧ Aside0 (j ≤ 3 ∧ d = b ++ (([x.f0, x.f1, x.f2].take j).map putU).flatten) ∧ Aside0 ((Kd.int .u8).C wr B d.length d ∧ d.length ≤ cb) ∧ Aside0 (wr.heap[w1.heap.size]? = some (.cells #[.int .i64 x.f0, .int .i64 x.f1, .int .i64 x.f2] 3 (0, 0))) ∧ Aside0 (wr.heap[gb]? = some (.cells #[.int .i64 x.f0, .int .i64 x.f1, .int .i64 x.f2, .string x.f3] 52 (0, 0))) ∧ Aside0 (Below w.heap.size w wr)) (fun v15 _ _ => 3 - (intOf v15).toNat)
  case atStart => exact ⟨0, A0, c0, b, rfl, rfl, ⟨Nat.zero_le _, by simp⟩, ⟨Kd.C_below HB0.out BA.out, HC0.out⟩, LB, BX2, BA⟩
  case round =>
    clear LB BX2 BA
    obtain ⟨j, B, cb, d, rfl, rfl, HJ, HB, LB, BX2, BA⟩ := hrel
    have z0 := (blk_cell LB.out 0).trans rfl
    have z1 := (blk_cell LB.out 1).trans rfl
    have z2 := (blk_cell LB.out 2).trans rfl
    have o3 := (blk_cell BX2.out 3).trans rfl
    by_cases hlt : j < 3
    · obtain rfl | rfl | rfl : j = 0 ∨ j = 1 ∨ j = 2 := by omega
      · have hl : d.length ≤ 20000000 := by
          have h1 := N1.out; have h2 := N2.out; have h3 := N3.out; have h4 := HBL.out
          rw [HJ.out.2]; simp; omega
        have HD := Aside0.mk (show d ++ putU x.f0 = b ++ (([x.f0, x.f1, x.f2].take 1).map putU).flatten by rw [HJ.out.2]; simp)
        have hw := WP.out
        have PTD := Aside0.mk (fun (W : World) (hB : Below wr.heap.size wr W) => PUT.out x.f0 HP.out.1 HP.out.2 d hl W B cb (Kd.C_below HB.out.1 hB) HB.out.2)
        generalize hd2 : d ++ putU x.f0 = d2 at PTD HD
        clear hlt hl hd2
        go_wp2_with (first | (go_at_call 49; refine (PTD.out _ (Below.refl _ _)).mono ?_; rintro e_ w2 ⟨v0, rfl, hr, hb⟩; have R2 := Aside0.mk hr; have B2 := Aside0.mk hb; clear hr hb z0 z1 z2 o3))
        obtain ⟨A2, c2, e2⟩ := Kd.R_slice R2.out
        subst e2
        go_roundw
        case rel => exact ⟨1, A2, c2, d2, rfl, rfl, ⟨by decide, HD.out⟩, ⟨(Kd.R_reads' R2.out).2.2, (Kd.R_reads' R2.out).2.1⟩, ⟨blk_below LB.out B2.out⟩, ⟨blk_below BX2.out B2.out⟩, ⟨below_then BA.out BA.out.size B2.out⟩⟩
        case measure => decide
      · have hl : d.length ≤ 20000000 := by
          have h1 := N1.out; have h2 := N2.out; have h3 := N3.out; have h4 := HBL.out
          rw [HJ.out.2]; simp; omega
        have HD := Aside0.mk (show d ++ putU x.f1 = b ++ (([x.f0, x.f1, x.f2].take 2).map putU).flatten by rw [HJ.out.2]; simp)
        have hw := WL.out
        have PTD := Aside0.mk (fun (W : World) (hB : Below wr.heap.size wr W) => PUT.out x.f1 HL.out.1 HL.out.2 d hl W B cb (Kd.C_below HB.out.1 hB) HB.out.2)
        generalize hd2 : d ++ putU x.f1 = d2 at PTD HD
        clear hlt hl hd2
        go_wp2_with (first | (go_at_call 49; refine (PTD.out _ (Below.refl _ _)).mono ?_; rintro e_ w2 ⟨v0, rfl, hr, hb⟩; have R2 := Aside0.mk hr; have B2 := Aside0.mk hb; clear hr hb z0 z1 z2 o3))
        obtain ⟨A2, c2, e2⟩ := Kd.R_slice R2.out
        subst e2
        go_roundw
        case rel => exact ⟨2, A2, c2, d2, rfl, rfl, ⟨by decide, HD.out⟩, ⟨(Kd.R_reads' R2.out).2.2, (Kd.R_reads' R2.out).2.1⟩, ⟨blk_below LB.out B2.out⟩, ⟨blk_below BX2.out B2.out⟩, ⟨below_then BA.out BA.out.size B2.out⟩⟩
        case measure => decide
      · have hl : d.length ≤ 20000000 := by
          have h1 := N1.out; have h2 := N2.out; have h3 := N3.out; have h4 := HBL.out
          rw [HJ.out.2]; simp; omega
        have HD := Aside0.mk (show d ++ putU x.f2 = b ++ (([x.f0, x.f1, x.f2].take 3).map putU).flatten by rw [HJ.out.2]; simp)
        have hw := WS.out
        have PTD := Aside0.mk (fun (W : World) (hB : Below wr.heap.size wr W) => PUT.out x.f2 HS.out.1 HS.out.2 d hl W B cb (Kd.C_below HB.out.1 hB) HB.out.2)
        generalize hd2 : d ++ putU x.f2 = d2 at PTD HD
        clear hlt hl hd2
        go_wp2_with (first | (go_at_call 49; refine (PTD.out _ (Below.refl _ _)).mono ?_; rintro e_ w2 ⟨v0, rfl, hr, hb⟩; have R2 := Aside0.mk hr; have B2 := Aside0.mk hb; clear hr hb z0 z1 z2 o3))
        obtain ⟨A2, c2, e2⟩ := Kd.R_slice R2.out
        subst e2
        go_roundw
        case rel => exact ⟨3, A2, c2, d2, rfl, rfl, ⟨by decide, HD.out⟩, ⟨(Kd.R_reads' R2.out).2.2, (Kd.R_reads' R2.out).2.1⟩, ⟨blk_below LB.out B2.out⟩, ⟨blk_below BX2.out B2.out⟩, ⟨below_then BA.out BA.out.size B2.out⟩⟩
        case measure => decide
    · obtain rfl : j = 3 := by have := HJ.out.1; omega
      clear hlt z0 z1 z2
      have hd : d = b ++ (putU x.f0 ++ (putU x.f1 ++ putU x.f2)) := by rw [HJ.out.2]; simp
      have HD := Aside0.mk hd
      have hl : d.length ≤ 20000000 := by
        have h1 := N1.out; have h2 := N2.out; have h3 := N3.out; have h4 := HBL.out
        rw [hd]; simp only [List.length_append]; omega
      have HE := Aside0.mk (show d ++ putU x.f3.size ++ bytesOf x.f3 = b ++ mb.e52 x by rw [hd]; unfold mb.e52 enF X.str; simp)
      have PTD := Aside0.mk (fun (W : World) (hB : Below wr.heap.size wr W) => PTX.out d hl W B cb (Kd.C_below HB.out.1 hB) HB.out.2)
      rw [HE.out] at PTD
      clear hd hl
      go_wp2_with (first | (go_at_call 32; refine (PTD.out _ (Below.refl _ _)).mono ?_; rintro e_ w2 ⟨v0, rfl, hr, hb⟩; have R2 := Aside0.mk hr; have B2 := Aside0.mk hb; clear hr hb o3))
      obtain ⟨A2, c2, e2⟩ := Kd.R_slice R2.out
      subst e2
      go_ret
      exact ⟨A2, c2, rfl, (Kd.R_reads' R2.out).2.2, (Kd.R_reads' R2.out).2.1, below_then BA.out BA.out.size B2.out⟩
theorem mb.body28 {xs : List S52} {A : Option Addr} {c : Nat} (w : World) (hA : k52.C w A xs.length xs) (hc : xs.length ≤ c) (hn : xs.length ≤ 1000) (hx : ∀ x ∈ xs, mb.g52 x) :
    Calls Try.prog 28 #[.slice A xs.length c, .func (.func 29) #[] #[]] w fun e w' => ∃ A' c', e = .returned (.slice A' (lst mb.e52 xs).length c') ∧ (Kd.int .u8).C w' A' (lst mb.e52 xs).length (lst mb.e52 xs) ∧ (lst mb.e52 xs).length ≤ c' ∧ Below w.heap.size w w' := by
  have hu := Try.underlying52
  have HA := Aside0.mk hA; have HCA := Aside0.mk hc; have HX := Aside0.mk hx; have HN := Aside0.mk hn
  have hw : IntKind.u64.wrap (xs.length : Int) = (xs.length : Int) := u64w _ (by omega) (by omega)
  have PU := Aside0.mk (fun (W : World) => num_PutUint.calls 10 none 0 [] (xs.length : Int) ([] ++ putU (xs.length : Int)) W (Kd.C_nil (Kd.int .u8) W) (Nat.le_refl _) (PutUint_eq 10 [] (xs.length : Int) (Nat.le_refl _) (by omega) (by omega) (by simp)))
  rw [List.nil_append] at PU
  have HPL := Aside0.mk (putU_len (xs.length : Int)).2
  clear hA hc hx hn
  go_enter Try.func28, Try.ntmps28
  go_wp2_with (first | (go_at_call 49; refine (PU.out _).mono ?_; rintro e_ w1 ⟨v0, rfl, hr, hb⟩; have R1 := Aside0.mk hr; have B1 := Aside0.mk hb; clear hr hb))
  obtain ⟨A1, c1, e1⟩ := Kd.R_slice R1.out
  subst e1
  go_loopw [14, 5] (fun v14 v5 wr => ∃ (j : Nat) (B : Option Addr) (cb : Nat) (b : List Int), v14 = .int .i64 (j : Int) ∧ v5 = .slice B b.length cb ∧ Aside0 (j ≤ xs.length ∧ b = putU (xs.length : Int) ++ ((xs.take j).map mb.e52).flatten) ∧ Aside0 ((Kd.int .u8).C wr B b.length b ∧ b.length ≤ cb) ∧ Aside0 (Below w.heap.size w wr)) (fun v14 _ _ => xs.length - (intOf v14).toNat)
  case atStart => exact ⟨0, A1, c1, putU (xs.length : Int), rfl, rfl, ⟨Nat.zero_le _, by simp⟩, ⟨(Kd.R_reads' R1.out).2.2, (Kd.R_reads' R1.out).2.1⟩, B1⟩
  case round =>
    clear R1 B1
    obtain ⟨j, B, cb, b, rfl, rfl, HJ, HB, HO⟩ := hrel
    by_cases hlt : j < xs.length
    · have i1 : decide ((j : Int) < (xs.length : Int)) = true := decide_eq_true (by omega)
      have i2 : decide (j < xs.length) = true := decide_eq_true hlt
      have i3 : (j < xs.length) = True := eq_true hlt
      have i4 : (j : Int) < (xs.length : Int) := by omega
      have HWR := Aside0.mk (mb.row_wr hlt (by have := HN.out; omega))
      have HM := Aside0.mk (mb.meas j xs.length hlt HWR.out)
      have HJ1 := Aside0.mk (show j + 1 ≤ xs.length from hlt)
      have hg : xs[j]? = some (rd_T52 xs (j : Int)) := by
        unfold rd_T52
        rw [Int.toNat_natCast, List.getD_eq_getElem?_getD, List.getElem?_eq_getElem hlt]
        rfl
      obtain ⟨ad, ea, h0, h1, h2, h3⟩ := at_T52 (Kd.C_below HA.out HO.out) (j : Int) (by omega) (by omega)
      subst ea
      rw [Int.toNat_natCast] at h0 h1 h2 h3
      generalize rd_T52 xs (j : Int) = x at *
      have hgx := HX.out x (List.mem_of_getElem? hg)
      have hlen : b.length ≤ 10 + 5000 * 1000 := by
        have h1 := mb.flat_le mb.e52 5000 (xs.take j) (fun y hy => mb.e52_len (HX.out y (List.mem_of_mem_take hy)))
        have h2 := HPL.out
        have h3 : (xs.take j).length ≤ 1000 := by rw [List.length_take]; have := HN.out; omega
        rw [HJ.out.2, List.length_append]
        have h4 : 5000 * (xs.take j).length ≤ 5000 * 1000 := Nat.mul_le_mul_left _ h3
        omega
      have PT := Aside0.mk (fun (W : World) (hO : Below w.heap.size w W) (hB : (Kd.int .u8).C W B b.length b) => show Calls Try.prog 29 #[.slice B b.length cb, .agg #[.int .i64 x.f0, .int .i64 x.f1, .int .i64 x.f2, .string x.f3]] W (fun e w' => ∃ A' c', e = .returned (.slice A' (b ++ mb.e52 x).length c') ∧ (Kd.int .u8).C w' A' (b ++ mb.e52 x).length (b ++ mb.e52 x) ∧ (b ++ mb.e52 x).length ≤ c' ∧ Below w.heap.size w w') from (mb.func29 hgx (by omega) W hB HB.out.2).mono (fun e w' ⟨A', c', h1, h2, h3, h4⟩ => ⟨A', c', h1, h2, h3, below_then hO hO.size h4⟩))
      have HBB := Aside0.mk (show b ++ mb.e52 x = putU (xs.length : Int) ++ ((xs.take (j + 1)).map mb.e52).flatten by rw [mb.take_map mb.e52 xs j x hg, HJ.out.2, List.append_assoc])
      generalize hb2 : b ++ mb.e52 x = b2 at PT HBB
      clear hlt hg hgx hlen hb2
      go_wp2_with (first | (go_at_call 29; refine (PT.out _ (HO.out.alloc HO.out.size _) (Kd.C_alloc HB.out.1 _)).mono ?_; rintro e_ w2 ⟨A2, c2, rfl, hr, hcc, hb⟩; have R2 := Aside0.mk hr; have C2 := Aside0.mk hcc; have B2 := Aside0.mk hb; clear hr hcc hb))
      go_roundw
      case rel => exact ⟨j + 1, A2, c2, b2, by rw [HWR.out]; rfl, rfl, ⟨HJ1.out, HBB.out⟩, ⟨R2.out, C2.out⟩, B2⟩
      case measure => exact HM.out
    · have i1 : decide ((j : Int) < (xs.length : Int)) = false := decide_eq_false (by omega)
      have i2 : decide (j < xs.length) = false := decide_eq_false hlt
      have i3 : (j < xs.length) = False := eq_false hlt
      have hb : b = lst mb.e52 xs := by
        rw [HJ.out.2, List.take_of_length_le (by omega)]
        rfl
      have HBB := Aside0.mk hb
      clear hlt hb
      go_wp2
      go_ret
      exact ⟨B, cb, by rw [← HBB.out]; rfl, HBB.out ▸ HB.out.1, HBB.out ▸ HB.out.2, HO.out⟩
/-- A value that may stand in a module. -/
def mb.g48 (x : S48) : Prop := Val x ∧ Frm x ∧ wt x ≤ 2048 ∧ Ev (fun k => value_Right.f k x.f0 x.f1 x.f2 x.f3 x.f4) true
theorem mb.e48_len {x : S48} (h : mb.g48 x) : (en x).length ≤ 24576 := by
  have h1 := (en_len x h.1).1
  have h2 := h.2.2.1
  omega
theorem mb.put27 {b : List Int} {x : S48} (h : mb.g48 x) (hb : b.length ≤ 30000000) : Ev (fun k => module_putConst.f k b x.f0 x.f1 x.f2 x.f3 x.f4) (b ++ en x) := by
  have hl := mb.e48_len h
  have hp := put_ev x h.1 h.2.1 b (by omega)
  have hw : Ev (fun k => wire_Put.f k b x.f0 x.f1 x.f2 x.f3 x.f4) (b ++ en x, 0) := by
    refine Ev.bind (F := fun k ok => if ok = true then (slices_Clone_byte_byte.f b).bind fun b => (wire_put.f k b x.f0 x.f1 x.f2 x.f3 x.f4).bind fun r => some (r, 0) else some ([], 40)) h.2.2.2 ?_
    refine Ev.congr (h := fun k => (wire_put.w k b x.f0 x.f1 x.f2 x.f3 x.f4).bind fun r => some (r, 0)) (Ev.bind (F := fun k r => some (r, 0)) hp Ev.const) (fun k => ?_)
    rw [if_pos rfl]
    unfold slices_Clone_byte_byte.f
    rw [if_pos (by omega)]
    rfl
  exact Ev.bind (F := fun _ (r : List Int × Int) => some r.1) hw Ev.const
theorem mb.body26 {xs : List S48} {A : Option Addr} {c : Nat} (w : World) (hA : k48.C w A xs.length xs) (hc : xs.length ≤ c) (hn : xs.length ≤ 1000) (hx : ∀ x ∈ xs, mb.g48 x) :
    Calls Try.prog 26 #[.slice A xs.length c, .func (.func 27) #[] #[]] w fun e w' => ∃ A' c', e = .returned (.slice A' (lst en xs).length c') ∧ (Kd.int .u8).C w' A' (lst en xs).length (lst en xs) ∧ (lst en xs).length ≤ c' ∧ Below w.heap.size w w' := by
  have hu := Try.underlying48
  have HA := Aside0.mk hA; have HCA := Aside0.mk hc; have HX := Aside0.mk hx; have HN := Aside0.mk hn
  have hw : IntKind.u64.wrap (xs.length : Int) = (xs.length : Int) := u64w _ (by omega) (by omega)
  have PU := Aside0.mk (fun (W : World) => num_PutUint.calls 10 none 0 [] (xs.length : Int) ([] ++ putU (xs.length : Int)) W (Kd.C_nil (Kd.int .u8) W) (Nat.le_refl _) (PutUint_eq 10 [] (xs.length : Int) (Nat.le_refl _) (by omega) (by omega) (by simp)))
  rw [List.nil_append] at PU
  have HPL := Aside0.mk (putU_len (xs.length : Int)).2
  clear hA hc hx hn
  go_enter Try.func26, Try.ntmps26
  go_wp2_with (first | (go_at_call 49; refine (PU.out _).mono ?_; rintro e_ w1 ⟨v0, rfl, hr, hb⟩; have R1 := Aside0.mk hr; have B1 := Aside0.mk hb; clear hr hb))
  obtain ⟨A1, c1, e1⟩ := Kd.R_slice R1.out
  subst e1
  go_loopw [14, 5] (fun v14 v5 wr => ∃ (j : Nat) (B : Option Addr) (cb : Nat) (b : List Int), v14 = .int .i64 (j : Int) ∧ v5 = .slice B b.length cb ∧ Aside0 (j ≤ xs.length ∧ b = putU (xs.length : Int) ++ ((xs.take j).map en).flatten) ∧ Aside0 ((Kd.int .u8).C wr B b.length b ∧ b.length ≤ cb) ∧ Aside0 (Below w.heap.size w wr)) (fun v14 _ _ => xs.length - (intOf v14).toNat)
  case atStart => exact ⟨0, A1, c1, putU (xs.length : Int), rfl, rfl, ⟨Nat.zero_le _, by simp⟩, ⟨(Kd.R_reads' R1.out).2.2, (Kd.R_reads' R1.out).2.1⟩, B1⟩
  case round =>
    clear R1 B1
    obtain ⟨j, B, cb, b, rfl, rfl, HJ, HB, HO⟩ := hrel
    by_cases hlt : j < xs.length
    · have i1 : decide ((j : Int) < (xs.length : Int)) = true := decide_eq_true (by omega)
      have i2 : decide (j < xs.length) = true := decide_eq_true hlt
      have i3 : (j < xs.length) = True := eq_true hlt
      have i4 : (j : Int) < (xs.length : Int) := by omega
      have HWR := Aside0.mk (mb.row_wr hlt (by have := HN.out; omega))
      have HM := Aside0.mk (mb.meas j xs.length hlt HWR.out)
      have HJ1 := Aside0.mk (show j + 1 ≤ xs.length from hlt)
      have hg : xs[j]? = some (rd_T48 xs (j : Int)) := by
        unfold rd_T48
        rw [Int.toNat_natCast, List.getD_eq_getElem?_getD, List.getElem?_eq_getElem hlt]
        rfl
      obtain ⟨ad, A3, c3, A4, c4, ea, h0, h1, h2, h3, h4, l3, g3, l4, g4⟩ := at_T48 (Kd.C_below HA.out HO.out) (j : Int) (by omega) (by omega)
      subst ea
      rw [Int.toNat_natCast] at h0 h1 h2 h3 h4
      generalize rd_T48 xs (j : Int) = x at *
      have hgx := HX.out x (List.mem_of_getElem? hg)
      have hlen : b.length ≤ 10 + 24576 * 1000 := by
        have h1 := mb.flat_le en 24576 (xs.take j) (fun y hy => mb.e48_len (HX.out y (List.mem_of_mem_take hy)))
        have h2 := HPL.out
        have h3 : (xs.take j).length ≤ 1000 := by rw [List.length_take]; have := HN.out; omega
        rw [HJ.out.2, List.length_append]
        have h4 : 24576 * (xs.take j).length ≤ 24576 * 1000 := Nat.mul_le_mul_left _ h3
        omega
      obtain ⟨K1, q1⟩ := mb.put27 hgx (b := b) (by omega)
      have PT := Aside0.mk (fun (W : World) (hO : Below w.heap.size w W) (hB : (Kd.int .u8).C W B b.length b) (r3 : k48.C W A3 x.f3.length x.f3) (r4 : Kd.string.C W A4 x.f4.length x.f4) => show Calls Try.prog 27 #[.slice B b.length cb, .agg #[.int .i64 x.f0, .int .i64 x.f1, .string x.f2, .slice A3 x.f3.length c3, .slice A4 x.f4.length c4]] W (fun e w' => ∃ A' c', e = .returned (.slice A' (b ++ en x).length c') ∧ (Kd.int .u8).C w' A' (b ++ en x).length (b ++ en x) ∧ (b ++ en x).length ≤ c' ∧ Below w.heap.size w w') from (module_putConst.calls K1 B cb b x.f0 x.f1 x.f2 A3 c3 x.f3 A4 c4 x.f4 (b ++ en x) W hB HB.out.2 r3 l3 r4 l4 (q1 K1 (Nat.le_refl _))).mono (fun e w' ⟨A', c', h1, h2, h3, h4⟩ => ⟨A', c', h1, h2, h3, below_then hO hO.size h4⟩))
      have G3 := Aside0.mk g3; have G4 := Aside0.mk g4
      clear q1 g3 g4 l3 l4
      have HBB := Aside0.mk (show b ++ en x = putU (xs.length : Int) ++ ((xs.take (j + 1)).map en).flatten by rw [mb.take_map en xs j x hg, HJ.out.2, List.append_assoc])
      generalize hb2 : b ++ en x = b2 at PT HBB
      clear hlt hg hgx hlen hb2
      go_wp2_with (first | (go_at_call 27; refine (PT.out _ (HO.out.alloc HO.out.size _) (Kd.C_alloc HB.out.1 _) (Kd.C_alloc G3.out _) (Kd.C_alloc G4.out _)).mono ?_; rintro e_ w2 ⟨A2, c2, rfl, hr, hcc, hb⟩; have R2 := Aside0.mk hr; have C2 := Aside0.mk hcc; have B2 := Aside0.mk hb; clear hr hcc hb))
      go_roundw
      case rel => exact ⟨j + 1, A2, c2, b2, by rw [HWR.out]; rfl, rfl, ⟨HJ1.out, HBB.out⟩, ⟨R2.out, C2.out⟩, B2⟩
      case measure => exact HM.out
    · have i1 : decide ((j : Int) < (xs.length : Int)) = false := decide_eq_false (by omega)
      have i2 : decide (j < xs.length) = false := decide_eq_false hlt
      have i3 : (j < xs.length) = False := eq_false hlt
      have hb : b = lst en xs := by
        rw [HJ.out.2, List.take_of_length_le (by omega)]
        rfl
      have HBB := Aside0.mk hb
      clear hlt hb
      go_wp2
      go_ret
      exact ⟨B, cb, by rw [← HBB.out]; rfl, HBB.out ▸ HB.out.1, HBB.out ▸ HB.out.2, HO.out⟩
end
end Go.Proofs.Ytmehfnikecmiiaa.X
/- Xxmformed: walks by hand, for the claim. -/
namespace Go.Proofs.Ytmehfnikecmiiaa.X
open Go.RowKit Go.Proofs.YtmehfnikecmiiaaW.PrintWords Go.Proofs.YtmehfnikecmiiaaW.PrintLast Go.Proofs.YtmehfnikecmiiaaW.PrintMore Go.Proofs.YtmehfnikecmiiaaW
section
set_option maxHeartbeats 4000000
set_option maxRecDepth 100000
open Go.Proofs.Ytmehfnikecmiiaa Go.Proofs.Ytmehfnikecmiiaa.Pl
/-- Right tells of any value; of a right one that it is formed and light. -/
theorem mb.right_any (x : S48) (hv : Val x) : ∃ b, Ev (fun k => value_Right.f k x.f0 x.f1 x.f2 x.f3 x.f4) b ∧ (b = true ↔ mb.g48 x) := by
  rcases good x hv 0 0 0 (by omega) (by omega) (by omega) (by omega) (by omega) (by omega) with ⟨D', W', d, m, r, q, hD, hd, hD8, hW0, hW1, hF, hw⟩ | ⟨D', W', m, r⟩
  · have hm : Ev (fun k => value_measure.f k x.f0 x.f1 x.f2 x.f3 x.f4) (W', D') := Ev.bind m (by simpa using Ev.const)
    have hW : Ev (fun k => value_Weight.f k x.f0 x.f1 x.f2 x.f3 x.f4) W' := Ev.bind hm Ev.const
    have hR : Ev (fun k => value_Right.f k x.f0 x.f1 x.f2 x.f3 x.f4) true := Ev.bind hW (by rw [decide_eq_true (by omega)]; exact Ev.const)
    exact ⟨true, hR, ⟨fun _ => ⟨hv, hF, by omega, hR⟩, fun _ => rfl⟩⟩
  · have hm : Ev (fun k => value_measure.f k x.f0 x.f1 x.f2 x.f3 x.f4) (0, 0) := Ev.bind m (by simpa using Ev.const)
    have hW : Ev (fun k => value_Weight.f k x.f0 x.f1 x.f2 x.f3 x.f4) 0 := Ev.bind hm Ev.const
    have hR : Ev (fun k => value_Right.f k x.f0 x.f1 x.f2 x.f3 x.f4) false := Ev.bind hW (by rw [decide_eq_false (by omega)]; exact Ev.const)
    refine ⟨false, hR, ⟨fun h => by (cases h), fun h => ?_⟩⟩
    obtain ⟨K1, h1⟩ := hR
    obtain ⟨K2, h2⟩ := h.2.2.2
    have e1 := h1 (K1 + K2) (by omega)
    have e2 := h2 (K1 + K2) (by omega)
    rw [e1] at e2
    cases e2
/-- The literal in formed: is a value not right? -/
theorem mb.lit46 {x : S48} {t : Bool} (ht : Ev (fun k => value_Right.f k x.f0 x.f1 x.f2 x.f3 x.f4) t) {A3 : Option Addr} {c3 : Nat} {A4 : Option Addr} {c4 : Nat} (w : World) (h3 : k48.C w A3 x.f3.length x.f3) (l3 : x.f3.length ≤ c3) (h4 : Kd.string.C w A4 x.f4.length x.f4) (l4 : x.f4.length ≤ c4) :
    Calls Try.prog 46 #[.agg #[.int .i64 x.f0, .int .i64 x.f1, .string x.f2, .slice A3 x.f3.length c3, .slice A4 x.f4.length c4]] w fun e w' => e = .returned (.bool (!t)) ∧ Below w.heap.size w w' := by
  have hu25 := Try.underlying48
  obtain ⟨K, hK⟩ := ht
  have RGT := Aside0.mk (fun (W : World) (hb : Below w.heap.size w W) => value_Right.calls K x.f0 x.f1 x.f2 A3 c3 x.f3 A4 c4 x.f4 t W (Kd.C_below h3 hb) l3 (Kd.C_below h4 hb) l4 (hK K (Nat.le_refl _)))
  clear h3 h4 l3 l4 hK
  go_enter Try.func46, Try.ntmps46
  go_wp2_with (first | ((with_reducible refine gate_dst (N := 1) rfl ?_); refine box_event ?hg (N := 1) ?hd (cs := #[.int .i64 x.f0, .int .i64 x.f1, .string x.f2, .slice A3 x.f3.length c3, .slice A4 x.f4.length c4]) (t := 48) ?hr ?_; (case hd => rfl); (case hg => rfl); (case hr => first | (go_simp; done) | (go_simp; rfl)); intro gb hg w1 hbox hb1; have BK1 := Aside0.mk hbox; have B1 := Aside0.mk hb1; clear hb1 hbox hg; have z0 : w1.cell? ⟨gb, 0, none⟩ = some (.int .i64 x.f0) := (blk_cell BK1.out 0).trans rfl; have z1 : w1.cell? ⟨gb, 1, none⟩ = some (.int .i64 x.f1) := (blk_cell BK1.out 1).trans rfl; have z2 : w1.cell? ⟨gb, 2, none⟩ = some (.string x.f2) := (blk_cell BK1.out 2).trans rfl; have z3 : w1.cell? ⟨gb, 3, none⟩ = some (.slice A3 x.f3.length c3) := (blk_cell BK1.out 3).trans rfl; have z4 : w1.cell? ⟨gb, 4, none⟩ = some (.slice A4 x.f4.length c4) := (blk_cell BK1.out 4).trans rfl) | (go_at_call 47; refine (RGT.out _ B1.out).mono ?_; rintro e_ w2 ⟨rfl, hb⟩; have B2 := Aside0.mk (below_step B1.out hb); clear hb z0 z1 z2 z3 z4))
  go_ret
  exact ⟨rfl, B2.out⟩
/-- The first value that is not right, or -1. -/
theorem mb.index66 {xs : List S48} {A : Option Addr} {c : Nat} (w : World) (hA : k48.C w A xs.length xs) (hc : xs.length ≤ c) (hn : xs.length ≤ 1000) (hx : ∀ x ∈ xs, Val x) :
    Calls Try.prog 66 #[.slice A xs.length c, .func (.func 46) #[] #[]] w fun e w' => ∃ r : Int, e = .returned (.int .i64 r) ∧ (r < 0 ↔ ∀ x ∈ xs, mb.g48 x) ∧ Below w.heap.size w w' := by
  have hu := Try.underlying23
  have HA := Aside0.mk hA; have HCA := Aside0.mk hc; have HX := Aside0.mk hx; have HN := Aside0.mk hn
  clear hA hc hx hn
  go_enter Try.func66, Try.ntmps66
  go_wp2
  go_loopw [8] (fun v8 wr => ∃ j : Nat, v8 = .int .i64 (j : Int) ∧ Aside0 (j ≤ xs.length ∧ ∀ x ∈ xs.take j, mb.g48 x) ∧ Aside0 (Below w.heap.size w wr)) (fun v8 _ => xs.length - (intOf v8).toNat)
  case atStart => exact ⟨0, rfl, ⟨Nat.zero_le _, fun x hx => by simp at hx⟩, ⟨Below.refl _ _⟩⟩
  case round =>
    obtain ⟨j, rfl, HJ, HO⟩ := hrel
    by_cases hlt : j < xs.length
    · have i1 : decide ((j : Int) < (xs.length : Int)) = true := decide_eq_true (by omega)
      have i2 : decide (j < xs.length) = true := decide_eq_true hlt
      have i3 : (j < xs.length) = True := eq_true hlt
      have i4 : (j : Int) < (xs.length : Int) := by omega
      have HWR := Aside0.mk (mb.row_wr hlt (by have := HN.out; omega))
      have HM := Aside0.mk (mb.meas j xs.length hlt HWR.out)
      have hg : xs[j]? = some (rd_T48 xs (j : Int)) := by
        unfold rd_T48
        rw [Int.toNat_natCast, List.getD_eq_getElem?_getD, List.getElem?_eq_getElem hlt]
        rfl
      obtain ⟨ad, A3, c3, A4, c4, ea, h0, h1, h2, h3, h4, l3, g3, l4, g4⟩ := at_T48 (Kd.C_below HA.out HO.out) (j : Int) (by omega) (by omega)
      subst ea
      rw [Int.toNat_natCast] at h0 h1 h2 h3 h4
      generalize rd_T48 xs (j : Int) = x at *
      obtain ⟨t, ht, hgood⟩ := mb.right_any x (HX.out x (List.mem_of_getElem? hg))
      have LIT := Aside0.mk (fun (W : World) (hb : Below wr.heap.size wr W) => mb.lit46 ht W (Kd.C_below g3 hb) l3 (Kd.C_below g4 hb) l4)
      have HT := Aside0.mk hgood
      have HG := Aside0.mk hg
      clear hlt hg ht hgood g3 g4 l3 l4
      cases t with
      | true =>
        go_wp2_with (first | (go_at_call 46; refine (LIT.out _ (Below.refl _ _)).mono ?_; rintro e_ w2 ⟨rfl, hb⟩; have B2 := Aside0.mk (below_then HO.out HO.out.size hb); clear hb h0 h1 h2 h3 h4))
        go_roundw
        case rel => exact ⟨j + 1, by rw [HWR.out]; rfl, ⟨by have := i4; omega, fun y hy => by
          rw [List.take_add_one, HG.out] at hy
          rcases List.mem_append.1 hy with hy | hy
          · exact HJ.out.2 y hy
          · rw [show y = x by simpa using hy]; first | exact HT.out.1 rfl | exact HT.out.1 trivial⟩, B2⟩
        case measure => exact HM.out
      | false =>
        go_wp2_with (first | (go_at_call 46; refine (LIT.out _ (Below.refl _ _)).mono ?_; rintro e_ w2 ⟨rfl, hb⟩; have B2 := Aside0.mk (below_then HO.out HO.out.size hb); clear hb h0 h1 h2 h3 h4))
        go_ret
        exact ⟨_, rfl, ⟨fun h => absurd h (by omega), fun h => by cases HT.out.2 (h x (List.mem_of_getElem? HG.out))⟩, B2.out⟩
    · have i1 : decide ((j : Int) < (xs.length : Int)) = false := decide_eq_false (by omega)
      have i2 : decide (j < xs.length) = false := decide_eq_false hlt
      have i3 : (j < xs.length) = False := eq_false hlt
      have HALL := Aside0.mk (show ∀ x ∈ xs, mb.g48 x from fun x hx => HJ.out.2 x (by rw [List.take_of_length_le (by omega)]; exact hx))
      clear hlt
      go_wp2
      go_ret
      exact ⟨-1, rfl, ⟨fun _ => HALL.out, fun _ => by omega⟩, HO.out⟩
theorem mb.contains45 {xs : List S48} {A : Option Addr} {c : Nat} (w : World) (hA : k48.C w A xs.length xs) (hc : xs.length ≤ c) (hn : xs.length ≤ 1000) (hx : ∀ x ∈ xs, Val x) :
    Calls Try.prog 45 #[.slice A xs.length c, .func (.func 46) #[] #[]] w fun e w' => ∃ t : Bool, e = .returned (.bool t) ∧ (t = false ↔ ∀ x ∈ xs, mb.g48 x) ∧ Below w.heap.size w w' := by
  have IDX := Aside0.mk (mb.index66 w hA hc hn hx)
  clear hA hc hn hx
  go_enter Try.func45, Try.ntmps45
  go_wp2_with (first | (go_at_call 66; refine IDX.out.mono ?_; rintro e_ w2 ⟨r, rfl, hr, hb⟩; have HR := Aside0.mk hr; have B2 := Aside0.mk hb; clear hr hb))
  go_ret
  exact ⟨_, rfl, ⟨fun h => HR.out.1 (by simpa using h), fun h => by have := HR.out.2 h; simpa using this⟩, B2.out⟩
/-- A name is short. -/
theorem mb.isname_l (x : ByteArray) (hx : x.size ≤ 140737488351232) : ∀ (d i : Nat), i + d = x.size → ∃ t, module_IsName.l0 (d + 1) x (x.size : Int) (i : Int) = some t ∧ (t = true → x.size ≤ 64) := by
  intro d
  induction d with
  | zero =>
    intro i hi
    unfold module_IsName.l0
    rw [if_neg (by omega)]
    split
    · exact ⟨_, rfl, fun h => by cases h⟩
    · refine ⟨_, rfl, fun h => ?_⟩
      have := of_decide_eq_true h
      omega
  | succ d ih =>
    intro i hi
    obtain ⟨t, h1, h2⟩ := ih (i + 1) (by omega)
    have ei : wrap64 ((i : Int) + 1) = ((i + 1 : Nat) : Int) := by unfold wrap64; omega
    unfold module_IsName.l0
    rw [if_pos (by omega), if_pos (by omega), if_pos (by omega), ei]
    repeat' split
    all_goals first | exact ⟨t, h1, h2⟩ | exact ⟨false, rfl, fun h => by cases h⟩
/-- Is it a name? -/
def mb.isN (x : ByteArray) : Bool := (module_IsName.f (x.size + 1) x).getD false
theorem mb.isN_l {x : ByteArray} (hx : x.size ≤ 140737488351232) (h : mb.isN x = true) : x.size ≤ 64 := by
  obtain ⟨t, h1, h2⟩ := mb.isname_l x hx x.size 0 (by omega)
  refine h2 ?_
  unfold mb.isN at h
  rw [show module_IsName.f (x.size + 1) x = some t from h1] at h
  exact h
theorem mb.isname9 (x : ByteArray) (hx : x.size ≤ 140737488351232) (w : World) : Calls Try.prog 9 #[.string x] w fun e w' => e = .returned (.bool (mb.isN x)) ∧ Below w.heap.size w w' := by
  obtain ⟨t, h1, h2⟩ := mb.isname_l x hx x.size 0 (by omega)
  have e : module_IsName.f (x.size + 1) x = some (mb.isN x) := by
    unfold mb.isN
    rw [show module_IsName.f (x.size + 1) x = some t from h1]
    rfl
  exact (module_IsName.calls (x.size + 1) x _ w e).mono (fun e w' q => ⟨q.1, q.2.below⟩)
theorem mb.within48 (a b c : Int) (w : World) : Calls Try.prog 48 #[.int .i64 a, .int .i64 b, .int .i64 c] w fun e w' => e = .returned (.bool (decide (b ≤ a ∧ a ≤ c))) ∧ Below w.heap.size w w' := by
  have h : module_within.f a b c = some (decide (b ≤ a ∧ a ≤ c)) := by
    unfold module_within.f
    by_cases h : a ≥ b
    · rw [if_pos h]
      congr 1
      by_cases k : a ≤ c
      · rw [decide_eq_true k, decide_eq_true ⟨h, k⟩]
      · rw [decide_eq_false k, decide_eq_false (fun q => k q.2)]
    · rw [if_neg h, decide_eq_false (fun q => h q.1)]
  exact (module_within.calls a b c _ w h).mono (fun e w' q => ⟨q.1, q.2.below⟩)
end
end Go.Proofs.Ytmehfnikecmiiaa.X
/- Xxmform: walks by hand, for the claim. -/
namespace Go.Proofs.Ytmehfnikecmiiaa.X
open Go.RowKit Go.Proofs.YtmehfnikecmiiaaW.PrintWords Go.Proofs.YtmehfnikecmiiaaW.PrintLast Go.Proofs.YtmehfnikecmiiaaW.PrintMore Go.Proofs.YtmehfnikecmiiaaW
section
set_option maxHeartbeats 4000000
set_option maxRecDepth 100000
open Go.Proofs.Ytmehfnikecmiiaa Go.Proofs.Ytmehfnikecmiiaa.Pl
/-- A function that may stand in a module. -/
def mb.fm52 (x : S52) : Prop := (0 ≤ x.f0 ∧ x.f0 ≤ 8) ∧ (x.f0 ≤ x.f1 ∧ x.f1 ≤ 32) ∧ (0 ≤ x.f2 ∧ x.f2 ≤ 40) ∧ x.f3.size ≤ 4000
def mb.fm56 (n : Nat) (l : List S56) (i : Nat) : Prop := ∀ x, l[i]? = some x → mb.isN x.f0 = true ∧ (0 ≤ x.f1 ∧ x.f1 ≤ (n : Int) - 1) ∧ (0 < i → ∀ y, l[i - 1]? = some y → Op.bytesLess y.f0.toList x.f0.toList = true)
/-- A module whose parts may be, each alone. -/
def mb.FM (m0 : List S48) (m1 : List S52) (m2 : List S56) : Prop := m0.length ≤ 100 ∧ m1.length ≤ 24 ∧ m2.length ≤ 24 ∧ (∀ x ∈ m0, mb.g48 x) ∧ (∀ x ∈ m1, mb.fm52 x) ∧ ∀ i, i < m2.length → mb.fm56 m1.length m2 i
theorem mb.FM.all52 {m0 : List S48} {m1 : List S52} {m2 : List S56} (h : mb.FM m0 m1 m2) : ∀ x ∈ m1, mb.g52 x := by
  intro x hx
  obtain ⟨a, b, c, d⟩ := h.2.2.2.2.1 x hx
  exact ⟨⟨a.1, by omega⟩, ⟨by omega, by omega⟩, ⟨c.1, by omega⟩, d⟩
theorem mb.FM.all56 {m0 : List S48} {m1 : List S52} {m2 : List S56} (h : mb.FM m0 m1 m2) (hs : ∀ x ∈ m2, x.f0.size ≤ 140737488351232) : ∀ x ∈ m2, mb.g56 x := by
  intro x hx
  obtain ⟨i, hi, rfl⟩ := List.mem_iff_getElem.1 hx
  obtain ⟨a, b, c⟩ := h.2.2.2.2.2 i hi _ (List.getElem?_eq_getElem hi)
  have h24 := h.2.1
  exact ⟨mb.isN_l (hs _ hx) a, b.1, by omega⟩
theorem mb.cell56 {W : World} {ad : Addr} {l : List S56} {k : Nat} {y : S56} (h : k56.C W (some ad) l.length l) (hy : l[k]? = some y) : W.cell? (ad.add (k * 2)) = some (.string y.f0) := by
  have hk := (List.getElem?_eq_some_iff.1 hy).1
  obtain ⟨ad2, ea, g0, g1⟩ := at_T56 h (k : Int) (by omega) (by omega)
  cases ea
  rw [Int.toNat_natCast] at g0
  have e : rd_T56 l (k : Int) = y := by
    unfold rd_T56
    rw [Int.toNat_natCast, List.getD_eq_getElem?_getD, hy]
    rfl
  rw [e] at g0
  exact g0
/-- An answer that tells just whether P. -/
def mb.Told (w w' : World) (P : Prop) (e : Ending) : Prop := ∃ t : Bool, e = .returned (.bool t) ∧ (t = true ↔ P) ∧ Below w.heap.size w w'
theorem mb.told {w w' : World} {P : Prop} {e : Ending} (t : Bool) (h : e = .returned (.bool t)) (ht : t = true ↔ P) (hb : Below w.heap.size w w') : mb.Told w w' P e := ⟨t, h, ht, hb⟩
set_option maxHeartbeats 8000000 in
theorem mb.formed25 {m0 : List S48} {m1 : List S52} {m2 : List S56} {A0 : Option Addr} {c0 : Nat} {A1 : Option Addr} {c1 : Nat} {A2 : Option Addr} {c2 : Nat} (w : World) (h0 : k48.C w A0 m0.length m0) (l0 : m0.length ≤ c0) (h1 : k52.C w A1 m1.length m1) (l1 : m1.length ≤ c1) (h2 : k56.C w A2 m2.length m2) (l2 : m2.length ≤ c2) (hv : ∀ x ∈ m0, Val x) (hs2 : ∀ x ∈ m2, x.f0.size ≤ 140737488351232) :
    Calls Try.prog 25 #[.agg #[.slice A0 m0.length c0, .slice A1 m1.length c1, .slice A2 m2.length c2]] w fun e w' => mb.Told w w' (mb.FM m0 m1 m2) e := by
  have hu27 := Try.underlying27
  have hu52 := Try.underlying52
  have hu56 := Try.underlying56
  have HA0 := Aside0.mk h0; have HA1 := Aside0.mk h1; have HA2 := Aside0.mk h2; have HL0 := Aside0.mk l0; have HL1 := Aside0.mk l1; have HL2 := Aside0.mk l2
  have HV := Aside0.mk hv
  have HS2 := Aside0.mk hs2
  clear h0 l0 h1 l1 h2 l2 hv hs2
  by_cases hc0 : 100 < m0.length
  case pos =>
    have i0a : decide ((m0.length : Int) > 100) = true := decide_eq_true (by omega)
    have i0b : decide (100 < m0.length) = true := decide_eq_true (by omega)
    have i0c : decide ((100 : Int) < (m0.length : Int)) = true := decide_eq_true (by omega)
    go_enter Try.func25, Try.ntmps25
    go_wp2_with (first | ((with_reducible refine gate_dst (N := 1) rfl ?_); refine box_event ?hg (N := 1) ?hd (cs := #[.slice A0 m0.length c0, .slice A1 m1.length c1, .slice A2 m2.length c2]) (t := 27) ?hr ?_; (case hd => rfl); (case hg => rfl); (case hr => first | (go_simp; done) | (go_simp; rfl)); intro gb hg w1 hbox hb1; have BX1 := Aside0.mk hbox; have B1 := Aside0.mk hb1; clear hbox hb1 hg; have z0 : w1.cell? ⟨gb, 0, none⟩ = some (.slice A0 m0.length c0) := (blk_cell BX1.out 0).trans rfl; have z1 : w1.cell? ⟨gb, 1, none⟩ = some (.slice A1 m1.length c1) := (blk_cell BX1.out 1).trans rfl; have z2 : w1.cell? ⟨gb, 2, none⟩ = some (.slice A2 m2.length c2) := (blk_cell BX1.out 2).trans rfl))
    go_ret
    exact mb.told false rfl ⟨fun h => by (cases h), fun h => by have := h.1; omega⟩ B1.out
  have i0a : decide ((m0.length : Int) > 100) = false := decide_eq_false (by omega)
  have i0b : decide (100 < m0.length) = false := decide_eq_false (by omega)
  have i0c : decide ((100 : Int) < (m0.length : Int)) = false := decide_eq_false (by omega)
  by_cases hc1 : 24 < m1.length
  case pos =>
    have i1a : decide ((m1.length : Int) > 24) = true := decide_eq_true (by omega)
    have i1b : decide (24 < m1.length) = true := decide_eq_true (by omega)
    have i1c : decide ((24 : Int) < (m1.length : Int)) = true := decide_eq_true (by omega)
    go_enter Try.func25, Try.ntmps25
    go_wp2_with (first | ((with_reducible refine gate_dst (N := 1) rfl ?_); refine box_event ?hg (N := 1) ?hd (cs := #[.slice A0 m0.length c0, .slice A1 m1.length c1, .slice A2 m2.length c2]) (t := 27) ?hr ?_; (case hd => rfl); (case hg => rfl); (case hr => first | (go_simp; done) | (go_simp; rfl)); intro gb hg w1 hbox hb1; have BX1 := Aside0.mk hbox; have B1 := Aside0.mk hb1; clear hbox hb1 hg; have z0 : w1.cell? ⟨gb, 0, none⟩ = some (.slice A0 m0.length c0) := (blk_cell BX1.out 0).trans rfl; have z1 : w1.cell? ⟨gb, 1, none⟩ = some (.slice A1 m1.length c1) := (blk_cell BX1.out 1).trans rfl; have z2 : w1.cell? ⟨gb, 2, none⟩ = some (.slice A2 m2.length c2) := (blk_cell BX1.out 2).trans rfl))
    go_ret
    exact mb.told false rfl ⟨fun h => by (cases h), fun h => by have := h.2.1; omega⟩ B1.out
  have i1a : decide ((m1.length : Int) > 24) = false := decide_eq_false (by omega)
  have i1b : decide (24 < m1.length) = false := decide_eq_false (by omega)
  have i1c : decide ((24 : Int) < (m1.length : Int)) = false := decide_eq_false (by omega)
  by_cases hc2 : 24 < m2.length
  case pos =>
    have i2a : decide ((m2.length : Int) > 24) = true := decide_eq_true (by omega)
    have i2b : decide (24 < m2.length) = true := decide_eq_true (by omega)
    have i2c : decide ((24 : Int) < (m2.length : Int)) = true := decide_eq_true (by omega)
    go_enter Try.func25, Try.ntmps25
    go_wp2_with (first | ((with_reducible refine gate_dst (N := 1) rfl ?_); refine box_event ?hg (N := 1) ?hd (cs := #[.slice A0 m0.length c0, .slice A1 m1.length c1, .slice A2 m2.length c2]) (t := 27) ?hr ?_; (case hd => rfl); (case hg => rfl); (case hr => first | (go_simp; done) | (go_simp; rfl)); intro gb hg w1 hbox hb1; have BX1 := Aside0.mk hbox; have B1 := Aside0.mk hb1; clear hbox hb1 hg; have z0 : w1.cell? ⟨gb, 0, none⟩ = some (.slice A0 m0.length c0) := (blk_cell BX1.out 0).trans rfl; have z1 : w1.cell? ⟨gb, 1, none⟩ = some (.slice A1 m1.length c1) := (blk_cell BX1.out 1).trans rfl; have z2 : w1.cell? ⟨gb, 2, none⟩ = some (.slice A2 m2.length c2) := (blk_cell BX1.out 2).trans rfl))
    go_ret
    exact mb.told false rfl ⟨fun h => by (cases h), fun h => by have := h.2.2.1; omega⟩ B1.out
  have i2a : decide ((m2.length : Int) > 24) = false := decide_eq_false (by omega)
  have i2b : decide (24 < m2.length) = false := decide_eq_false (by omega)
  have i2c : decide ((24 : Int) < (m2.length : Int)) = false := decide_eq_false (by omega)
  have CON := Aside0.mk (fun (W : World) (hb : Below w.heap.size w W) => mb.contains45 W (Kd.C_below HA0.out hb) HL0.out (by omega) HV.out)
  have HC0 := Aside0.mk (show m0.length ≤ 100 by omega); have HC1 := Aside0.mk (show m1.length ≤ 24 by omega); have HC2 := Aside0.mk (show m2.length ≤ 24 by omega)
  clear hc0 hc1 hc2
  go_enter Try.func25, Try.ntmps25
  go_wp2_with (first | ((with_reducible refine gate_dst (N := 1) rfl ?_); refine box_event ?hg (N := 1) ?hd (cs := #[.slice A0 m0.length c0, .slice A1 m1.length c1, .slice A2 m2.length c2]) (t := 27) ?hr ?_; (case hd => rfl); (case hg => rfl); (case hr => first | (go_simp; done) | (go_simp; rfl)); intro gb hg w1 hbox hb1; have BX1 := Aside0.mk hbox; have B1 := Aside0.mk hb1; clear hbox hb1 hg; have z0 : w1.cell? ⟨gb, 0, none⟩ = some (.slice A0 m0.length c0) := (blk_cell BX1.out 0).trans rfl; have z1 : w1.cell? ⟨gb, 1, none⟩ = some (.slice A1 m1.length c1) := (blk_cell BX1.out 1).trans rfl; have z2 : w1.cell? ⟨gb, 2, none⟩ = some (.slice A2 m2.length c2) := (blk_cell BX1.out 2).trans rfl) | (go_at_call 45; refine (CON.out _ B1.out).mono ?_; rintro e_ w2 ⟨t, rfl, ht, hb⟩; have HT := Aside0.mk ht; have B2 := Aside0.mk (below_step B1.out hb); have BX2 := Aside0.mk (blk_below BX1.out hb); clear ht hb z0 z1 z2; have z0 := (blk_cell BX2.out 0).trans rfl; have z1 := (blk_cell BX2.out 1).trans rfl; have z2 := (blk_cell BX2.out 2).trans rfl))
  · rename_i ht
    subst ht
    go_ret
    exact mb.told false rfl ⟨fun h => by (cases h), fun h => by cases HT.out.2 h.2.2.2.1⟩ B2.out
  have ht : t = false := by
    cases t with
    | false => rfl
    | true => contradiction
  subst ht
  have HT0 := Aside0.mk (HT.out.1 rfl)
  clear HT
  have B0 := Aside0.mk (B2.out)
  clear z0 z1 z2 CON B1 BX1
  go_loopw [29] (fun v29 wr => ∃ j : Nat, v29 = .int .i64 (j : Int) ∧ Aside0 (j ≤ m1.length ∧ ∀ x ∈ m1.take j, mb.fm52 x) ∧ Aside0 (wr.heap[gb]? = some (.cells #[.slice A0 m0.length c0, .slice A1 m1.length c1, .slice A2 m2.length c2] 27 (0, 0))) ∧ Aside0 (Below w.heap.size w wr)) (fun v29 _ => m1.length - (intOf v29).toNat)
  case atStart => exact ⟨0, rfl, ⟨Nat.zero_le _, fun x hx => by simp at hx⟩, BX2, B0⟩
  case round =>
    clear BX2 B2 B0
    obtain ⟨j, rfl, HJ, BX2, HO⟩ := hrel
    have z0 := (blk_cell BX2.out 0).trans rfl
    have z1 := (blk_cell BX2.out 1).trans rfl
    have z2 := (blk_cell BX2.out 2).trans rfl
    by_cases hlt : j < m1.length
    · have i1 : decide ((j : Int) < (m1.length : Int)) = true := decide_eq_true (by omega)
      have i2 : decide (j < m1.length) = true := decide_eq_true hlt
      have i3 : (j < m1.length) = True := eq_true hlt
      have i4 : (j : Int) < (m1.length : Int) := by omega
      have HWR := Aside0.mk (mb.row_wr hlt (by have := HC1.out; omega))
      have HM := Aside0.mk (mb.meas j m1.length hlt HWR.out)
      have hg : m1[j]? = some (rd_T52 m1 (j : Int)) := by
        unfold rd_T52
        rw [Int.toNat_natCast, List.getD_eq_getElem?_getD, List.getElem?_eq_getElem hlt]
        rfl
      obtain ⟨ad, ea, h0, h1, h2, h3⟩ := at_T52 (Kd.C_below HA1.out HO.out) (j : Int) (by omega) (by omega)
      subst ea
      rw [Int.toNat_natCast] at h0 h1 h2 h3
      generalize rd_T52 m1 (j : Int) = x at *
      have HG := Aside0.mk hg
      have HX := Aside0.mk (List.mem_of_getElem? hg)
      have HTK := Aside0.mk (fun (q : mb.fm52 x) => show ∀ y ∈ m1.take (j + 1), mb.fm52 y from fun y hy => by
        rw [List.take_add_one, hg] at hy
        rcases List.mem_append.1 hy with hy | hy
        · exact HJ.out.2 y hy
        · rw [show y = x by simpa using hy]; exact q)
      have LB := Aside0.mk (show (wr.alloc (.cells #[.int .i64 x.f0, .int .i64 x.f1, .int .i64 x.f2, .string x.f3] 52)).heap[wr.heap.size]? = some (.cells #[.int .i64 x.f0, .int .i64 x.f1, .int .i64 x.f2, .string x.f3] 52 (0, 0)) by simpa using heap_alloc_new wr _)
      have BA := Aside0.mk (HO.out.alloc HO.out.size (.cells #[.int .i64 x.f0, .int .i64 x.f1, .int .i64 x.f2, .string x.f3] 52))
      have BY := Aside0.mk (blk_alloc BX2.out (.cells #[.int .i64 x.f0, .int .i64 x.f1, .int .i64 x.f2, .string x.f3] 52))
      clear hlt hg
      by_cases p0 : 0 ≤ x.f0 ∧ x.f0 ≤ 8
      case neg =>
        have WN0 := Aside0.mk (fun (W : World) => show Calls Try.prog 48 #[.int .i64 x.f0, .int .i64 0, .int .i64 8] W (fun e w' => e = .returned (.bool false) ∧ Below W.heap.size W w') from (mb.within48 x.f0 (0) (8) W).mono (fun e w' q => ⟨q.1.trans (by rw [decide_eq_false p0]), q.2⟩))
        go_wp2_with (first | (go_at_call 48; refine (WN0.out _).mono ?_; rintro e_ w3 ⟨rfl, hb⟩; have BA0 := Aside0.mk (below_then BA.out BA.out.size hb); have LB0 := Aside0.mk (blk_below LB.out hb); have BY0 := Aside0.mk (blk_below BY.out hb); clear hb h0 h1 h2 h3 z0 z1 z2; have y0 := (blk_cell LB0.out 0).trans rfl; have y1 := (blk_cell LB0.out 1).trans rfl; have y2 := (blk_cell LB0.out 2).trans rfl; have y3 := (blk_cell LB0.out 3).trans rfl))
        go_ret
        exact mb.told false rfl ⟨fun h => by (cases h), fun h => absurd (h.2.2.2.2.1 x HX.out) (fun q => p0 q.1)⟩ BA0.out
      have WN0 := Aside0.mk (fun (W : World) => show Calls Try.prog 48 #[.int .i64 x.f0, .int .i64 0, .int .i64 8] W (fun e w' => e = .returned (.bool true) ∧ Below W.heap.size W w') from (mb.within48 x.f0 (0) (8) W).mono (fun e w' q => ⟨q.1.trans (by rw [decide_eq_true p0]), q.2⟩))
      by_cases p1 : x.f0 ≤ x.f1 ∧ x.f1 ≤ 32
      case neg =>
        have WN1 := Aside0.mk (fun (W : World) => show Calls Try.prog 48 #[.int .i64 x.f1, .int .i64 x.f0, .int .i64 32] W (fun e w' => e = .returned (.bool false) ∧ Below W.heap.size W w') from (mb.within48 x.f1 (x.f0) (32) W).mono (fun e w' q => ⟨q.1.trans (by rw [decide_eq_false p1]), q.2⟩))
        have tk0 := Aside0.mk True.intro
        go_wp2_with (first | (go_at_call 48; clear tk0; refine (WN0.out _).mono ?_; rintro e_ w3 ⟨rfl, hb⟩; have BA0 := Aside0.mk (below_then BA.out BA.out.size hb); have LB0 := Aside0.mk (blk_below LB.out hb); have BY0 := Aside0.mk (blk_below BY.out hb); clear hb h0 h1 h2 h3 z0 z1 z2; have y0 := (blk_cell LB0.out 0).trans rfl; have y1 := (blk_cell LB0.out 1).trans rfl; have y2 := (blk_cell LB0.out 2).trans rfl; have y3 := (blk_cell LB0.out 3).trans rfl) | (go_at_call 48; refine (WN1.out _).mono ?_; rintro e_ w4 ⟨rfl, hb⟩; have BA1 := Aside0.mk (below_then BA0.out BA0.out.size hb); have LB1 := Aside0.mk (blk_below LB0.out hb); have BY1 := Aside0.mk (blk_below BY0.out hb); clear hb y0 y1 y2 y3; have y0 := (blk_cell LB1.out 0).trans rfl; have y1 := (blk_cell LB1.out 1).trans rfl; have y2 := (blk_cell LB1.out 2).trans rfl; have y3 := (blk_cell LB1.out 3).trans rfl))
        go_ret
        exact mb.told false rfl ⟨fun h => by (cases h), fun h => absurd (h.2.2.2.2.1 x HX.out) (fun q => p1 q.2.1)⟩ BA1.out
      have WN1 := Aside0.mk (fun (W : World) => show Calls Try.prog 48 #[.int .i64 x.f1, .int .i64 x.f0, .int .i64 32] W (fun e w' => e = .returned (.bool true) ∧ Below W.heap.size W w') from (mb.within48 x.f1 (x.f0) (32) W).mono (fun e w' q => ⟨q.1.trans (by rw [decide_eq_true p1]), q.2⟩))
      by_cases p2 : 0 ≤ x.f2 ∧ x.f2 ≤ 40
      case neg =>
        have WN2 := Aside0.mk (fun (W : World) => show Calls Try.prog 48 #[.int .i64 x.f2, .int .i64 0, .int .i64 40] W (fun e w' => e = .returned (.bool false) ∧ Below W.heap.size W w') from (mb.within48 x.f2 (0) (40) W).mono (fun e w' q => ⟨q.1.trans (by rw [decide_eq_false p2]), q.2⟩))
        have tk0 := Aside0.mk True.intro
        have tk1 := Aside0.mk True.intro
        go_wp2_with (first | (go_at_call 48; clear tk0; refine (WN0.out _).mono ?_; rintro e_ w3 ⟨rfl, hb⟩; have BA0 := Aside0.mk (below_then BA.out BA.out.size hb); have LB0 := Aside0.mk (blk_below LB.out hb); have BY0 := Aside0.mk (blk_below BY.out hb); clear hb h0 h1 h2 h3 z0 z1 z2; have y0 := (blk_cell LB0.out 0).trans rfl; have y1 := (blk_cell LB0.out 1).trans rfl; have y2 := (blk_cell LB0.out 2).trans rfl; have y3 := (blk_cell LB0.out 3).trans rfl) | (go_at_call 48; clear tk1; refine (WN1.out _).mono ?_; rintro e_ w4 ⟨rfl, hb⟩; have BA1 := Aside0.mk (below_then BA0.out BA0.out.size hb); have LB1 := Aside0.mk (blk_below LB0.out hb); have BY1 := Aside0.mk (blk_below BY0.out hb); clear hb y0 y1 y2 y3; have y0 := (blk_cell LB1.out 0).trans rfl; have y1 := (blk_cell LB1.out 1).trans rfl; have y2 := (blk_cell LB1.out 2).trans rfl; have y3 := (blk_cell LB1.out 3).trans rfl) | (go_at_call 48; refine (WN2.out _).mono ?_; rintro e_ w5 ⟨rfl, hb⟩; have BA2 := Aside0.mk (below_then BA1.out BA1.out.size hb); have LB2 := Aside0.mk (blk_below LB1.out hb); have BY2 := Aside0.mk (blk_below BY1.out hb); clear hb y0 y1 y2 y3; have y0 := (blk_cell LB2.out 0).trans rfl; have y1 := (blk_cell LB2.out 1).trans rfl; have y2 := (blk_cell LB2.out 2).trans rfl; have y3 := (blk_cell LB2.out 3).trans rfl))
        go_ret
        exact mb.told false rfl ⟨fun h => by (cases h), fun h => absurd (h.2.2.2.2.1 x HX.out) (fun q => p2 q.2.2.1)⟩ BA2.out
      have WN2 := Aside0.mk (fun (W : World) => show Calls Try.prog 48 #[.int .i64 x.f2, .int .i64 0, .int .i64 40] W (fun e w' => e = .returned (.bool true) ∧ Below W.heap.size W w') from (mb.within48 x.f2 (0) (40) W).mono (fun e w' q => ⟨q.1.trans (by rw [decide_eq_true p2]), q.2⟩))
      by_cases p3 : x.f3.size ≤ 4000
      case neg =>
        have j1 : decide ((x.f3.size : Int) > 4000) = true := decide_eq_true (by omega)
        have j2 : decide (4000 < x.f3.size) = true := decide_eq_true (by omega)
        have j3 : decide ((4000 : Int) < (x.f3.size : Int)) = true := decide_eq_true (by omega)
        have tk0 := Aside0.mk True.intro
        have tk1 := Aside0.mk True.intro
        go_wp2_with (first | (go_at_call 48; clear tk0; refine (WN0.out _).mono ?_; rintro e_ w3 ⟨rfl, hb⟩; have BA0 := Aside0.mk (below_then BA.out BA.out.size hb); have LB0 := Aside0.mk (blk_below LB.out hb); have BY0 := Aside0.mk (blk_below BY.out hb); clear hb h0 h1 h2 h3 z0 z1 z2; have y0 := (blk_cell LB0.out 0).trans rfl; have y1 := (blk_cell LB0.out 1).trans rfl; have y2 := (blk_cell LB0.out 2).trans rfl; have y3 := (blk_cell LB0.out 3).trans rfl) | (go_at_call 48; clear tk1; refine (WN1.out _).mono ?_; rintro e_ w4 ⟨rfl, hb⟩; have BA1 := Aside0.mk (below_then BA0.out BA0.out.size hb); have LB1 := Aside0.mk (blk_below LB0.out hb); have BY1 := Aside0.mk (blk_below BY0.out hb); clear hb y0 y1 y2 y3; have y0 := (blk_cell LB1.out 0).trans rfl; have y1 := (blk_cell LB1.out 1).trans rfl; have y2 := (blk_cell LB1.out 2).trans rfl; have y3 := (blk_cell LB1.out 3).trans rfl) | (go_at_call 48; refine (WN2.out _).mono ?_; rintro e_ w5 ⟨rfl, hb⟩; have BA2 := Aside0.mk (below_then BA1.out BA1.out.size hb); have LB2 := Aside0.mk (blk_below LB1.out hb); have BY2 := Aside0.mk (blk_below BY1.out hb); clear hb y0 y1 y2 y3; have y0 := (blk_cell LB2.out 0).trans rfl; have y1 := (blk_cell LB2.out 1).trans rfl; have y2 := (blk_cell LB2.out 2).trans rfl; have y3 := (blk_cell LB2.out 3).trans rfl))
        go_ret
        exact mb.told false rfl ⟨fun h => by (cases h), fun h => absurd (h.2.2.2.2.1 x HX.out) (fun q => p3 q.2.2.2)⟩ BA2.out
      case pos =>
        have j1 : decide ((x.f3.size : Int) > 4000) = false := decide_eq_false (by omega)
        have j2 : decide (4000 < x.f3.size) = false := decide_eq_false (by omega)
        have j3 : decide ((4000 : Int) < (x.f3.size : Int)) = false := decide_eq_false (by omega)
        have tk0 := Aside0.mk True.intro
        have tk1 := Aside0.mk True.intro
        go_wp2_with (first | (go_at_call 48; clear tk0; refine (WN0.out _).mono ?_; rintro e_ w3 ⟨rfl, hb⟩; have BA0 := Aside0.mk (below_then BA.out BA.out.size hb); have LB0 := Aside0.mk (blk_below LB.out hb); have BY0 := Aside0.mk (blk_below BY.out hb); clear hb h0 h1 h2 h3 z0 z1 z2; have y0 := (blk_cell LB0.out 0).trans rfl; have y1 := (blk_cell LB0.out 1).trans rfl; have y2 := (blk_cell LB0.out 2).trans rfl; have y3 := (blk_cell LB0.out 3).trans rfl) | (go_at_call 48; clear tk1; refine (WN1.out _).mono ?_; rintro e_ w4 ⟨rfl, hb⟩; have BA1 := Aside0.mk (below_then BA0.out BA0.out.size hb); have LB1 := Aside0.mk (blk_below LB0.out hb); have BY1 := Aside0.mk (blk_below BY0.out hb); clear hb y0 y1 y2 y3; have y0 := (blk_cell LB1.out 0).trans rfl; have y1 := (blk_cell LB1.out 1).trans rfl; have y2 := (blk_cell LB1.out 2).trans rfl; have y3 := (blk_cell LB1.out 3).trans rfl) | (go_at_call 48; refine (WN2.out _).mono ?_; rintro e_ w5 ⟨rfl, hb⟩; have BA2 := Aside0.mk (below_then BA1.out BA1.out.size hb); have LB2 := Aside0.mk (blk_below LB1.out hb); have BY2 := Aside0.mk (blk_below BY1.out hb); clear hb y0 y1 y2 y3; have y0 := (blk_cell LB2.out 0).trans rfl; have y1 := (blk_cell LB2.out 1).trans rfl; have y2 := (blk_cell LB2.out 2).trans rfl; have y3 := (blk_cell LB2.out 3).trans rfl))
        go_roundw
        case rel => exact ⟨j + 1, by rw [HWR.out]; rfl, ⟨by have := i4; omega, HTK.out ⟨p0, p1, p2, p3⟩⟩, BY2, BA2⟩
        case measure => exact HM.out
    · have i1 : decide ((j : Int) < (m1.length : Int)) = false := decide_eq_false (by omega)
      have i2 : decide (j < m1.length) = false := decide_eq_false hlt
      have i3 : (j < m1.length) = False := eq_false hlt
      have HF1 := Aside0.mk (show ∀ x ∈ m1, mb.fm52 x from fun x hx => HJ.out.2 x (by rw [List.take_of_length_le (by omega)]; exact hx))
      clear hlt HJ
      go_wp2
      clear z0 z1 z2
      go_loopw [61] (fun v61 wr => ∃ j : Nat, v61 = .int .i64 (j : Int) ∧ Aside0 (j ≤ m2.length ∧ ∀ i, i < j → mb.fm56 m1.length m2 i) ∧ Aside0 (wr.heap[gb]? = some (.cells #[.slice A0 m0.length c0, .slice A1 m1.length c1, .slice A2 m2.length c2] 27 (0, 0))) ∧ Aside0 (Below w.heap.size w wr)) (fun v61 _ => m2.length - (intOf v61).toNat)
      case atStart => exact ⟨0, rfl, ⟨Nat.zero_le _, fun i hi => absurd hi (Nat.not_lt_zero i)⟩, BX2, HO⟩
      case round =>
        clear BX2 HO i1 i2 i3
        obtain ⟨j, rfl, HJ, BX2, HO⟩ := hrel
        have z0 := (blk_cell BX2.out 0).trans rfl
        have z1 := (blk_cell BX2.out 1).trans rfl
        have z2 := (blk_cell BX2.out 2).trans rfl
        by_cases hlt : j < m2.length
        · have i1 : decide ((j : Int) < (m2.length : Int)) = true := decide_eq_true (by omega)
          have i2 : decide (j < m2.length) = true := decide_eq_true hlt
          have i3 : (j < m2.length) = True := eq_true hlt
          have i4 : (j : Int) < (m2.length : Int) := by omega
          have HWR := Aside0.mk (mb.row_wr hlt (by have := HC2.out; omega))
          have HM := Aside0.mk (mb.meas j m2.length hlt HWR.out)
          have hg : m2[j]? = some (rd_T56 m2 (j : Int)) := by
            unfold rd_T56
            rw [Int.toNat_natCast, List.getD_eq_getElem?_getD, List.getElem?_eq_getElem hlt]
            rfl
          obtain ⟨ad, ea, h0, h1⟩ := at_T56 (Kd.C_below HA2.out HO.out) (j : Int) (by omega) (by omega)
          subst ea
          rw [Int.toNat_natCast] at h0 h1
          generalize rd_T56 m2 (j : Int) = x at *
          have HG := Aside0.mk hg
          have HX := Aside0.mk (List.mem_of_getElem? hg)
          have LB := Aside0.mk (show (wr.alloc (.cells #[.string x.f0, .int .i64 x.f1] 56)).heap[wr.heap.size]? = some (.cells #[.string x.f0, .int .i64 x.f1] 56 (0, 0)) by simpa using heap_alloc_new wr _)
          have BA := Aside0.mk (HO.out.alloc HO.out.size (.cells #[.string x.f0, .int .i64 x.f1] 56))
          have BY := Aside0.mk (blk_alloc BX2.out (.cells #[.string x.f0, .int .i64 x.f1] 56))
          have hwm : wrap64 ((m1.length : Int) - 1) = (m1.length : Int) - 1 := by have := HC1.out; unfold wrap64; omega
          have hwm2 : IntKind.i64.wrap ((m1.length : Int) - 1) = (m1.length : Int) - 1 := (i64_w _).trans hwm
          have ISN := Aside0.mk (fun (W : World) => mb.isname9 x.f0 (HS2.out x HX.out) W)
          have HFM := Aside0.mk (fun (q : mb.FM m0 m1 m2) => q.2.2.2.2.2 j hlt x hg)
          clear hlt hg BX2
          go_wp2
          clear h0 h1 z0 z1 z2
          generalize wr.alloc (.cells #[.string x.f0, .int .i64 x.f1] 56) = w2 at *
          cases p0 : mb.isN x.f0 with
          | false =>
            rw [p0] at ISN
            refine start_ (n := 30) (S := fun w' => w'.cell? ⟨gb, 1, none⟩ = some (.slice A1 m1.length c1) ∧ w'.cell? ⟨gb, 2, none⟩ = some (.slice (some ad) m2.length c2) ∧ w'.cell? ⟨wr.heap.size, 0, none⟩ = some (.string x.f0) ∧ w'.cell? ⟨wr.heap.size, 1, none⟩ = some (.int .i64 x.f1)) (ds := []) #[false, false, false, false, false, false, false, false, false, false, false, false, false, false, false, false, false, false, false, false, false, false, false, false, false, false, false, false, false, false] (by kernel_rfl) rfl rfl ⟨(blk_cell (blk_drew BY.out) 1).trans rfl, (blk_cell (blk_drew BY.out) 2).trans rfl, (blk_cell (blk_drew LB.out) 0).trans rfl, (blk_cell (blk_drew LB.out) 1).trans rfl⟩ (fun hHeld => ?_)
            generalize hwd : w2.drew = wd at hHeld ⊢
            have BAd := Aside0.mk (hwd ▸ below_drew BA.out)
            have LBd := Aside0.mk (hwd ▸ blk_drew LB.out)
            have BYd := Aside0.mk (hwd ▸ blk_drew BY.out)
            clear hwd BA LB BY
            refine pure_ (i := 0) (N := some 66) (v := ?_) (a' := ?_) #[true, false, false, false, false, false, false, false, false, false, false, false, false, false, false, false, false, false, false, false, false, false, false, false, false, false, false, false, false, false] rfl rfl (by kernel_rfl) (fun _ _ _ h => h) (Or.inl ⟨by rfl, ?_⟩) ?_ ?_
            rotate_left
            · intro w'
              go_simp
              with_reducible rfl
            rotate_left
            · simp only [Act.put, List.setIfInBounds_toArray, List.set_cons_zero, List.set_cons_succ, i64_w, i32_w]
              rfl
            refine take_ (i := 1) (N := some 67) (v := ?_) (a' := ?_) #[true, true, false, false, false, false, false, false, false, false, false, false, false, false, false, false, false, false, false, false, false, false, false, false, false, false, false, false, false, false] rfl rfl (by kernel_rfl) (fun _ _ _ h => h) (Or.inl ⟨by rfl, ?_⟩) hHeld ?_ ?_
            rotate_left
            · rintro w' ⟨s0, s1, s2, s3⟩
              go_simp
              with_reducible rfl
            rotate_left
            · simp only [Act.put, List.setIfInBounds_toArray, List.set_cons_zero, List.set_cons_succ, i64_w, i32_w]
              rfl
            refine one_ (i := 2) (N := some 68) #[true, true, true, false, false, false, false, false, false, false, false, false, false, false, false, false, false, false, false, false, false, false, false, false, false, false, false, false, false, false] rfl rfl (by kernel_rfl) (by decide) (fun K hK => ?_)
            refine goes_ Try.func9 (by kernel_rfl) rfl #[.string x.f0] (by rfl) rfl rfl (by (try simp only [List.map_toArray, List.map_cons, List.map_nil]); first | done | rfl) ?_
            refine (ISN.out wd).mono ?_
            rintro e w3 ⟨rfl, hb⟩
            refine ⟨_, rfl, ?_⟩
            have BA3 := Aside0.mk (below_then BAd.out BAd.out.size hb)
            have LB3 := Aside0.mk (blk_below LBd.out hb)
            have BY3 := Aside0.mk (blk_below BYd.out hb)
            clear hb
            refine hK.out _ _ ⟨(blk_cell BY3.out 1).trans rfl, (blk_cell BY3.out 2).trans rfl, (blk_cell LB3.out 0).trans rfl, (blk_cell LB3.out 1).trans rfl⟩ (fun hHeld => ?_)
            clear hK K
            refine norm_ (a' := ?_) ?_ ?_
            rotate_left
            · show Act.put _ (some 68) _ = _
              simp only [Act.put, List.setIfInBounds_toArray, List.set_cons_zero, List.set_cons_succ, i64_w, i32_w]
              rfl
            refine pure_ (i := 3) (N := some 69) (v := ?_) (a' := ?_) #[true, true, true, true, false, false, false, false, false, false, false, false, false, false, false, false, false, false, false, false, false, false, false, false, false, false, false, false, false, false] rfl rfl (by kernel_rfl) (fun _ _ _ h => h) (Or.inl ⟨by rfl, ?_⟩) ?_ ?_
            rotate_left
            · intro w'
              go_simp
              with_reducible rfl
            rotate_left
            · simp only [Act.put, List.setIfInBounds_toArray, List.set_cons_zero, List.set_cons_succ, i64_w, i32_w]
              rfl
            refine pure_ (i := 4) (N := some 70) (v := ?_) (a' := ?_) #[true, true, true, true, true, false, false, false, false, false, false, false, false, false, false, false, false, false, false, false, false, false, false, false, false, false, false, false, false, false] rfl rfl (by kernel_rfl) (fun _ _ _ h => h) (Or.inl ⟨by rfl, ?_⟩) ?_ ?_
            rotate_left
            · intro w'
              go_simp
              with_reducible rfl
            rotate_left
            · simp only [Act.put, List.setIfInBounds_toArray, List.set_cons_zero, List.set_cons_succ, i64_w, i32_w]
              rfl
            refine pure_ (i := 5) (N := some 71) (v := undef) (a' := ?_) #[true, true, true, true, true, true, false, false, false, false, false, false, false, false, false, false, false, false, false, false, false, false, false, false, false, false, false, false, false, false] rfl rfl (by kernel_rfl) (fun _ _ _ h => h) (Or.inr ⟨by rfl, rfl⟩) ?_ ?_
            rotate_left
            · simp only [Act.put, List.setIfInBounds_toArray, List.set_cons_zero, List.set_cons_succ, i64_w, i32_w]
              rfl
            refine pure_ (i := 6) (N := some 72) (v := undef) (a' := ?_) #[true, true, true, true, true, true, true, false, false, false, false, false, false, false, false, false, false, false, false, false, false, false, false, false, false, false, false, false, false, false] rfl rfl (by kernel_rfl) (fun _ _ _ h => h) (Or.inr ⟨by rfl, rfl⟩) ?_ ?_
            rotate_left
            · simp only [Act.put, List.setIfInBounds_toArray, List.set_cons_zero, List.set_cons_succ, i64_w, i32_w]
              rfl
            refine pure_ (i := 7) (N := some 73) (v := undef) (a' := ?_) #[true, true, true, true, true, true, true, true, false, false, false, false, false, false, false, false, false, false, false, false, false, false, false, false, false, false, false, false, false, false] rfl rfl (by kernel_rfl) (fun _ _ _ h => h) (Or.inr ⟨by rfl, rfl⟩) ?_ ?_
            rotate_left
            · simp only [Act.put, List.setIfInBounds_toArray, List.set_cons_zero, List.set_cons_succ, i64_w, i32_w]
              rfl
            refine pure_ (i := 8) (N := some 74) (v := undef) (a' := ?_) #[true, true, true, true, true, true, true, true, true, false, false, false, false, false, false, false, false, false, false, false, false, false, false, false, false, false, false, false, false, false] rfl rfl (by kernel_rfl) (fun _ _ _ h => h) (Or.inr ⟨by rfl, rfl⟩) ?_ ?_
            rotate_left
            · simp only [Act.put, List.setIfInBounds_toArray, List.set_cons_zero, List.set_cons_succ, i64_w, i32_w]
              rfl
            refine pure_ (i := 9) (N := some 75) (v := undef) (a' := ?_) #[true, true, true, true, true, true, true, true, true, true, false, false, false, false, false, false, false, false, false, false, false, false, false, false, false, false, false, false, false, false] rfl rfl (by kernel_rfl) (fun _ _ _ h => h) (Or.inr ⟨by rfl, rfl⟩) ?_ ?_
            rotate_left
            · simp only [Act.put, List.setIfInBounds_toArray, List.set_cons_zero, List.set_cons_succ, i64_w, i32_w]
              rfl
            refine pure_ (i := 10) (N := some 76) (v := undef) (a' := ?_) #[true, true, true, true, true, true, true, true, true, true, true, false, false, false, false, false, false, false, false, false, false, false, false, false, false, false, false, false, false, false] rfl rfl (by kernel_rfl) (fun _ _ _ h => h) (Or.inr ⟨by rfl, rfl⟩) ?_ ?_
            rotate_left
            · simp only [Act.put, List.setIfInBounds_toArray, List.set_cons_zero, List.set_cons_succ, i64_w, i32_w]
              rfl
            refine pure_ (i := 11) (N := some 77) (v := undef) (a' := ?_) #[true, true, true, true, true, true, true, true, true, true, true, true, false, false, false, false, false, false, false, false, false, false, false, false, false, false, false, false, false, false] rfl rfl (by kernel_rfl) (fun _ _ _ h => h) (Or.inr ⟨by rfl, rfl⟩) ?_ ?_
            rotate_left
            · simp only [Act.put, List.setIfInBounds_toArray, List.set_cons_zero, List.set_cons_succ, i64_w, i32_w]
              rfl
            refine pure_ (i := 12) (N := some 78) (v := undef) (a' := ?_) #[true, true, true, true, true, true, true, true, true, true, true, true, true, false, false, false, false, false, false, false, false, false, false, false, false, false, false, false, false, false] rfl rfl (by kernel_rfl) (fun _ _ _ h => h) (Or.inr ⟨by rfl, rfl⟩) ?_ ?_
            rotate_left
            · simp only [Act.put, List.setIfInBounds_toArray, List.set_cons_zero, List.set_cons_succ, i64_w, i32_w]
              rfl
            refine pure_ (i := 13) (N := some 79) (v := ?_) (a' := ?_) #[true, true, true, true, true, true, true, true, true, true, true, true, true, true, false, false, false, false, false, false, false, false, false, false, false, false, false, false, false, false] rfl rfl (by kernel_rfl) (fun _ _ _ h => h) (Or.inl ⟨by rfl, ?_⟩) ?_ ?_
            rotate_left
            · intro w'
              go_simp
              with_reducible rfl
            rotate_left
            · simp only [Act.put, List.setIfInBounds_toArray, List.set_cons_zero, List.set_cons_succ, i64_w, i32_w]
              rfl
            refine pure_ (i := 14) (N := some 80) (v := ?_) (a' := ?_) #[true, true, true, true, true, true, true, true, true, true, true, true, true, true, true, false, false, false, false, false, false, false, false, false, false, false, false, false, false, false] rfl rfl (by kernel_rfl) (fun _ _ _ h => h) (Or.inl ⟨by rfl, ?_⟩) ?_ ?_
            rotate_left
            · intro w'
              go_simp
              with_reducible rfl
            rotate_left
            · simp only [Act.put, List.setIfInBounds_toArray, List.set_cons_zero, List.set_cons_succ, i64_w, i32_w]
              rfl
            refine pure_ (i := 15) (N := some 81) (v := undef) (a' := ?_) #[true, true, true, true, true, true, true, true, true, true, true, true, true, true, true, true, false, false, false, false, false, false, false, false, false, false, false, false, false, false] rfl rfl (by kernel_rfl) (fun _ _ _ h => h) (Or.inr ⟨by rfl, rfl⟩) ?_ ?_
            rotate_left
            · simp only [Act.put, List.setIfInBounds_toArray, List.set_cons_zero, List.set_cons_succ, i64_w, i32_w]
              rfl
            refine pure_ (i := 16) (N := some 82) (v := undef) (a' := ?_) #[true, true, true, true, true, true, true, true, true, true, true, true, true, true, true, true, true, false, false, false, false, false, false, false, false, false, false, false, false, false] rfl rfl (by kernel_rfl) (fun _ _ _ h => h) (Or.inr ⟨by rfl, rfl⟩) ?_ ?_
            rotate_left
            · simp only [Act.put, List.setIfInBounds_toArray, List.set_cons_zero, List.set_cons_succ, i64_w, i32_w]
              rfl
            refine pure_ (i := 17) (N := some 83) (v := undef) (a' := ?_) #[true, true, true, true, true, true, true, true, true, true, true, true, true, true, true, true, true, true, false, false, false, false, false, false, false, false, false, false, false, false] rfl rfl (by kernel_rfl) (fun _ _ _ h => h) (Or.inr ⟨by rfl, rfl⟩) ?_ ?_
            rotate_left
            · simp only [Act.put, List.setIfInBounds_toArray, List.set_cons_zero, List.set_cons_succ, i64_w, i32_w]
              rfl
            refine pure_ (i := 18) (N := some 84) (v := undef) (a' := ?_) #[true, true, true, true, true, true, true, true, true, true, true, true, true, true, true, true, true, true, true, false, false, false, false, false, false, false, false, false, false, false] rfl rfl (by kernel_rfl) (fun _ _ _ h => h) (Or.inr ⟨by rfl, rfl⟩) ?_ ?_
            rotate_left
            · simp only [Act.put, List.setIfInBounds_toArray, List.set_cons_zero, List.set_cons_succ, i64_w, i32_w]
              rfl
            refine pure_ (i := 19) (N := some 85) (v := undef) (a' := ?_) #[true, true, true, true, true, true, true, true, true, true, true, true, true, true, true, true, true, true, true, true, false, false, false, false, false, false, false, false, false, false] rfl rfl (by kernel_rfl) (fun _ _ _ h => h) (Or.inr ⟨by rfl, rfl⟩) ?_ ?_
            rotate_left
            · simp only [Act.put, List.setIfInBounds_toArray, List.set_cons_zero, List.set_cons_succ, i64_w, i32_w]
              rfl
            refine pure_ (i := 20) (N := some 86) (v := undef) (a' := ?_) #[true, true, true, true, true, true, true, true, true, true, true, true, true, true, true, true, true, true, true, true, true, false, false, false, false, false, false, false, false, false] rfl rfl (by kernel_rfl) (fun _ _ _ h => h) (Or.inr ⟨by rfl, rfl⟩) ?_ ?_
            rotate_left
            · simp only [Act.put, List.setIfInBounds_toArray, List.set_cons_zero, List.set_cons_succ, i64_w, i32_w]
              rfl
            refine pure_ (i := 21) (N := some 87) (v := undef) (a' := ?_) #[true, true, true, true, true, true, true, true, true, true, true, true, true, true, true, true, true, true, true, true, true, true, false, false, false, false, false, false, false, false] rfl rfl (by kernel_rfl) (fun _ _ _ h => h) (Or.inr ⟨by rfl, rfl⟩) ?_ ?_
            rotate_left
            · simp only [Act.put, List.setIfInBounds_toArray, List.set_cons_zero, List.set_cons_succ, i64_w, i32_w]
              rfl
            refine pure_ (i := 22) (N := some 88) (v := undef) (a' := ?_) #[true, true, true, true, true, true, true, true, true, true, true, true, true, true, true, true, true, true, true, true, true, true, true, false, false, false, false, false, false, false] rfl rfl (by kernel_rfl) (fun _ _ _ h => h) (Or.inr ⟨by rfl, rfl⟩) ?_ ?_
            rotate_left
            · simp only [Act.put, List.setIfInBounds_toArray, List.set_cons_zero, List.set_cons_succ, i64_w, i32_w]
              rfl
            refine pure_ (i := 23) (N := some 89) (v := undef) (a' := ?_) #[true, true, true, true, true, true, true, true, true, true, true, true, true, true, true, true, true, true, true, true, true, true, true, true, false, false, false, false, false, false] rfl rfl (by kernel_rfl) (fun _ _ _ h => h) (Or.inr ⟨by rfl, rfl⟩) ?_ ?_
            rotate_left
            · simp only [Act.put, List.setIfInBounds_toArray, List.set_cons_zero, List.set_cons_succ, i64_w, i32_w]
              rfl
            refine pure_ (i := 24) (N := some 90) (v := undef) (a' := ?_) #[true, true, true, true, true, true, true, true, true, true, true, true, true, true, true, true, true, true, true, true, true, true, true, true, true, false, false, false, false, false] rfl rfl (by kernel_rfl) (fun _ _ _ h => h) (Or.inr ⟨by rfl, rfl⟩) ?_ ?_
            rotate_left
            · simp only [Act.put, List.setIfInBounds_toArray, List.set_cons_zero, List.set_cons_succ, i64_w, i32_w]
              rfl
            refine pure_ (i := 25) (N := some 91) (v := undef) (a' := ?_) #[true, true, true, true, true, true, true, true, true, true, true, true, true, true, true, true, true, true, true, true, true, true, true, true, true, true, false, false, false, false] rfl rfl (by kernel_rfl) (fun _ _ _ h => h) (Or.inr ⟨by rfl, rfl⟩) ?_ ?_
            rotate_left
            · simp only [Act.put, List.setIfInBounds_toArray, List.set_cons_zero, List.set_cons_succ, i64_w, i32_w]
              rfl
            refine pure_ (i := 26) (N := some 92) (v := undef) (a' := ?_) #[true, true, true, true, true, true, true, true, true, true, true, true, true, true, true, true, true, true, true, true, true, true, true, true, true, true, true, false, false, false] rfl rfl (by kernel_rfl) (fun _ _ _ h => h) (Or.inr ⟨by rfl, rfl⟩) ?_ ?_
            rotate_left
            · simp only [Act.put, List.setIfInBounds_toArray, List.set_cons_zero, List.set_cons_succ, i64_w, i32_w]
              rfl
            refine pure_ (i := 27) (N := some 93) (v := undef) (a' := ?_) #[true, true, true, true, true, true, true, true, true, true, true, true, true, true, true, true, true, true, true, true, true, true, true, true, true, true, true, true, false, false] rfl rfl (by kernel_rfl) (fun _ _ _ h => h) (Or.inr ⟨by rfl, rfl⟩) ?_ ?_
            rotate_left
            · simp only [Act.put, List.setIfInBounds_toArray, List.set_cons_zero, List.set_cons_succ, i64_w, i32_w]
              rfl
            refine pure_ (i := 28) (N := some 94) (v := undef) (a' := ?_) #[true, true, true, true, true, true, true, true, true, true, true, true, true, true, true, true, true, true, true, true, true, true, true, true, true, true, true, true, true, false] rfl rfl (by kernel_rfl) (fun _ _ _ h => h) (Or.inr ⟨by rfl, rfl⟩) ?_ ?_
            rotate_left
            · simp only [Act.put, List.setIfInBounds_toArray, List.set_cons_zero, List.set_cons_succ, i64_w, i32_w]
              rfl
            refine pure_ (i := 29) (N := some 95) (v := ?_) (a' := ?_) #[true, true, true, true, true, true, true, true, true, true, true, true, true, true, true, true, true, true, true, true, true, true, true, true, true, true, true, true, true, true] rfl rfl (by kernel_rfl) (fun _ _ _ h => h) (Or.inl ⟨by rfl, ?_⟩) ?_ ?_
            rotate_left
            · intro w'
              go_simp
              with_reducible rfl
            rotate_left
            · simp only [Act.put, List.setIfInBounds_toArray, List.set_cons_zero, List.set_cons_succ, i64_w, i32_w]
              rfl
            refine done_ (by kernel_rfl) ?_
            go_wp2
            go_ret
            exact mb.told false rfl ⟨fun h => by (cases h), fun h => by have := (HFM.out h).1; rw [p0] at this; cases this⟩ BA3.out
          | true =>
            rw [p0] at ISN
            by_cases p1 : 0 ≤ x.f1 ∧ x.f1 ≤ (m1.length : Int) - 1
            case neg =>
              have WN := Aside0.mk (fun (W : World) => show Calls Try.prog 48 #[.int .i64 x.f1, .int .i64 0, .int .i64 ((m1.length : Int) - 1)] W (fun e w' => e = .returned (.bool false) ∧ Below W.heap.size W w') from (mb.within48 x.f1 0 ((m1.length : Int) - 1) W).mono (fun e w' q => ⟨q.1.trans (by rw [decide_eq_false p1]), q.2⟩))
              refine start_ (n := 30) (S := fun w' => w'.cell? ⟨gb, 1, none⟩ = some (.slice A1 m1.length c1) ∧ w'.cell? ⟨gb, 2, none⟩ = some (.slice (some ad) m2.length c2) ∧ w'.cell? ⟨wr.heap.size, 0, none⟩ = some (.string x.f0) ∧ w'.cell? ⟨wr.heap.size, 1, none⟩ = some (.int .i64 x.f1)) (ds := []) #[false, false, false, false, false, false, false, false, false, false, false, false, false, false, false, false, false, false, false, false, false, false, false, false, false, false, false, false, false, false] (by kernel_rfl) rfl rfl ⟨(blk_cell (blk_drew BY.out) 1).trans rfl, (blk_cell (blk_drew BY.out) 2).trans rfl, (blk_cell (blk_drew LB.out) 0).trans rfl, (blk_cell (blk_drew LB.out) 1).trans rfl⟩ (fun hHeld => ?_)
              generalize hwd : w2.drew = wd at hHeld ⊢
              have BAd := Aside0.mk (hwd ▸ below_drew BA.out)
              have LBd := Aside0.mk (hwd ▸ blk_drew LB.out)
              have BYd := Aside0.mk (hwd ▸ blk_drew BY.out)
              clear hwd BA LB BY
              refine pure_ (i := 0) (N := some 66) (v := ?_) (a' := ?_) #[true, false, false, false, false, false, false, false, false, false, false, false, false, false, false, false, false, false, false, false, false, false, false, false, false, false, false, false, false, false] rfl rfl (by kernel_rfl) (fun _ _ _ h => h) (Or.inl ⟨by rfl, ?_⟩) ?_ ?_
              rotate_left
              · intro w'
                go_simp
                with_reducible rfl
              rotate_left
              · simp only [Act.put, List.setIfInBounds_toArray, List.set_cons_zero, List.set_cons_succ, i64_w, i32_w]
                rfl
              refine take_ (i := 1) (N := some 67) (v := ?_) (a' := ?_) #[true, true, false, false, false, false, false, false, false, false, false, false, false, false, false, false, false, false, false, false, false, false, false, false, false, false, false, false, false, false] rfl rfl (by kernel_rfl) (fun _ _ _ h => h) (Or.inl ⟨by rfl, ?_⟩) hHeld ?_ ?_
              rotate_left
              · rintro w' ⟨s0, s1, s2, s3⟩
                go_simp
                with_reducible rfl
              rotate_left
              · simp only [Act.put, List.setIfInBounds_toArray, List.set_cons_zero, List.set_cons_succ, i64_w, i32_w]
                rfl
              refine one_ (i := 2) (N := some 68) #[true, true, true, false, false, false, false, false, false, false, false, false, false, false, false, false, false, false, false, false, false, false, false, false, false, false, false, false, false, false] rfl rfl (by kernel_rfl) (by decide) (fun K hK => ?_)
              refine goes_ Try.func9 (by kernel_rfl) rfl #[.string x.f0] (by rfl) rfl rfl (by (try simp only [List.map_toArray, List.map_cons, List.map_nil]); first | done | rfl) ?_
              refine (ISN.out wd).mono ?_
              rintro e w3 ⟨rfl, hb⟩
              refine ⟨_, rfl, ?_⟩
              have BA3 := Aside0.mk (below_then BAd.out BAd.out.size hb)
              have LB3 := Aside0.mk (blk_below LBd.out hb)
              have BY3 := Aside0.mk (blk_below BYd.out hb)
              clear hb
              refine hK.out _ _ ⟨(blk_cell BY3.out 1).trans rfl, (blk_cell BY3.out 2).trans rfl, (blk_cell LB3.out 0).trans rfl, (blk_cell LB3.out 1).trans rfl⟩ (fun hHeld => ?_)
              clear hK K
              refine norm_ (a' := ?_) ?_ ?_
              rotate_left
              · show Act.put _ (some 68) _ = _
                simp only [Act.put, List.setIfInBounds_toArray, List.set_cons_zero, List.set_cons_succ, i64_w, i32_w]
                rfl
              refine pure_ (i := 3) (N := some 69) (v := ?_) (a' := ?_) #[true, true, true, true, false, false, false, false, false, false, false, false, false, false, false, false, false, false, false, false, false, false, false, false, false, false, false, false, false, false] rfl rfl (by kernel_rfl) (fun _ _ _ h => h) (Or.inl ⟨by rfl, ?_⟩) ?_ ?_
              rotate_left
              · intro w'
                go_simp
                with_reducible rfl
              rotate_left
              · simp only [Act.put, List.setIfInBounds_toArray, List.set_cons_zero, List.set_cons_succ, i64_w, i32_w]
                rfl
              refine pure_ (i := 4) (N := some 70) (v := ?_) (a' := ?_) #[true, true, true, true, true, false, false, false, false, false, false, false, false, false, false, false, false, false, false, false, false, false, false, false, false, false, false, false, false, false] rfl rfl (by kernel_rfl) (fun _ _ _ h => h) (Or.inl ⟨by rfl, ?_⟩) ?_ ?_
              rotate_left
              · intro w'
                go_simp
                with_reducible rfl
              rotate_left
              · simp only [Act.put, List.setIfInBounds_toArray, List.set_cons_zero, List.set_cons_succ, i64_w, i32_w]
                rfl
              refine pure_ (i := 5) (N := some 71) (v := ?_) (a' := ?_) #[true, true, true, true, true, true, false, false, false, false, false, false, false, false, false, false, false, false, false, false, false, false, false, false, false, false, false, false, false, false] rfl rfl (by kernel_rfl) (fun _ _ _ h => h) (Or.inl ⟨by rfl, ?_⟩) ?_ ?_
              rotate_left
              · intro w'
                go_simp
                with_reducible rfl
              rotate_left
              · simp only [Act.put, List.setIfInBounds_toArray, List.set_cons_zero, List.set_cons_succ, i64_w, i32_w]
                rfl
              refine pure_ (i := 7) (N := some 73) (v := ?_) (a' := ?_) #[true, true, true, true, true, true, false, true, false, false, false, false, false, false, false, false, false, false, false, false, false, false, false, false, false, false, false, false, false, false] rfl rfl (by kernel_rfl) (fun _ _ _ h => h) (Or.inl ⟨by rfl, ?_⟩) ?_ ?_
              rotate_left
              · intro w'
                go_simp
                with_reducible rfl
              rotate_left
              · simp only [Act.put, List.setIfInBounds_toArray, List.set_cons_zero, List.set_cons_succ, i64_w, i32_w]
                rfl
              refine take_ (i := 6) (N := some 72) (v := ?_) (a' := ?_) #[true, true, true, true, true, true, true, true, false, false, false, false, false, false, false, false, false, false, false, false, false, false, false, false, false, false, false, false, false, false] rfl rfl (by kernel_rfl) (fun _ _ _ h => h) (Or.inl ⟨by rfl, ?_⟩) hHeld ?_ ?_
              rotate_left
              · rintro w' ⟨s0, s1, s2, s3⟩
                go_simp
                with_reducible rfl
              rotate_left
              · simp only [Act.put, List.setIfInBounds_toArray, List.set_cons_zero, List.set_cons_succ, i64_w, i32_w]
                rfl
              refine take_ (i := 8) (N := some 74) (v := ?_) (a' := ?_) #[true, true, true, true, true, true, true, true, true, false, false, false, false, false, false, false, false, false, false, false, false, false, false, false, false, false, false, false, false, false] rfl rfl (by kernel_rfl) (fun _ _ _ h => h) (Or.inl ⟨by rfl, ?_⟩) hHeld ?_ ?_
              rotate_left
              · rintro w' ⟨s0, s1, s2, s3⟩
                go_simp
                with_reducible rfl
              rotate_left
              · simp only [Act.put, List.setIfInBounds_toArray, List.set_cons_zero, List.set_cons_succ, i64_w, i32_w]
                rfl
              refine pure_ (i := 9) (N := some 75) (v := ?_) (a' := ?_) #[true, true, true, true, true, true, true, true, true, true, false, false, false, false, false, false, false, false, false, false, false, false, false, false, false, false, false, false, false, false] rfl rfl (by kernel_rfl) (fun _ _ _ h => h) (Or.inl ⟨by rfl, ?_⟩) ?_ ?_
              rotate_left
              · intro w'
                go_simp
                with_reducible rfl
              rotate_left
              · simp only [Act.put, List.setIfInBounds_toArray, List.set_cons_zero, List.set_cons_succ, i64_w, i32_w]
                rfl
              refine pure_ (i := 10) (N := some 76) (v := ?_) (a' := ?_) #[true, true, true, true, true, true, true, true, true, true, true, false, false, false, false, false, false, false, false, false, false, false, false, false, false, false, false, false, false, false] rfl rfl (by kernel_rfl) (fun _ _ _ h => h) (Or.inl ⟨by rfl, ?_⟩) ?_ ?_
              rotate_left
              · intro w'
                go_simp
                with_reducible rfl
              rotate_left
              · simp only [Act.put, List.setIfInBounds_toArray, List.set_cons_zero, List.set_cons_succ, i64_w, i32_w]
                rfl
              refine one_ (i := 11) (N := some 77) #[true, true, true, true, true, true, true, true, true, true, true, true, false, false, false, false, false, false, false, false, false, false, false, false, false, false, false, false, false, false] rfl rfl (by kernel_rfl) (by decide) (fun K hK => ?_)
              refine goes_ Try.func48 (by kernel_rfl) rfl #[.int .i64 x.f1, .int .i64 0, .int .i64 ((m1.length : Int) - 1)] (by rfl) rfl rfl (by (try simp only [List.map_toArray, List.map_cons, List.map_nil]); first | done | rfl) ?_
              refine (WN.out w3).mono ?_
              rintro e w4 ⟨rfl, hb⟩
              refine ⟨_, rfl, ?_⟩
              have BA4 := Aside0.mk (below_then BA3.out BA3.out.size hb)
              have LB4 := Aside0.mk (blk_below LB3.out hb)
              have BY4 := Aside0.mk (blk_below BY3.out hb)
              clear hb
              refine hK.out _ _ ⟨(blk_cell BY4.out 1).trans rfl, (blk_cell BY4.out 2).trans rfl, (blk_cell LB4.out 0).trans rfl, (blk_cell LB4.out 1).trans rfl⟩ (fun hHeld => ?_)
              clear hK K
              refine norm_ (a' := ?_) ?_ ?_
              rotate_left
              · show Act.put _ (some 77) _ = _
                simp only [Act.put, List.setIfInBounds_toArray, List.set_cons_zero, List.set_cons_succ, i64_w, i32_w]
                rfl
              refine pure_ (i := 12) (N := some 78) (v := ?_) (a' := ?_) #[true, true, true, true, true, true, true, true, true, true, true, true, true, false, false, false, false, false, false, false, false, false, false, false, false, false, false, false, false, false] rfl rfl (by kernel_rfl) (fun _ _ _ h => h) (Or.inl ⟨by rfl, ?_⟩) ?_ ?_
              rotate_left
              · intro w'
                go_simp
                with_reducible rfl
              rotate_left
              · simp only [Act.put, List.setIfInBounds_toArray, List.set_cons_zero, List.set_cons_succ, i64_w, i32_w]
                rfl
              refine pure_ (i := 13) (N := some 79) (v := ?_) (a' := ?_) #[true, true, true, true, true, true, true, true, true, true, true, true, true, true, false, false, false, false, false, false, false, false, false, false, false, false, false, false, false, false] rfl rfl (by kernel_rfl) (fun _ _ _ h => h) (Or.inl ⟨by rfl, ?_⟩) ?_ ?_
              rotate_left
              · intro w'
                go_simp
                with_reducible rfl
              rotate_left
              · simp only [Act.put, List.setIfInBounds_toArray, List.set_cons_zero, List.set_cons_succ, i64_w, i32_w]
                rfl
              refine pure_ (i := 14) (N := some 80) (v := ?_) (a' := ?_) #[true, true, true, true, true, true, true, true, true, true, true, true, true, true, true, false, false, false, false, false, false, false, false, false, false, false, false, false, false, false] rfl rfl (by kernel_rfl) (fun _ _ _ h => h) (Or.inl ⟨by rfl, ?_⟩) ?_ ?_
              rotate_left
              · intro w'
                go_simp
                with_reducible rfl
              rotate_left
              · simp only [Act.put, List.setIfInBounds_toArray, List.set_cons_zero, List.set_cons_succ, i64_w, i32_w]
                rfl
              refine pure_ (i := 15) (N := some 81) (v := undef) (a' := ?_) #[true, true, true, true, true, true, true, true, true, true, true, true, true, true, true, true, false, false, false, false, false, false, false, false, false, false, false, false, false, false] rfl rfl (by kernel_rfl) (fun _ _ _ h => h) (Or.inr ⟨by rfl, rfl⟩) ?_ ?_
              rotate_left
              · simp only [Act.put, List.setIfInBounds_toArray, List.set_cons_zero, List.set_cons_succ, i64_w, i32_w]
                rfl
              refine pure_ (i := 16) (N := some 82) (v := undef) (a' := ?_) #[true, true, true, true, true, true, true, true, true, true, true, true, true, true, true, true, true, false, false, false, false, false, false, false, false, false, false, false, false, false] rfl rfl (by kernel_rfl) (fun _ _ _ h => h) (Or.inr ⟨by rfl, rfl⟩) ?_ ?_
              rotate_left
              · simp only [Act.put, List.setIfInBounds_toArray, List.set_cons_zero, List.set_cons_succ, i64_w, i32_w]
                rfl
              refine pure_ (i := 17) (N := some 83) (v := undef) (a' := ?_) #[true, true, true, true, true, true, true, true, true, true, true, true, true, true, true, true, true, true, false, false, false, false, false, false, false, false, false, false, false, false] rfl rfl (by kernel_rfl) (fun _ _ _ h => h) (Or.inr ⟨by rfl, rfl⟩) ?_ ?_
              rotate_left
              · simp only [Act.put, List.setIfInBounds_toArray, List.set_cons_zero, List.set_cons_succ, i64_w, i32_w]
                rfl
              refine pure_ (i := 18) (N := some 84) (v := undef) (a' := ?_) #[true, true, true, true, true, true, true, true, true, true, true, true, true, true, true, true, true, true, true, false, false, false, false, false, false, false, false, false, false, false] rfl rfl (by kernel_rfl) (fun _ _ _ h => h) (Or.inr ⟨by rfl, rfl⟩) ?_ ?_
              rotate_left
              · simp only [Act.put, List.setIfInBounds_toArray, List.set_cons_zero, List.set_cons_succ, i64_w, i32_w]
                rfl
              refine pure_ (i := 19) (N := some 85) (v := undef) (a' := ?_) #[true, true, true, true, true, true, true, true, true, true, true, true, true, true, true, true, true, true, true, true, false, false, false, false, false, false, false, false, false, false] rfl rfl (by kernel_rfl) (fun _ _ _ h => h) (Or.inr ⟨by rfl, rfl⟩) ?_ ?_
              rotate_left
              · simp only [Act.put, List.setIfInBounds_toArray, List.set_cons_zero, List.set_cons_succ, i64_w, i32_w]
                rfl
              refine pure_ (i := 20) (N := some 86) (v := undef) (a' := ?_) #[true, true, true, true, true, true, true, true, true, true, true, true, true, true, true, true, true, true, true, true, true, false, false, false, false, false, false, false, false, false] rfl rfl (by kernel_rfl) (fun _ _ _ h => h) (Or.inr ⟨by rfl, rfl⟩) ?_ ?_
              rotate_left
              · simp only [Act.put, List.setIfInBounds_toArray, List.set_cons_zero, List.set_cons_succ, i64_w, i32_w]
                rfl
              refine pure_ (i := 21) (N := some 87) (v := undef) (a' := ?_) #[true, true, true, true, true, true, true, true, true, true, true, true, true, true, true, true, true, true, true, true, true, true, false, false, false, false, false, false, false, false] rfl rfl (by kernel_rfl) (fun _ _ _ h => h) (Or.inr ⟨by rfl, rfl⟩) ?_ ?_
              rotate_left
              · simp only [Act.put, List.setIfInBounds_toArray, List.set_cons_zero, List.set_cons_succ, i64_w, i32_w]
                rfl
              refine pure_ (i := 22) (N := some 88) (v := undef) (a' := ?_) #[true, true, true, true, true, true, true, true, true, true, true, true, true, true, true, true, true, true, true, true, true, true, true, false, false, false, false, false, false, false] rfl rfl (by kernel_rfl) (fun _ _ _ h => h) (Or.inr ⟨by rfl, rfl⟩) ?_ ?_
              rotate_left
              · simp only [Act.put, List.setIfInBounds_toArray, List.set_cons_zero, List.set_cons_succ, i64_w, i32_w]
                rfl
              refine pure_ (i := 23) (N := some 89) (v := undef) (a' := ?_) #[true, true, true, true, true, true, true, true, true, true, true, true, true, true, true, true, true, true, true, true, true, true, true, true, false, false, false, false, false, false] rfl rfl (by kernel_rfl) (fun _ _ _ h => h) (Or.inr ⟨by rfl, rfl⟩) ?_ ?_
              rotate_left
              · simp only [Act.put, List.setIfInBounds_toArray, List.set_cons_zero, List.set_cons_succ, i64_w, i32_w]
                rfl
              refine pure_ (i := 24) (N := some 90) (v := undef) (a' := ?_) #[true, true, true, true, true, true, true, true, true, true, true, true, true, true, true, true, true, true, true, true, true, true, true, true, true, false, false, false, false, false] rfl rfl (by kernel_rfl) (fun _ _ _ h => h) (Or.inr ⟨by rfl, rfl⟩) ?_ ?_
              rotate_left
              · simp only [Act.put, List.setIfInBounds_toArray, List.set_cons_zero, List.set_cons_succ, i64_w, i32_w]
                rfl
              refine pure_ (i := 25) (N := some 91) (v := undef) (a' := ?_) #[true, true, true, true, true, true, true, true, true, true, true, true, true, true, true, true, true, true, true, true, true, true, true, true, true, true, false, false, false, false] rfl rfl (by kernel_rfl) (fun _ _ _ h => h) (Or.inr ⟨by rfl, rfl⟩) ?_ ?_
              rotate_left
              · simp only [Act.put, List.setIfInBounds_toArray, List.set_cons_zero, List.set_cons_succ, i64_w, i32_w]
                rfl
              refine pure_ (i := 26) (N := some 92) (v := undef) (a' := ?_) #[true, true, true, true, true, true, true, true, true, true, true, true, true, true, true, true, true, true, true, true, true, true, true, true, true, true, true, false, false, false] rfl rfl (by kernel_rfl) (fun _ _ _ h => h) (Or.inr ⟨by rfl, rfl⟩) ?_ ?_
              rotate_left
              · simp only [Act.put, List.setIfInBounds_toArray, List.set_cons_zero, List.set_cons_succ, i64_w, i32_w]
                rfl
              refine pure_ (i := 27) (N := some 93) (v := undef) (a' := ?_) #[true, true, true, true, true, true, true, true, true, true, true, true, true, true, true, true, true, true, true, true, true, true, true, true, true, true, true, true, false, false] rfl rfl (by kernel_rfl) (fun _ _ _ h => h) (Or.inr ⟨by rfl, rfl⟩) ?_ ?_
              rotate_left
              · simp only [Act.put, List.setIfInBounds_toArray, List.set_cons_zero, List.set_cons_succ, i64_w, i32_w]
                rfl
              refine pure_ (i := 28) (N := some 94) (v := undef) (a' := ?_) #[true, true, true, true, true, true, true, true, true, true, true, true, true, true, true, true, true, true, true, true, true, true, true, true, true, true, true, true, true, false] rfl rfl (by kernel_rfl) (fun _ _ _ h => h) (Or.inr ⟨by rfl, rfl⟩) ?_ ?_
              rotate_left
              · simp only [Act.put, List.setIfInBounds_toArray, List.set_cons_zero, List.set_cons_succ, i64_w, i32_w]
                rfl
              refine pure_ (i := 29) (N := some 95) (v := ?_) (a' := ?_) #[true, true, true, true, true, true, true, true, true, true, true, true, true, true, true, true, true, true, true, true, true, true, true, true, true, true, true, true, true, true] rfl rfl (by kernel_rfl) (fun _ _ _ h => h) (Or.inl ⟨by rfl, ?_⟩) ?_ ?_
              rotate_left
              · intro w'
                go_simp
                with_reducible rfl
              rotate_left
              · simp only [Act.put, List.setIfInBounds_toArray, List.set_cons_zero, List.set_cons_succ, i64_w, i32_w]
                rfl
              refine done_ (by kernel_rfl) ?_
              go_wp2
              go_ret
              exact mb.told false rfl ⟨fun h => by (cases h), fun h => absurd (HFM.out h).2.1 p1⟩ BA4.out
            have WN := Aside0.mk (fun (W : World) => show Calls Try.prog 48 #[.int .i64 x.f1, .int .i64 0, .int .i64 ((m1.length : Int) - 1)] W (fun e w' => e = .returned (.bool true) ∧ Below W.heap.size W w') from (mb.within48 x.f1 0 ((m1.length : Int) - 1) W).mono (fun e w' q => ⟨q.1.trans (by rw [decide_eq_true p1]), q.2⟩))
            by_cases p2 : j = 0
            case pos =>
              subst p2
              refine start_ (n := 30) (S := fun w' => w'.cell? ⟨gb, 1, none⟩ = some (.slice A1 m1.length c1) ∧ w'.cell? ⟨gb, 2, none⟩ = some (.slice (some ad) m2.length c2) ∧ w'.cell? ⟨wr.heap.size, 0, none⟩ = some (.string x.f0) ∧ w'.cell? ⟨wr.heap.size, 1, none⟩ = some (.int .i64 x.f1)) (ds := []) #[false, false, false, false, false, false, false, false, false, false, false, false, false, false, false, false, false, false, false, false, false, false, false, false, false, false, false, false, false, false] (by kernel_rfl) rfl rfl ⟨(blk_cell (blk_drew BY.out) 1).trans rfl, (blk_cell (blk_drew BY.out) 2).trans rfl, (blk_cell (blk_drew LB.out) 0).trans rfl, (blk_cell (blk_drew LB.out) 1).trans rfl⟩ (fun hHeld => ?_)
              generalize hwd : w2.drew = wd at hHeld ⊢
              have BAd := Aside0.mk (hwd ▸ below_drew BA.out)
              have LBd := Aside0.mk (hwd ▸ blk_drew LB.out)
              have BYd := Aside0.mk (hwd ▸ blk_drew BY.out)
              clear hwd BA LB BY
              refine pure_ (i := 0) (N := some 66) (v := ?_) (a' := ?_) #[true, false, false, false, false, false, false, false, false, false, false, false, false, false, false, false, false, false, false, false, false, false, false, false, false, false, false, false, false, false] rfl rfl (by kernel_rfl) (fun _ _ _ h => h) (Or.inl ⟨by rfl, ?_⟩) ?_ ?_
              rotate_left
              · intro w'
                go_simp
                with_reducible rfl
              rotate_left
              · simp only [Act.put, List.setIfInBounds_toArray, List.set_cons_zero, List.set_cons_succ, i64_w, i32_w]
                rfl
              refine take_ (i := 1) (N := some 67) (v := ?_) (a' := ?_) #[true, true, false, false, false, false, false, false, false, false, false, false, false, false, false, false, false, false, false, false, false, false, false, false, false, false, false, false, false, false] rfl rfl (by kernel_rfl) (fun _ _ _ h => h) (Or.inl ⟨by rfl, ?_⟩) hHeld ?_ ?_
              rotate_left
              · rintro w' ⟨s0, s1, s2, s3⟩
                go_simp
                with_reducible rfl
              rotate_left
              · simp only [Act.put, List.setIfInBounds_toArray, List.set_cons_zero, List.set_cons_succ, i64_w, i32_w]
                rfl
              refine one_ (i := 2) (N := some 68) #[true, true, true, false, false, false, false, false, false, false, false, false, false, false, false, false, false, false, false, false, false, false, false, false, false, false, false, false, false, false] rfl rfl (by kernel_rfl) (by decide) (fun K hK => ?_)
              refine goes_ Try.func9 (by kernel_rfl) rfl #[.string x.f0] (by rfl) rfl rfl (by (try simp only [List.map_toArray, List.map_cons, List.map_nil]); first | done | rfl) ?_
              refine (ISN.out wd).mono ?_
              rintro e w3 ⟨rfl, hb⟩
              refine ⟨_, rfl, ?_⟩
              have BA3 := Aside0.mk (below_then BAd.out BAd.out.size hb)
              have LB3 := Aside0.mk (blk_below LBd.out hb)
              have BY3 := Aside0.mk (blk_below BYd.out hb)
              clear hb
              refine hK.out _ _ ⟨(blk_cell BY3.out 1).trans rfl, (blk_cell BY3.out 2).trans rfl, (blk_cell LB3.out 0).trans rfl, (blk_cell LB3.out 1).trans rfl⟩ (fun hHeld => ?_)
              clear hK K
              refine norm_ (a' := ?_) ?_ ?_
              rotate_left
              · show Act.put _ (some 68) _ = _
                simp only [Act.put, List.setIfInBounds_toArray, List.set_cons_zero, List.set_cons_succ, i64_w, i32_w]
                rfl
              refine pure_ (i := 3) (N := some 69) (v := ?_) (a' := ?_) #[true, true, true, true, false, false, false, false, false, false, false, false, false, false, false, false, false, false, false, false, false, false, false, false, false, false, false, false, false, false] rfl rfl (by kernel_rfl) (fun _ _ _ h => h) (Or.inl ⟨by rfl, ?_⟩) ?_ ?_
              rotate_left
              · intro w'
                go_simp
                with_reducible rfl
              rotate_left
              · simp only [Act.put, List.setIfInBounds_toArray, List.set_cons_zero, List.set_cons_succ, i64_w, i32_w]
                rfl
              refine pure_ (i := 4) (N := some 70) (v := ?_) (a' := ?_) #[true, true, true, true, true, false, false, false, false, false, false, false, false, false, false, false, false, false, false, false, false, false, false, false, false, false, false, false, false, false] rfl rfl (by kernel_rfl) (fun _ _ _ h => h) (Or.inl ⟨by rfl, ?_⟩) ?_ ?_
              rotate_left
              · intro w'
                go_simp
                with_reducible rfl
              rotate_left
              · simp only [Act.put, List.setIfInBounds_toArray, List.set_cons_zero, List.set_cons_succ, i64_w, i32_w]
                rfl
              refine pure_ (i := 5) (N := some 71) (v := ?_) (a' := ?_) #[true, true, true, true, true, true, false, false, false, false, false, false, false, false, false, false, false, false, false, false, false, false, false, false, false, false, false, false, false, false] rfl rfl (by kernel_rfl) (fun _ _ _ h => h) (Or.inl ⟨by rfl, ?_⟩) ?_ ?_
              rotate_left
              · intro w'
                go_simp
                with_reducible rfl
              rotate_left
              · simp only [Act.put, List.setIfInBounds_toArray, List.set_cons_zero, List.set_cons_succ, i64_w, i32_w]
                rfl
              refine pure_ (i := 7) (N := some 73) (v := ?_) (a' := ?_) #[true, true, true, true, true, true, false, true, false, false, false, false, false, false, false, false, false, false, false, false, false, false, false, false, false, false, false, false, false, false] rfl rfl (by kernel_rfl) (fun _ _ _ h => h) (Or.inl ⟨by rfl, ?_⟩) ?_ ?_
              rotate_left
              · intro w'
                go_simp
                with_reducible rfl
              rotate_left
              · simp only [Act.put, List.setIfInBounds_toArray, List.set_cons_zero, List.set_cons_succ, i64_w, i32_w]
                rfl
              refine take_ (i := 6) (N := some 72) (v := ?_) (a' := ?_) #[true, true, true, true, true, true, true, true, false, false, false, false, false, false, false, false, false, false, false, false, false, false, false, false, false, false, false, false, false, false] rfl rfl (by kernel_rfl) (fun _ _ _ h => h) (Or.inl ⟨by rfl, ?_⟩) hHeld ?_ ?_
              rotate_left
              · rintro w' ⟨s0, s1, s2, s3⟩
                go_simp
                with_reducible rfl
              rotate_left
              · simp only [Act.put, List.setIfInBounds_toArray, List.set_cons_zero, List.set_cons_succ, i64_w, i32_w]
                rfl
              refine take_ (i := 8) (N := some 74) (v := ?_) (a' := ?_) #[true, true, true, true, true, true, true, true, true, false, false, false, false, false, false, false, false, false, false, false, false, false, false, false, false, false, false, false, false, false] rfl rfl (by kernel_rfl) (fun _ _ _ h => h) (Or.inl ⟨by rfl, ?_⟩) hHeld ?_ ?_
              rotate_left
              · rintro w' ⟨s0, s1, s2, s3⟩
                go_simp
                with_reducible rfl
              rotate_left
              · simp only [Act.put, List.setIfInBounds_toArray, List.set_cons_zero, List.set_cons_succ, i64_w, i32_w]
                rfl
              refine pure_ (i := 9) (N := some 75) (v := ?_) (a' := ?_) #[true, true, true, true, true, true, true, true, true, true, false, false, false, false, false, false, false, false, false, false, false, false, false, false, false, false, false, false, false, false] rfl rfl (by kernel_rfl) (fun _ _ _ h => h) (Or.inl ⟨by rfl, ?_⟩) ?_ ?_
              rotate_left
              · intro w'
                go_simp
                with_reducible rfl
              rotate_left
              · simp only [Act.put, List.setIfInBounds_toArray, List.set_cons_zero, List.set_cons_succ, i64_w, i32_w]
                rfl
              refine pure_ (i := 10) (N := some 76) (v := ?_) (a' := ?_) #[true, true, true, true, true, true, true, true, true, true, true, false, false, false, false, false, false, false, false, false, false, false, false, false, false, false, false, false, false, false] rfl rfl (by kernel_rfl) (fun _ _ _ h => h) (Or.inl ⟨by rfl, ?_⟩) ?_ ?_
              rotate_left
              · intro w'
                go_simp
                with_reducible rfl
              rotate_left
              · simp only [Act.put, List.setIfInBounds_toArray, List.set_cons_zero, List.set_cons_succ, i64_w, i32_w]
                rfl
              refine one_ (i := 11) (N := some 77) #[true, true, true, true, true, true, true, true, true, true, true, true, false, false, false, false, false, false, false, false, false, false, false, false, false, false, false, false, false, false] rfl rfl (by kernel_rfl) (by decide) (fun K hK => ?_)
              refine goes_ Try.func48 (by kernel_rfl) rfl #[.int .i64 x.f1, .int .i64 0, .int .i64 ((m1.length : Int) - 1)] (by rfl) rfl rfl (by (try simp only [List.map_toArray, List.map_cons, List.map_nil]); first | done | rfl) ?_
              refine (WN.out w3).mono ?_
              rintro e w4 ⟨rfl, hb⟩
              refine ⟨_, rfl, ?_⟩
              have BA4 := Aside0.mk (below_then BA3.out BA3.out.size hb)
              have LB4 := Aside0.mk (blk_below LB3.out hb)
              have BY4 := Aside0.mk (blk_below BY3.out hb)
              clear hb
              refine hK.out _ _ ⟨(blk_cell BY4.out 1).trans rfl, (blk_cell BY4.out 2).trans rfl, (blk_cell LB4.out 0).trans rfl, (blk_cell LB4.out 1).trans rfl⟩ (fun hHeld => ?_)
              clear hK K
              refine norm_ (a' := ?_) ?_ ?_
              rotate_left
              · show Act.put _ (some 77) _ = _
                simp only [Act.put, List.setIfInBounds_toArray, List.set_cons_zero, List.set_cons_succ, i64_w, i32_w]
                rfl
              refine pure_ (i := 12) (N := some 78) (v := ?_) (a' := ?_) #[true, true, true, true, true, true, true, true, true, true, true, true, true, false, false, false, false, false, false, false, false, false, false, false, false, false, false, false, false, false] rfl rfl (by kernel_rfl) (fun _ _ _ h => h) (Or.inl ⟨by rfl, ?_⟩) ?_ ?_
              rotate_left
              · intro w'
                go_simp
                with_reducible rfl
              rotate_left
              · simp only [Act.put, List.setIfInBounds_toArray, List.set_cons_zero, List.set_cons_succ, i64_w, i32_w]
                rfl
              refine pure_ (i := 13) (N := some 79) (v := ?_) (a' := ?_) #[true, true, true, true, true, true, true, true, true, true, true, true, true, true, false, false, false, false, false, false, false, false, false, false, false, false, false, false, false, false] rfl rfl (by kernel_rfl) (fun _ _ _ h => h) (Or.inl ⟨by rfl, ?_⟩) ?_ ?_
              rotate_left
              · intro w'
                go_simp
                with_reducible rfl
              rotate_left
              · simp only [Act.put, List.setIfInBounds_toArray, List.set_cons_zero, List.set_cons_succ, i64_w, i32_w]
                rfl
              refine pure_ (i := 14) (N := some 80) (v := ?_) (a' := ?_) #[true, true, true, true, true, true, true, true, true, true, true, true, true, true, true, false, false, false, false, false, false, false, false, false, false, false, false, false, false, false] rfl rfl (by kernel_rfl) (fun _ _ _ h => h) (Or.inl ⟨by rfl, ?_⟩) ?_ ?_
              rotate_left
              · intro w'
                go_simp
                with_reducible rfl
              rotate_left
              · simp only [Act.put, List.setIfInBounds_toArray, List.set_cons_zero, List.set_cons_succ, i64_w, i32_w]
                rfl
              refine pure_ (i := 15) (N := some 81) (v := ?_) (a' := ?_) #[true, true, true, true, true, true, true, true, true, true, true, true, true, true, true, true, false, false, false, false, false, false, false, false, false, false, false, false, false, false] rfl rfl (by kernel_rfl) (fun _ _ _ h => h) (Or.inl ⟨by rfl, ?_⟩) ?_ ?_
              rotate_left
              · intro w'
                go_simp
                with_reducible rfl
              rotate_left
              · simp only [Act.put, List.setIfInBounds_toArray, List.set_cons_zero, List.set_cons_succ, i64_w, i32_w]
                rfl
              refine pure_ (i := 16) (N := some 82) (v := ?_) (a' := ?_) #[true, true, true, true, true, true, true, true, true, true, true, true, true, true, true, true, true, false, false, false, false, false, false, false, false, false, false, false, false, false] rfl rfl (by kernel_rfl) (fun _ _ _ h => h) (Or.inl ⟨by rfl, ?_⟩) ?_ ?_
              rotate_left
              · intro w'
                go_simp
                with_reducible rfl
              rotate_left
              · simp only [Act.put, List.setIfInBounds_toArray, List.set_cons_zero, List.set_cons_succ, i64_w, i32_w]
                rfl
              refine pure_ (i := 17) (N := some 83) (v := ?_) (a' := ?_) #[true, true, true, true, true, true, true, true, true, true, true, true, true, true, true, true, true, true, false, false, false, false, false, false, false, false, false, false, false, false] rfl rfl (by kernel_rfl) (fun _ _ _ h => h) (Or.inl ⟨by rfl, ?_⟩) ?_ ?_
              rotate_left
              · intro w'
                go_simp
                with_reducible rfl
              rotate_left
              · simp only [Act.put, List.setIfInBounds_toArray, List.set_cons_zero, List.set_cons_succ, i64_w, i32_w]
                rfl
              refine pure_ (i := 18) (N := some 84) (v := undef) (a' := ?_) #[true, true, true, true, true, true, true, true, true, true, true, true, true, true, true, true, true, true, true, false, false, false, false, false, false, false, false, false, false, false] rfl rfl (by kernel_rfl) (fun _ _ _ h => h) (Or.inr ⟨by rfl, rfl⟩) ?_ ?_
              rotate_left
              · simp only [Act.put, List.setIfInBounds_toArray, List.set_cons_zero, List.set_cons_succ, i64_w, i32_w]
                rfl
              refine pure_ (i := 19) (N := some 85) (v := undef) (a' := ?_) #[true, true, true, true, true, true, true, true, true, true, true, true, true, true, true, true, true, true, true, true, false, false, false, false, false, false, false, false, false, false] rfl rfl (by kernel_rfl) (fun _ _ _ h => h) (Or.inr ⟨by rfl, rfl⟩) ?_ ?_
              rotate_left
              · simp only [Act.put, List.setIfInBounds_toArray, List.set_cons_zero, List.set_cons_succ, i64_w, i32_w]
                rfl
              refine pure_ (i := 20) (N := some 86) (v := undef) (a' := ?_) #[true, true, true, true, true, true, true, true, true, true, true, true, true, true, true, true, true, true, true, true, true, false, false, false, false, false, false, false, false, false] rfl rfl (by kernel_rfl) (fun _ _ _ h => h) (Or.inr ⟨by rfl, rfl⟩) ?_ ?_
              rotate_left
              · simp only [Act.put, List.setIfInBounds_toArray, List.set_cons_zero, List.set_cons_succ, i64_w, i32_w]
                rfl
              refine pure_ (i := 21) (N := some 87) (v := undef) (a' := ?_) #[true, true, true, true, true, true, true, true, true, true, true, true, true, true, true, true, true, true, true, true, true, true, false, false, false, false, false, false, false, false] rfl rfl (by kernel_rfl) (fun _ _ _ h => h) (Or.inr ⟨by rfl, rfl⟩) ?_ ?_
              rotate_left
              · simp only [Act.put, List.setIfInBounds_toArray, List.set_cons_zero, List.set_cons_succ, i64_w, i32_w]
                rfl
              refine pure_ (i := 22) (N := some 88) (v := undef) (a' := ?_) #[true, true, true, true, true, true, true, true, true, true, true, true, true, true, true, true, true, true, true, true, true, true, true, false, false, false, false, false, false, false] rfl rfl (by kernel_rfl) (fun _ _ _ h => h) (Or.inr ⟨by rfl, rfl⟩) ?_ ?_
              rotate_left
              · simp only [Act.put, List.setIfInBounds_toArray, List.set_cons_zero, List.set_cons_succ, i64_w, i32_w]
                rfl
              refine pure_ (i := 23) (N := some 89) (v := undef) (a' := ?_) #[true, true, true, true, true, true, true, true, true, true, true, true, true, true, true, true, true, true, true, true, true, true, true, true, false, false, false, false, false, false] rfl rfl (by kernel_rfl) (fun _ _ _ h => h) (Or.inr ⟨by rfl, rfl⟩) ?_ ?_
              rotate_left
              · simp only [Act.put, List.setIfInBounds_toArray, List.set_cons_zero, List.set_cons_succ, i64_w, i32_w]
                rfl
              refine pure_ (i := 24) (N := some 90) (v := undef) (a' := ?_) #[true, true, true, true, true, true, true, true, true, true, true, true, true, true, true, true, true, true, true, true, true, true, true, true, true, false, false, false, false, false] rfl rfl (by kernel_rfl) (fun _ _ _ h => h) (Or.inr ⟨by rfl, rfl⟩) ?_ ?_
              rotate_left
              · simp only [Act.put, List.setIfInBounds_toArray, List.set_cons_zero, List.set_cons_succ, i64_w, i32_w]
                rfl
              refine pure_ (i := 25) (N := some 91) (v := undef) (a' := ?_) #[true, true, true, true, true, true, true, true, true, true, true, true, true, true, true, true, true, true, true, true, true, true, true, true, true, true, false, false, false, false] rfl rfl (by kernel_rfl) (fun _ _ _ h => h) (Or.inr ⟨by rfl, rfl⟩) ?_ ?_
              rotate_left
              · simp only [Act.put, List.setIfInBounds_toArray, List.set_cons_zero, List.set_cons_succ, i64_w, i32_w]
                rfl
              refine pure_ (i := 26) (N := some 92) (v := undef) (a' := ?_) #[true, true, true, true, true, true, true, true, true, true, true, true, true, true, true, true, true, true, true, true, true, true, true, true, true, true, true, false, false, false] rfl rfl (by kernel_rfl) (fun _ _ _ h => h) (Or.inr ⟨by rfl, rfl⟩) ?_ ?_
              rotate_left
              · simp only [Act.put, List.setIfInBounds_toArray, List.set_cons_zero, List.set_cons_succ, i64_w, i32_w]
                rfl
              refine pure_ (i := 27) (N := some 93) (v := undef) (a' := ?_) #[true, true, true, true, true, true, true, true, true, true, true, true, true, true, true, true, true, true, true, true, true, true, true, true, true, true, true, true, false, false] rfl rfl (by kernel_rfl) (fun _ _ _ h => h) (Or.inr ⟨by rfl, rfl⟩) ?_ ?_
              rotate_left
              · simp only [Act.put, List.setIfInBounds_toArray, List.set_cons_zero, List.set_cons_succ, i64_w, i32_w]
                rfl
              refine pure_ (i := 28) (N := some 94) (v := ?_) (a' := ?_) #[true, true, true, true, true, true, true, true, true, true, true, true, true, true, true, true, true, true, true, true, true, true, true, true, true, true, true, true, true, false] rfl rfl (by kernel_rfl) (fun _ _ _ h => h) (Or.inl ⟨by rfl, ?_⟩) ?_ ?_
              rotate_left
              · intro w'
                go_simp
                with_reducible rfl
              rotate_left
              · simp only [Act.put, List.setIfInBounds_toArray, List.set_cons_zero, List.set_cons_succ, i64_w, i32_w]
                rfl
              refine pure_ (i := 29) (N := some 95) (v := ?_) (a' := ?_) #[true, true, true, true, true, true, true, true, true, true, true, true, true, true, true, true, true, true, true, true, true, true, true, true, true, true, true, true, true, true] rfl rfl (by kernel_rfl) (fun _ _ _ h => h) (Or.inl ⟨by rfl, ?_⟩) ?_ ?_
              rotate_left
              · intro w'
                go_simp
                with_reducible rfl
              rotate_left
              · simp only [Act.put, List.setIfInBounds_toArray, List.set_cons_zero, List.set_cons_succ, i64_w, i32_w]
                rfl
              refine done_ (by kernel_rfl) ?_
              go_wp2
              go_roundw
              case rel => exact ⟨1, by rfl, ⟨by have := i4; omega, fun i hi y hy => by
                obtain rfl : i = 0 := by omega
                rw [HG.out] at hy
                cases hy
                exact ⟨p0, p1, fun h => absurd h (by omega)⟩⟩, BY4, BA4⟩
              case measure => show m2.length - 1 < m2.length - 0; have := i4; omega
            obtain ⟨k, rfl⟩ : ∃ k, j = k + 1 := ⟨j - 1, by omega⟩
            have hkl : k < m2.length := by have := i4; omega
            have hk0 : (0 : Int) ≤ (k : Int) := by omega
            have hk1 : wrap64 (((k + 1 : Nat) : Int) - 1) = (k : Int) := by have := HC2.out; unfold wrap64; omega
            have hk5 : wrap64 (k : Int) = (k : Int) := by have := HC2.out; unfold wrap64; omega
            have hk6 : IntKind.i64.wrap (k : Int) = (k : Int) := (i64_w _).trans hk5
            have hk2 : (((k + 1 : Nat) : Int)) > 0 := by omega
            have hk3 : decide ((((k + 1 : Nat) : Int)) > 0) = true := decide_eq_true hk2
            have hk4 : (k : Int) < (m2.length : Int) := by omega
            have hgk : m2[k]? = some (rd_T56 m2 (k : Int)) := by
              unfold rd_T56
              rw [Int.toNat_natCast, List.getD_eq_getElem?_getD, List.getElem?_eq_getElem hkl]
              rfl
            generalize rd_T56 m2 (k : Int) = y at *
            have HGK := Aside0.mk hgk
            have G0 := Aside0.mk (Kd.C_below HA2.out BA.out)
            clear hgk hkl
            cases p3 : Op.bytesLess y.f0.toList x.f0.toList with
            | false =>
              refine start_ (n := 30) (S := fun w' => w'.cell? ⟨gb, 1, none⟩ = some (.slice A1 m1.length c1) ∧ w'.cell? ⟨gb, 2, none⟩ = some (.slice (some ad) m2.length c2) ∧ w'.cell? ⟨wr.heap.size, 0, none⟩ = some (.string x.f0) ∧ w'.cell? ⟨wr.heap.size, 1, none⟩ = some (.int .i64 x.f1) ∧ w'.cell? (ad.add (k * 2)) = some (.string y.f0)) (ds := []) #[false, false, false, false, false, false, false, false, false, false, false, false, false, false, false, false, false, false, false, false, false, false, false, false, false, false, false, false, false, false] (by kernel_rfl) rfl rfl ⟨(blk_cell (blk_drew BY.out) 1).trans rfl, (blk_cell (blk_drew BY.out) 2).trans rfl, (blk_cell (blk_drew LB.out) 0).trans rfl, (blk_cell (blk_drew LB.out) 1).trans rfl, (mb.cell56 (Kd.C_below G0.out (below_drew (Below.refl _ _))) HGK.out)⟩ (fun hHeld => ?_)
              generalize hwd : w2.drew = wd at hHeld ⊢
              have BAd := Aside0.mk (hwd ▸ below_drew BA.out)
              have LBd := Aside0.mk (hwd ▸ blk_drew LB.out)
              have BYd := Aside0.mk (hwd ▸ blk_drew BY.out)
              have Gd := Aside0.mk (hwd ▸ Kd.C_below G0.out (below_drew (Below.refl _ _)))
              clear hwd BA LB BY G0
              refine pure_ (i := 0) (N := some 66) (v := ?_) (a' := ?_) #[true, false, false, false, false, false, false, false, false, false, false, false, false, false, false, false, false, false, false, false, false, false, false, false, false, false, false, false, false, false] rfl rfl (by kernel_rfl) (fun _ _ _ h => h) (Or.inl ⟨by rfl, ?_⟩) ?_ ?_
              rotate_left
              · intro w'
                go_simp
                with_reducible rfl
              rotate_left
              · simp only [Act.put, List.setIfInBounds_toArray, List.set_cons_zero, List.set_cons_succ, i64_w, i32_w]
                rfl
              refine take_ (i := 1) (N := some 67) (v := ?_) (a' := ?_) #[true, true, false, false, false, false, false, false, false, false, false, false, false, false, false, false, false, false, false, false, false, false, false, false, false, false, false, false, false, false] rfl rfl (by kernel_rfl) (fun _ _ _ h => h) (Or.inl ⟨by rfl, ?_⟩) hHeld ?_ ?_
              rotate_left
              · rintro w' ⟨s0, s1, s2, s3, s4⟩
                go_simp
                with_reducible rfl
              rotate_left
              · simp only [Act.put, List.setIfInBounds_toArray, List.set_cons_zero, List.set_cons_succ, i64_w, i32_w]
                rfl
              refine one_ (i := 2) (N := some 68) #[true, true, true, false, false, false, false, false, false, false, false, false, false, false, false, false, false, false, false, false, false, false, false, false, false, false, false, false, false, false] rfl rfl (by kernel_rfl) (by decide) (fun K hK => ?_)
              refine goes_ Try.func9 (by kernel_rfl) rfl #[.string x.f0] (by rfl) rfl rfl (by (try simp only [List.map_toArray, List.map_cons, List.map_nil]); first | done | rfl) ?_
              refine (ISN.out wd).mono ?_
              rintro e w3 ⟨rfl, hb⟩
              refine ⟨_, rfl, ?_⟩
              have BA3 := Aside0.mk (below_then BAd.out BAd.out.size hb)
              have LB3 := Aside0.mk (blk_below LBd.out hb)
              have BY3 := Aside0.mk (blk_below BYd.out hb)
              have G3 := Aside0.mk (Kd.C_below Gd.out hb)
              clear hb
              refine hK.out _ _ ⟨(blk_cell BY3.out 1).trans rfl, (blk_cell BY3.out 2).trans rfl, (blk_cell LB3.out 0).trans rfl, (blk_cell LB3.out 1).trans rfl, (mb.cell56 G3.out HGK.out)⟩ (fun hHeld => ?_)
              clear hK K
              refine norm_ (a' := ?_) ?_ ?_
              rotate_left
              · show Act.put _ (some 68) _ = _
                simp only [Act.put, List.setIfInBounds_toArray, List.set_cons_zero, List.set_cons_succ, i64_w, i32_w]
                rfl
              refine pure_ (i := 3) (N := some 69) (v := ?_) (a' := ?_) #[true, true, true, true, false, false, false, false, false, false, false, false, false, false, false, false, false, false, false, false, false, false, false, false, false, false, false, false, false, false] rfl rfl (by kernel_rfl) (fun _ _ _ h => h) (Or.inl ⟨by rfl, ?_⟩) ?_ ?_
              rotate_left
              · intro w'
                go_simp
                with_reducible rfl
              rotate_left
              · simp only [Act.put, List.setIfInBounds_toArray, List.set_cons_zero, List.set_cons_succ, i64_w, i32_w]
                rfl
              refine pure_ (i := 4) (N := some 70) (v := ?_) (a' := ?_) #[true, true, true, true, true, false, false, false, false, false, false, false, false, false, false, false, false, false, false, false, false, false, false, false, false, false, false, false, false, false] rfl rfl (by kernel_rfl) (fun _ _ _ h => h) (Or.inl ⟨by rfl, ?_⟩) ?_ ?_
              rotate_left
              · intro w'
                go_simp
                with_reducible rfl
              rotate_left
              · simp only [Act.put, List.setIfInBounds_toArray, List.set_cons_zero, List.set_cons_succ, i64_w, i32_w]
                rfl
              refine pure_ (i := 5) (N := some 71) (v := ?_) (a' := ?_) #[true, true, true, true, true, true, false, false, false, false, false, false, false, false, false, false, false, false, false, false, false, false, false, false, false, false, false, false, false, false] rfl rfl (by kernel_rfl) (fun _ _ _ h => h) (Or.inl ⟨by rfl, ?_⟩) ?_ ?_
              rotate_left
              · intro w'
                go_simp
                with_reducible rfl
              rotate_left
              · simp only [Act.put, List.setIfInBounds_toArray, List.set_cons_zero, List.set_cons_succ, i64_w, i32_w]
                rfl
              refine pure_ (i := 7) (N := some 73) (v := ?_) (a' := ?_) #[true, true, true, true, true, true, false, true, false, false, false, false, false, false, false, false, false, false, false, false, false, false, false, false, false, false, false, false, false, false] rfl rfl (by kernel_rfl) (fun _ _ _ h => h) (Or.inl ⟨by rfl, ?_⟩) ?_ ?_
              rotate_left
              · intro w'
                go_simp
                with_reducible rfl
              rotate_left
              · simp only [Act.put, List.setIfInBounds_toArray, List.set_cons_zero, List.set_cons_succ, i64_w, i32_w]
                rfl
              refine take_ (i := 6) (N := some 72) (v := ?_) (a' := ?_) #[true, true, true, true, true, true, true, true, false, false, false, false, false, false, false, false, false, false, false, false, false, false, false, false, false, false, false, false, false, false] rfl rfl (by kernel_rfl) (fun _ _ _ h => h) (Or.inl ⟨by rfl, ?_⟩) hHeld ?_ ?_
              rotate_left
              · rintro w' ⟨s0, s1, s2, s3, s4⟩
                go_simp
                with_reducible rfl
              rotate_left
              · simp only [Act.put, List.setIfInBounds_toArray, List.set_cons_zero, List.set_cons_succ, i64_w, i32_w]
                rfl
              refine take_ (i := 8) (N := some 74) (v := ?_) (a' := ?_) #[true, true, true, true, true, true, true, true, true, false, false, false, false, false, false, false, false, false, false, false, false, false, false, false, false, false, false, false, false, false] rfl rfl (by kernel_rfl) (fun _ _ _ h => h) (Or.inl ⟨by rfl, ?_⟩) hHeld ?_ ?_
              rotate_left
              · rintro w' ⟨s0, s1, s2, s3, s4⟩
                go_simp
                with_reducible rfl
              rotate_left
              · simp only [Act.put, List.setIfInBounds_toArray, List.set_cons_zero, List.set_cons_succ, i64_w, i32_w]
                rfl
              refine pure_ (i := 9) (N := some 75) (v := ?_) (a' := ?_) #[true, true, true, true, true, true, true, true, true, true, false, false, false, false, false, false, false, false, false, false, false, false, false, false, false, false, false, false, false, false] rfl rfl (by kernel_rfl) (fun _ _ _ h => h) (Or.inl ⟨by rfl, ?_⟩) ?_ ?_
              rotate_left
              · intro w'
                go_simp
                with_reducible rfl
              rotate_left
              · simp only [Act.put, List.setIfInBounds_toArray, List.set_cons_zero, List.set_cons_succ, i64_w, i32_w]
                rfl
              refine pure_ (i := 10) (N := some 76) (v := ?_) (a' := ?_) #[true, true, true, true, true, true, true, true, true, true, true, false, false, false, false, false, false, false, false, false, false, false, false, false, false, false, false, false, false, false] rfl rfl (by kernel_rfl) (fun _ _ _ h => h) (Or.inl ⟨by rfl, ?_⟩) ?_ ?_
              rotate_left
              · intro w'
                go_simp
                with_reducible rfl
              rotate_left
              · simp only [Act.put, List.setIfInBounds_toArray, List.set_cons_zero, List.set_cons_succ, i64_w, i32_w]
                rfl
              refine one_ (i := 11) (N := some 77) #[true, true, true, true, true, true, true, true, true, true, true, true, false, false, false, false, false, false, false, false, false, false, false, false, false, false, false, false, false, false] rfl rfl (by kernel_rfl) (by decide) (fun K hK => ?_)
              refine goes_ Try.func48 (by kernel_rfl) rfl #[.int .i64 x.f1, .int .i64 0, .int .i64 ((m1.length : Int) - 1)] (by rfl) rfl rfl (by (try simp only [List.map_toArray, List.map_cons, List.map_nil]); first | done | rfl) ?_
              refine (WN.out w3).mono ?_
              rintro e w4 ⟨rfl, hb⟩
              refine ⟨_, rfl, ?_⟩
              have BA4 := Aside0.mk (below_then BA3.out BA3.out.size hb)
              have LB4 := Aside0.mk (blk_below LB3.out hb)
              have BY4 := Aside0.mk (blk_below BY3.out hb)
              have G4 := Aside0.mk (Kd.C_below G3.out hb)
              clear hb
              refine hK.out _ _ ⟨(blk_cell BY4.out 1).trans rfl, (blk_cell BY4.out 2).trans rfl, (blk_cell LB4.out 0).trans rfl, (blk_cell LB4.out 1).trans rfl, (mb.cell56 G4.out HGK.out)⟩ (fun hHeld => ?_)
              clear hK K
              refine norm_ (a' := ?_) ?_ ?_
              rotate_left
              · show Act.put _ (some 77) _ = _
                simp only [Act.put, List.setIfInBounds_toArray, List.set_cons_zero, List.set_cons_succ, i64_w, i32_w]
                rfl
              refine pure_ (i := 12) (N := some 78) (v := ?_) (a' := ?_) #[true, true, true, true, true, true, true, true, true, true, true, true, true, false, false, false, false, false, false, false, false, false, false, false, false, false, false, false, false, false] rfl rfl (by kernel_rfl) (fun _ _ _ h => h) (Or.inl ⟨by rfl, ?_⟩) ?_ ?_
              rotate_left
              · intro w'
                go_simp
                with_reducible rfl
              rotate_left
              · simp only [Act.put, List.setIfInBounds_toArray, List.set_cons_zero, List.set_cons_succ, i64_w, i32_w]
                rfl
              refine pure_ (i := 13) (N := some 79) (v := ?_) (a' := ?_) #[true, true, true, true, true, true, true, true, true, true, true, true, true, true, false, false, false, false, false, false, false, false, false, false, false, false, false, false, false, false] rfl rfl (by kernel_rfl) (fun _ _ _ h => h) (Or.inl ⟨by rfl, ?_⟩) ?_ ?_
              rotate_left
              · intro w'
                go_simp
                with_reducible rfl
              rotate_left
              · simp only [Act.put, List.setIfInBounds_toArray, List.set_cons_zero, List.set_cons_succ, i64_w, i32_w]
                rfl
              refine pure_ (i := 14) (N := some 80) (v := ?_) (a' := ?_) #[true, true, true, true, true, true, true, true, true, true, true, true, true, true, true, false, false, false, false, false, false, false, false, false, false, false, false, false, false, false] rfl rfl (by kernel_rfl) (fun _ _ _ h => h) (Or.inl ⟨by rfl, ?_⟩) ?_ ?_
              rotate_left
              · intro w'
                go_simp
                with_reducible rfl
              rotate_left
              · simp only [Act.put, List.setIfInBounds_toArray, List.set_cons_zero, List.set_cons_succ, i64_w, i32_w]
                rfl
              refine pure_ (i := 15) (N := some 81) (v := ?_) (a' := ?_) #[true, true, true, true, true, true, true, true, true, true, true, true, true, true, true, true, false, false, false, false, false, false, false, false, false, false, false, false, false, false] rfl rfl (by kernel_rfl) (fun _ _ _ h => h) (Or.inl ⟨by rfl, ?_⟩) ?_ ?_
              rotate_left
              · intro w'
                go_simp
                with_reducible rfl
              rotate_left
              · simp only [Act.put, List.setIfInBounds_toArray, List.set_cons_zero, List.set_cons_succ, i64_w, i32_w]
                rfl
              refine pure_ (i := 16) (N := some 82) (v := ?_) (a' := ?_) #[true, true, true, true, true, true, true, true, true, true, true, true, true, true, true, true, true, false, false, false, false, false, false, false, false, false, false, false, false, false] rfl rfl (by kernel_rfl) (fun _ _ _ h => h) (Or.inl ⟨by rfl, ?_⟩) ?_ ?_
              rotate_left
              · intro w'
                go_simp
                with_reducible rfl
              rotate_left
              · simp only [Act.put, List.setIfInBounds_toArray, List.set_cons_zero, List.set_cons_succ, i64_w, i32_w]
                rfl
              refine pure_ (i := 17) (N := some 83) (v := ?_) (a' := ?_) #[true, true, true, true, true, true, true, true, true, true, true, true, true, true, true, true, true, true, false, false, false, false, false, false, false, false, false, false, false, false] rfl rfl (by kernel_rfl) (fun _ _ _ h => h) (Or.inl ⟨by rfl, ?_⟩) ?_ ?_
              rotate_left
              · intro w'
                go_simp
                with_reducible rfl
              rotate_left
              · simp only [Act.put, List.setIfInBounds_toArray, List.set_cons_zero, List.set_cons_succ, i64_w, i32_w]
                rfl
              refine pure_ (i := 18) (N := some 84) (v := ?_) (a' := ?_) #[true, true, true, true, true, true, true, true, true, true, true, true, true, true, true, true, true, true, true, false, false, false, false, false, false, false, false, false, false, false] rfl rfl (by kernel_rfl) (fun _ _ _ h => h) (Or.inl ⟨by rfl, ?_⟩) ?_ ?_
              rotate_left
              · intro w'
                go_simp
                with_reducible rfl
              rotate_left
              · simp only [Act.put, List.setIfInBounds_toArray, List.set_cons_zero, List.set_cons_succ, i64_w, i32_w]
                rfl
              refine pure_ (i := 20) (N := some 86) (v := ?_) (a' := ?_) #[true, true, true, true, true, true, true, true, true, true, true, true, true, true, true, true, true, true, true, false, true, false, false, false, false, false, false, false, false, false] rfl rfl (by kernel_rfl) (fun _ _ _ h => h) (Or.inl ⟨by rfl, ?_⟩) ?_ ?_
              rotate_left
              · intro w'
                go_simp
                with_reducible rfl
              rotate_left
              · simp only [Act.put, List.setIfInBounds_toArray, List.set_cons_zero, List.set_cons_succ, i64_w, i32_w]
                rfl
              refine pure_ (i := 21) (N := some 87) (v := ?_) (a' := ?_) #[true, true, true, true, true, true, true, true, true, true, true, true, true, true, true, true, true, true, true, false, true, true, false, false, false, false, false, false, false, false] rfl rfl (by kernel_rfl) (fun _ _ _ h => h) (Or.inl ⟨by rfl, ?_⟩) ?_ ?_
              rotate_left
              · intro w'
                go_simp
                with_reducible rfl
              rotate_left
              · simp only [Act.put, List.setIfInBounds_toArray, List.set_cons_zero, List.set_cons_succ, i64_w, i32_w]
                rfl
              refine pure_ (i := 25) (N := some 91) (v := ?_) (a' := ?_) #[true, true, true, true, true, true, true, true, true, true, true, true, true, true, true, true, true, true, true, false, true, true, false, false, false, true, false, false, false, false] rfl rfl (by kernel_rfl) (fun _ _ _ h => h) (Or.inl ⟨by rfl, ?_⟩) ?_ ?_
              rotate_left
              · intro w'
                go_simp
                with_reducible rfl
              rotate_left
              · simp only [Act.put, List.setIfInBounds_toArray, List.set_cons_zero, List.set_cons_succ, i64_w, i32_w]
                rfl
              refine take_ (i := 19) (N := some 85) (v := ?_) (a' := ?_) #[true, true, true, true, true, true, true, true, true, true, true, true, true, true, true, true, true, true, true, true, true, true, false, false, false, true, false, false, false, false] rfl rfl (by kernel_rfl) (fun _ _ _ h => h) (Or.inl ⟨by rfl, ?_⟩) hHeld ?_ ?_
              rotate_left
              · rintro w' ⟨s0, s1, s2, s3, s4⟩
                go_simp
                with_reducible rfl
              rotate_left
              · simp only [Act.put, List.setIfInBounds_toArray, List.set_cons_zero, List.set_cons_succ, i64_w, i32_w]
                rfl
              refine pure_ (i := 22) (N := some 88) (v := ?_) (a' := ?_) #[true, true, true, true, true, true, true, true, true, true, true, true, true, true, true, true, true, true, true, true, true, true, true, false, false, true, false, false, false, false] rfl rfl (by kernel_rfl) (fun _ _ _ h => h) (Or.inl ⟨by rfl, ?_⟩) ?_ ?_
              rotate_left
              · intro w'
                go_simp
                with_reducible rfl
              rotate_left
              · simp only [Act.put, List.setIfInBounds_toArray, List.set_cons_zero, List.set_cons_succ, i64_w, i32_w]
                rfl
              refine pure_ (i := 23) (N := some 89) (v := ?_) (a' := ?_) #[true, true, true, true, true, true, true, true, true, true, true, true, true, true, true, true, true, true, true, true, true, true, true, true, false, true, false, false, false, false] rfl rfl (by kernel_rfl) (fun _ _ _ h => h) (Or.inl ⟨by rfl, ?_⟩) ?_ ?_
              rotate_left
              · intro w'
                go_simp
                with_reducible rfl
              rotate_left
              · simp only [Act.put, List.setIfInBounds_toArray, List.set_cons_zero, List.set_cons_succ, i64_w, i32_w]
                rfl
              refine take_ (i := 24) (N := some 90) (v := ?_) (a' := ?_) #[true, true, true, true, true, true, true, true, true, true, true, true, true, true, true, true, true, true, true, true, true, true, true, true, true, true, false, false, false, false] rfl rfl (by kernel_rfl) (fun _ _ _ h => h) (Or.inl ⟨by rfl, ?_⟩) hHeld ?_ ?_
              rotate_left
              · rintro w' ⟨s0, s1, s2, s3, s4⟩
                go_simp
                with_reducible rfl
              rotate_left
              · simp only [Act.put, List.setIfInBounds_toArray, List.set_cons_zero, List.set_cons_succ, i64_w, i32_w]
                rfl
              refine take_ (i := 26) (N := some 92) (v := ?_) (a' := ?_) #[true, true, true, true, true, true, true, true, true, true, true, true, true, true, true, true, true, true, true, true, true, true, true, true, true, true, true, false, false, false] rfl rfl (by kernel_rfl) (fun _ _ _ h => h) (Or.inl ⟨by rfl, ?_⟩) hHeld ?_ ?_
              rotate_left
              · rintro w' ⟨s0, s1, s2, s3, s4⟩
                go_simp
                with_reducible rfl
              rotate_left
              · simp only [Act.put, List.setIfInBounds_toArray, List.set_cons_zero, List.set_cons_succ, i64_w, i32_w]
                rfl
              refine pure_ (i := 27) (N := some 93) (v := ?_) (a' := ?_) #[true, true, true, true, true, true, true, true, true, true, true, true, true, true, true, true, true, true, true, true, true, true, true, true, true, true, true, true, false, false] rfl rfl (by kernel_rfl) (fun _ _ _ h => h) (Or.inl ⟨by rfl, ?_⟩) ?_ ?_
              rotate_left
              · intro w'
                go_simp
                with_reducible rfl
              rotate_left
              · simp only [Act.put, List.setIfInBounds_toArray, List.set_cons_zero, List.set_cons_succ, i64_w, i32_w]
                rfl
              refine pure_ (i := 28) (N := some 94) (v := ?_) (a' := ?_) #[true, true, true, true, true, true, true, true, true, true, true, true, true, true, true, true, true, true, true, true, true, true, true, true, true, true, true, true, true, false] rfl rfl (by kernel_rfl) (fun _ _ _ h => h) (Or.inl ⟨by rfl, ?_⟩) ?_ ?_
              rotate_left
              · intro w'
                go_simp
                with_reducible rfl
              rotate_left
              · simp only [Act.put, List.setIfInBounds_toArray, List.set_cons_zero, List.set_cons_succ, i64_w, i32_w]
                rfl
              refine pure_ (i := 29) (N := some 95) (v := ?_) (a' := ?_) #[true, true, true, true, true, true, true, true, true, true, true, true, true, true, true, true, true, true, true, true, true, true, true, true, true, true, true, true, true, true] rfl rfl (by kernel_rfl) (fun _ _ _ h => h) (Or.inl ⟨by rfl, ?_⟩) ?_ ?_
              rotate_left
              · intro w'
                go_simp
                with_reducible rfl
              rotate_left
              · simp only [Act.put, List.setIfInBounds_toArray, List.set_cons_zero, List.set_cons_succ, i64_w, i32_w]
                rfl
              refine done_ (by kernel_rfl) ?_
              go_wp2
              go_ret
              exact mb.told false rfl ⟨fun h => by (cases h), fun h => by have := (HFM.out h).2.2 (by omega) y (by simpa using HGK.out); rw [p3] at this; cases this⟩ BA4.out
            | true =>
              refine start_ (n := 30) (S := fun w' => w'.cell? ⟨gb, 1, none⟩ = some (.slice A1 m1.length c1) ∧ w'.cell? ⟨gb, 2, none⟩ = some (.slice (some ad) m2.length c2) ∧ w'.cell? ⟨wr.heap.size, 0, none⟩ = some (.string x.f0) ∧ w'.cell? ⟨wr.heap.size, 1, none⟩ = some (.int .i64 x.f1) ∧ w'.cell? (ad.add (k * 2)) = some (.string y.f0)) (ds := []) #[false, false, false, false, false, false, false, false, false, false, false, false, false, false, false, false, false, false, false, false, false, false, false, false, false, false, false, false, false, false] (by kernel_rfl) rfl rfl ⟨(blk_cell (blk_drew BY.out) 1).trans rfl, (blk_cell (blk_drew BY.out) 2).trans rfl, (blk_cell (blk_drew LB.out) 0).trans rfl, (blk_cell (blk_drew LB.out) 1).trans rfl, (mb.cell56 (Kd.C_below G0.out (below_drew (Below.refl _ _))) HGK.out)⟩ (fun hHeld => ?_)
              generalize hwd : w2.drew = wd at hHeld ⊢
              have BAd := Aside0.mk (hwd ▸ below_drew BA.out)
              have LBd := Aside0.mk (hwd ▸ blk_drew LB.out)
              have BYd := Aside0.mk (hwd ▸ blk_drew BY.out)
              have Gd := Aside0.mk (hwd ▸ Kd.C_below G0.out (below_drew (Below.refl _ _)))
              clear hwd BA LB BY G0
              refine pure_ (i := 0) (N := some 66) (v := ?_) (a' := ?_) #[true, false, false, false, false, false, false, false, false, false, false, false, false, false, false, false, false, false, false, false, false, false, false, false, false, false, false, false, false, false] rfl rfl (by kernel_rfl) (fun _ _ _ h => h) (Or.inl ⟨by rfl, ?_⟩) ?_ ?_
              rotate_left
              · intro w'
                go_simp
                with_reducible rfl
              rotate_left
              · simp only [Act.put, List.setIfInBounds_toArray, List.set_cons_zero, List.set_cons_succ, i64_w, i32_w]
                rfl
              refine take_ (i := 1) (N := some 67) (v := ?_) (a' := ?_) #[true, true, false, false, false, false, false, false, false, false, false, false, false, false, false, false, false, false, false, false, false, false, false, false, false, false, false, false, false, false] rfl rfl (by kernel_rfl) (fun _ _ _ h => h) (Or.inl ⟨by rfl, ?_⟩) hHeld ?_ ?_
              rotate_left
              · rintro w' ⟨s0, s1, s2, s3, s4⟩
                go_simp
                with_reducible rfl
              rotate_left
              · simp only [Act.put, List.setIfInBounds_toArray, List.set_cons_zero, List.set_cons_succ, i64_w, i32_w]
                rfl
              refine one_ (i := 2) (N := some 68) #[true, true, true, false, false, false, false, false, false, false, false, false, false, false, false, false, false, false, false, false, false, false, false, false, false, false, false, false, false, false] rfl rfl (by kernel_rfl) (by decide) (fun K hK => ?_)
              refine goes_ Try.func9 (by kernel_rfl) rfl #[.string x.f0] (by rfl) rfl rfl (by (try simp only [List.map_toArray, List.map_cons, List.map_nil]); first | done | rfl) ?_
              refine (ISN.out wd).mono ?_
              rintro e w3 ⟨rfl, hb⟩
              refine ⟨_, rfl, ?_⟩
              have BA3 := Aside0.mk (below_then BAd.out BAd.out.size hb)
              have LB3 := Aside0.mk (blk_below LBd.out hb)
              have BY3 := Aside0.mk (blk_below BYd.out hb)
              have G3 := Aside0.mk (Kd.C_below Gd.out hb)
              clear hb
              refine hK.out _ _ ⟨(blk_cell BY3.out 1).trans rfl, (blk_cell BY3.out 2).trans rfl, (blk_cell LB3.out 0).trans rfl, (blk_cell LB3.out 1).trans rfl, (mb.cell56 G3.out HGK.out)⟩ (fun hHeld => ?_)
              clear hK K
              refine norm_ (a' := ?_) ?_ ?_
              rotate_left
              · show Act.put _ (some 68) _ = _
                simp only [Act.put, List.setIfInBounds_toArray, List.set_cons_zero, List.set_cons_succ, i64_w, i32_w]
                rfl
              refine pure_ (i := 3) (N := some 69) (v := ?_) (a' := ?_) #[true, true, true, true, false, false, false, false, false, false, false, false, false, false, false, false, false, false, false, false, false, false, false, false, false, false, false, false, false, false] rfl rfl (by kernel_rfl) (fun _ _ _ h => h) (Or.inl ⟨by rfl, ?_⟩) ?_ ?_
              rotate_left
              · intro w'
                go_simp
                with_reducible rfl
              rotate_left
              · simp only [Act.put, List.setIfInBounds_toArray, List.set_cons_zero, List.set_cons_succ, i64_w, i32_w]
                rfl
              refine pure_ (i := 4) (N := some 70) (v := ?_) (a' := ?_) #[true, true, true, true, true, false, false, false, false, false, false, false, false, false, false, false, false, false, false, false, false, false, false, false, false, false, false, false, false, false] rfl rfl (by kernel_rfl) (fun _ _ _ h => h) (Or.inl ⟨by rfl, ?_⟩) ?_ ?_
              rotate_left
              · intro w'
                go_simp
                with_reducible rfl
              rotate_left
              · simp only [Act.put, List.setIfInBounds_toArray, List.set_cons_zero, List.set_cons_succ, i64_w, i32_w]
                rfl
              refine pure_ (i := 5) (N := some 71) (v := ?_) (a' := ?_) #[true, true, true, true, true, true, false, false, false, false, false, false, false, false, false, false, false, false, false, false, false, false, false, false, false, false, false, false, false, false] rfl rfl (by kernel_rfl) (fun _ _ _ h => h) (Or.inl ⟨by rfl, ?_⟩) ?_ ?_
              rotate_left
              · intro w'
                go_simp
                with_reducible rfl
              rotate_left
              · simp only [Act.put, List.setIfInBounds_toArray, List.set_cons_zero, List.set_cons_succ, i64_w, i32_w]
                rfl
              refine pure_ (i := 7) (N := some 73) (v := ?_) (a' := ?_) #[true, true, true, true, true, true, false, true, false, false, false, false, false, false, false, false, false, false, false, false, false, false, false, false, false, false, false, false, false, false] rfl rfl (by kernel_rfl) (fun _ _ _ h => h) (Or.inl ⟨by rfl, ?_⟩) ?_ ?_
              rotate_left
              · intro w'
                go_simp
                with_reducible rfl
              rotate_left
              · simp only [Act.put, List.setIfInBounds_toArray, List.set_cons_zero, List.set_cons_succ, i64_w, i32_w]
                rfl
              refine take_ (i := 6) (N := some 72) (v := ?_) (a' := ?_) #[true, true, true, true, true, true, true, true, false, false, false, false, false, false, false, false, false, false, false, false, false, false, false, false, false, false, false, false, false, false] rfl rfl (by kernel_rfl) (fun _ _ _ h => h) (Or.inl ⟨by rfl, ?_⟩) hHeld ?_ ?_
              rotate_left
              · rintro w' ⟨s0, s1, s2, s3, s4⟩
                go_simp
                with_reducible rfl
              rotate_left
              · simp only [Act.put, List.setIfInBounds_toArray, List.set_cons_zero, List.set_cons_succ, i64_w, i32_w]
                rfl
              refine take_ (i := 8) (N := some 74) (v := ?_) (a' := ?_) #[true, true, true, true, true, true, true, true, true, false, false, false, false, false, false, false, false, false, false, false, false, false, false, false, false, false, false, false, false, false] rfl rfl (by kernel_rfl) (fun _ _ _ h => h) (Or.inl ⟨by rfl, ?_⟩) hHeld ?_ ?_
              rotate_left
              · rintro w' ⟨s0, s1, s2, s3, s4⟩
                go_simp
                with_reducible rfl
              rotate_left
              · simp only [Act.put, List.setIfInBounds_toArray, List.set_cons_zero, List.set_cons_succ, i64_w, i32_w]
                rfl
              refine pure_ (i := 9) (N := some 75) (v := ?_) (a' := ?_) #[true, true, true, true, true, true, true, true, true, true, false, false, false, false, false, false, false, false, false, false, false, false, false, false, false, false, false, false, false, false] rfl rfl (by kernel_rfl) (fun _ _ _ h => h) (Or.inl ⟨by rfl, ?_⟩) ?_ ?_
              rotate_left
              · intro w'
                go_simp
                with_reducible rfl
              rotate_left
              · simp only [Act.put, List.setIfInBounds_toArray, List.set_cons_zero, List.set_cons_succ, i64_w, i32_w]
                rfl
              refine pure_ (i := 10) (N := some 76) (v := ?_) (a' := ?_) #[true, true, true, true, true, true, true, true, true, true, true, false, false, false, false, false, false, false, false, false, false, false, false, false, false, false, false, false, false, false] rfl rfl (by kernel_rfl) (fun _ _ _ h => h) (Or.inl ⟨by rfl, ?_⟩) ?_ ?_
              rotate_left
              · intro w'
                go_simp
                with_reducible rfl
              rotate_left
              · simp only [Act.put, List.setIfInBounds_toArray, List.set_cons_zero, List.set_cons_succ, i64_w, i32_w]
                rfl
              refine one_ (i := 11) (N := some 77) #[true, true, true, true, true, true, true, true, true, true, true, true, false, false, false, false, false, false, false, false, false, false, false, false, false, false, false, false, false, false] rfl rfl (by kernel_rfl) (by decide) (fun K hK => ?_)
              refine goes_ Try.func48 (by kernel_rfl) rfl #[.int .i64 x.f1, .int .i64 0, .int .i64 ((m1.length : Int) - 1)] (by rfl) rfl rfl (by (try simp only [List.map_toArray, List.map_cons, List.map_nil]); first | done | rfl) ?_
              refine (WN.out w3).mono ?_
              rintro e w4 ⟨rfl, hb⟩
              refine ⟨_, rfl, ?_⟩
              have BA4 := Aside0.mk (below_then BA3.out BA3.out.size hb)
              have LB4 := Aside0.mk (blk_below LB3.out hb)
              have BY4 := Aside0.mk (blk_below BY3.out hb)
              have G4 := Aside0.mk (Kd.C_below G3.out hb)
              clear hb
              refine hK.out _ _ ⟨(blk_cell BY4.out 1).trans rfl, (blk_cell BY4.out 2).trans rfl, (blk_cell LB4.out 0).trans rfl, (blk_cell LB4.out 1).trans rfl, (mb.cell56 G4.out HGK.out)⟩ (fun hHeld => ?_)
              clear hK K
              refine norm_ (a' := ?_) ?_ ?_
              rotate_left
              · show Act.put _ (some 77) _ = _
                simp only [Act.put, List.setIfInBounds_toArray, List.set_cons_zero, List.set_cons_succ, i64_w, i32_w]
                rfl
              refine pure_ (i := 12) (N := some 78) (v := ?_) (a' := ?_) #[true, true, true, true, true, true, true, true, true, true, true, true, true, false, false, false, false, false, false, false, false, false, false, false, false, false, false, false, false, false] rfl rfl (by kernel_rfl) (fun _ _ _ h => h) (Or.inl ⟨by rfl, ?_⟩) ?_ ?_
              rotate_left
              · intro w'
                go_simp
                with_reducible rfl
              rotate_left
              · simp only [Act.put, List.setIfInBounds_toArray, List.set_cons_zero, List.set_cons_succ, i64_w, i32_w]
                rfl
              refine pure_ (i := 13) (N := some 79) (v := ?_) (a' := ?_) #[true, true, true, true, true, true, true, true, true, true, true, true, true, true, false, false, false, false, false, false, false, false, false, false, false, false, false, false, false, false] rfl rfl (by kernel_rfl) (fun _ _ _ h => h) (Or.inl ⟨by rfl, ?_⟩) ?_ ?_
              rotate_left
              · intro w'
                go_simp
                with_reducible rfl
              rotate_left
              · simp only [Act.put, List.setIfInBounds_toArray, List.set_cons_zero, List.set_cons_succ, i64_w, i32_w]
                rfl
              refine pure_ (i := 14) (N := some 80) (v := ?_) (a' := ?_) #[true, true, true, true, true, true, true, true, true, true, true, true, true, true, true, false, false, false, false, false, false, false, false, false, false, false, false, false, false, false] rfl rfl (by kernel_rfl) (fun _ _ _ h => h) (Or.inl ⟨by rfl, ?_⟩) ?_ ?_
              rotate_left
              · intro w'
                go_simp
                with_reducible rfl
              rotate_left
              · simp only [Act.put, List.setIfInBounds_toArray, List.set_cons_zero, List.set_cons_succ, i64_w, i32_w]
                rfl
              refine pure_ (i := 15) (N := some 81) (v := ?_) (a' := ?_) #[true, true, true, true, true, true, true, true, true, true, true, true, true, true, true, true, false, false, false, false, false, false, false, false, false, false, false, false, false, false] rfl rfl (by kernel_rfl) (fun _ _ _ h => h) (Or.inl ⟨by rfl, ?_⟩) ?_ ?_
              rotate_left
              · intro w'
                go_simp
                with_reducible rfl
              rotate_left
              · simp only [Act.put, List.setIfInBounds_toArray, List.set_cons_zero, List.set_cons_succ, i64_w, i32_w]
                rfl
              refine pure_ (i := 16) (N := some 82) (v := ?_) (a' := ?_) #[true, true, true, true, true, true, true, true, true, true, true, true, true, true, true, true, true, false, false, false, false, false, false, false, false, false, false, false, false, false] rfl rfl (by kernel_rfl) (fun _ _ _ h => h) (Or.inl ⟨by rfl, ?_⟩) ?_ ?_
              rotate_left
              · intro w'
                go_simp
                with_reducible rfl
              rotate_left
              · simp only [Act.put, List.setIfInBounds_toArray, List.set_cons_zero, List.set_cons_succ, i64_w, i32_w]
                rfl
              refine pure_ (i := 17) (N := some 83) (v := ?_) (a' := ?_) #[true, true, true, true, true, true, true, true, true, true, true, true, true, true, true, true, true, true, false, false, false, false, false, false, false, false, false, false, false, false] rfl rfl (by kernel_rfl) (fun _ _ _ h => h) (Or.inl ⟨by rfl, ?_⟩) ?_ ?_
              rotate_left
              · intro w'
                go_simp
                with_reducible rfl
              rotate_left
              · simp only [Act.put, List.setIfInBounds_toArray, List.set_cons_zero, List.set_cons_succ, i64_w, i32_w]
                rfl
              refine pure_ (i := 18) (N := some 84) (v := ?_) (a' := ?_) #[true, true, true, true, true, true, true, true, true, true, true, true, true, true, true, true, true, true, true, false, false, false, false, false, false, false, false, false, false, false] rfl rfl (by kernel_rfl) (fun _ _ _ h => h) (Or.inl ⟨by rfl, ?_⟩) ?_ ?_
              rotate_left
              · intro w'
                go_simp
                with_reducible rfl
              rotate_left
              · simp only [Act.put, List.setIfInBounds_toArray, List.set_cons_zero, List.set_cons_succ, i64_w, i32_w]
                rfl
              refine pure_ (i := 20) (N := some 86) (v := ?_) (a' := ?_) #[true, true, true, true, true, true, true, true, true, true, true, true, true, true, true, true, true, true, true, false, true, false, false, false, false, false, false, false, false, false] rfl rfl (by kernel_rfl) (fun _ _ _ h => h) (Or.inl ⟨by rfl, ?_⟩) ?_ ?_
              rotate_left
              · intro w'
                go_simp
                with_reducible rfl
              rotate_left
              · simp only [Act.put, List.setIfInBounds_toArray, List.set_cons_zero, List.set_cons_succ, i64_w, i32_w]
                rfl
              refine pure_ (i := 21) (N := some 87) (v := ?_) (a' := ?_) #[true, true, true, true, true, true, true, true, true, true, true, true, true, true, true, true, true, true, true, false, true, true, false, false, false, false, false, false, false, false] rfl rfl (by kernel_rfl) (fun _ _ _ h => h) (Or.inl ⟨by rfl, ?_⟩) ?_ ?_
              rotate_left
              · intro w'
                go_simp
                with_reducible rfl
              rotate_left
              · simp only [Act.put, List.setIfInBounds_toArray, List.set_cons_zero, List.set_cons_succ, i64_w, i32_w]
                rfl
              refine pure_ (i := 25) (N := some 91) (v := ?_) (a' := ?_) #[true, true, true, true, true, true, true, true, true, true, true, true, true, true, true, true, true, true, true, false, true, true, false, false, false, true, false, false, false, false] rfl rfl (by kernel_rfl) (fun _ _ _ h => h) (Or.inl ⟨by rfl, ?_⟩) ?_ ?_
              rotate_left
              · intro w'
                go_simp
                with_reducible rfl
              rotate_left
              · simp only [Act.put, List.setIfInBounds_toArray, List.set_cons_zero, List.set_cons_succ, i64_w, i32_w]
                rfl
              refine take_ (i := 19) (N := some 85) (v := ?_) (a' := ?_) #[true, true, true, true, true, true, true, true, true, true, true, true, true, true, true, true, true, true, true, true, true, true, false, false, false, true, false, false, false, false] rfl rfl (by kernel_rfl) (fun _ _ _ h => h) (Or.inl ⟨by rfl, ?_⟩) hHeld ?_ ?_
              rotate_left
              · rintro w' ⟨s0, s1, s2, s3, s4⟩
                go_simp
                with_reducible rfl
              rotate_left
              · simp only [Act.put, List.setIfInBounds_toArray, List.set_cons_zero, List.set_cons_succ, i64_w, i32_w]
                rfl
              refine pure_ (i := 22) (N := some 88) (v := ?_) (a' := ?_) #[true, true, true, true, true, true, true, true, true, true, true, true, true, true, true, true, true, true, true, true, true, true, true, false, false, true, false, false, false, false] rfl rfl (by kernel_rfl) (fun _ _ _ h => h) (Or.inl ⟨by rfl, ?_⟩) ?_ ?_
              rotate_left
              · intro w'
                go_simp
                with_reducible rfl
              rotate_left
              · simp only [Act.put, List.setIfInBounds_toArray, List.set_cons_zero, List.set_cons_succ, i64_w, i32_w]
                rfl
              refine pure_ (i := 23) (N := some 89) (v := ?_) (a' := ?_) #[true, true, true, true, true, true, true, true, true, true, true, true, true, true, true, true, true, true, true, true, true, true, true, true, false, true, false, false, false, false] rfl rfl (by kernel_rfl) (fun _ _ _ h => h) (Or.inl ⟨by rfl, ?_⟩) ?_ ?_
              rotate_left
              · intro w'
                go_simp
                with_reducible rfl
              rotate_left
              · simp only [Act.put, List.setIfInBounds_toArray, List.set_cons_zero, List.set_cons_succ, i64_w, i32_w]
                rfl
              refine take_ (i := 24) (N := some 90) (v := ?_) (a' := ?_) #[true, true, true, true, true, true, true, true, true, true, true, true, true, true, true, true, true, true, true, true, true, true, true, true, true, true, false, false, false, false] rfl rfl (by kernel_rfl) (fun _ _ _ h => h) (Or.inl ⟨by rfl, ?_⟩) hHeld ?_ ?_
              rotate_left
              · rintro w' ⟨s0, s1, s2, s3, s4⟩
                go_simp
                with_reducible rfl
              rotate_left
              · simp only [Act.put, List.setIfInBounds_toArray, List.set_cons_zero, List.set_cons_succ, i64_w, i32_w]
                rfl
              refine take_ (i := 26) (N := some 92) (v := ?_) (a' := ?_) #[true, true, true, true, true, true, true, true, true, true, true, true, true, true, true, true, true, true, true, true, true, true, true, true, true, true, true, false, false, false] rfl rfl (by kernel_rfl) (fun _ _ _ h => h) (Or.inl ⟨by rfl, ?_⟩) hHeld ?_ ?_
              rotate_left
              · rintro w' ⟨s0, s1, s2, s3, s4⟩
                go_simp
                with_reducible rfl
              rotate_left
              · simp only [Act.put, List.setIfInBounds_toArray, List.set_cons_zero, List.set_cons_succ, i64_w, i32_w]
                rfl
              refine pure_ (i := 27) (N := some 93) (v := ?_) (a' := ?_) #[true, true, true, true, true, true, true, true, true, true, true, true, true, true, true, true, true, true, true, true, true, true, true, true, true, true, true, true, false, false] rfl rfl (by kernel_rfl) (fun _ _ _ h => h) (Or.inl ⟨by rfl, ?_⟩) ?_ ?_
              rotate_left
              · intro w'
                go_simp
                with_reducible rfl
              rotate_left
              · simp only [Act.put, List.setIfInBounds_toArray, List.set_cons_zero, List.set_cons_succ, i64_w, i32_w]
                rfl
              refine pure_ (i := 28) (N := some 94) (v := ?_) (a' := ?_) #[true, true, true, true, true, true, true, true, true, true, true, true, true, true, true, true, true, true, true, true, true, true, true, true, true, true, true, true, true, false] rfl rfl (by kernel_rfl) (fun _ _ _ h => h) (Or.inl ⟨by rfl, ?_⟩) ?_ ?_
              rotate_left
              · intro w'
                go_simp
                with_reducible rfl
              rotate_left
              · simp only [Act.put, List.setIfInBounds_toArray, List.set_cons_zero, List.set_cons_succ, i64_w, i32_w]
                rfl
              refine pure_ (i := 29) (N := some 95) (v := ?_) (a' := ?_) #[true, true, true, true, true, true, true, true, true, true, true, true, true, true, true, true, true, true, true, true, true, true, true, true, true, true, true, true, true, true] rfl rfl (by kernel_rfl) (fun _ _ _ h => h) (Or.inl ⟨by rfl, ?_⟩) ?_ ?_
              rotate_left
              · intro w'
                go_simp
                with_reducible rfl
              rotate_left
              · simp only [Act.put, List.setIfInBounds_toArray, List.set_cons_zero, List.set_cons_succ, i64_w, i32_w]
                rfl
              refine done_ (by kernel_rfl) ?_
              go_wp2
              go_roundw
              case rel => exact ⟨k + 1 + 1, congrArg (Value.int IntKind.i64) HWR.out, ⟨by have := i4; omega, fun i hi y' hy' => by
                by_cases e : i < k + 1
                · exact HJ.out.2 i e y' hy'
                · obtain rfl : i = k + 1 := by omega
                  rw [HG.out] at hy'
                  cases hy'
                  exact ⟨p0, p1, fun _ z hz => by rw [show k + 1 - 1 = k from rfl, HGK.out] at hz; cases hz; exact p3⟩⟩, BY4, BA4⟩
              case measure => exact HM.out
        · have i1 : decide ((j : Int) < (m2.length : Int)) = false := decide_eq_false (by omega)
          have i2 : decide (j < m2.length) = false := decide_eq_false hlt
          have i3 : (j < m2.length) = False := eq_false hlt
          have HALL := Aside0.mk (show mb.FM m0 m1 m2 from ⟨HC0.out, HC1.out, HC2.out, HT0.out, HF1.out, fun i hi => HJ.out.2 i (by omega)⟩)
          clear hlt
          go_wp2
          go_ret
          exact mb.told true rfl ⟨fun _ => HALL.out, fun _ => rfl⟩ HO.out
end
end Go.Proofs.Ytmehfnikecmiiaa.X
/- XxmEncode: walks by hand, for the claim. -/
namespace Go.Proofs.Ytmehfnikecmiiaa.X
open Go.RowKit Go.Proofs.YtmehfnikecmiiaaW.PrintWords Go.Proofs.YtmehfnikecmiiaaW.PrintLast Go.Proofs.YtmehfnikecmiiaaW.PrintMore Go.Proofs.YtmehfnikecmiiaaW
section
set_option maxHeartbeats 4000000
set_option maxRecDepth 100000
open Go.Proofs.Ytmehfnikecmiiaa Go.Proofs.Ytmehfnikecmiiaa.Pl
section
variable {P : Program} {ops : Array Oper} {o : Oper} {a : Act} {Q : Exit → Act → World → Prop} {Kc : Act → World → Prop}
/-- One byte is appended to a slice that is full: nothing that stood is written. -/
theorem mb.step_full {W : World} (hw : Region.wanted o (yielded ops a.tmps) = true) (s x : Operand) (t e : TypeId) (ho : o.op = .call { callee := .builtin .append, args := #[s, x], argTypes := #[t, t] })
    (ht : P.underlying t = some (.slice e)) (hinfo : (P.info? e).map (fun i => (i.zero, i.size, i.bytes)) = some (some (.int .u8 0), 1, 1)) {A : Option Addr} {xs : List Int} {c : Nat} (p : Int)
    (hs : a.eval s = .slice A xs.length c) (hcc : c = xs.length) (hx : a.eval x = .slice (some ⟨W.heap.size, 0, none⟩) 1 1) (HA : (Kd.int .u8).C W A xs.length xs) (h0 : 0 < xs.length) (hl : xs.length + 1 ≤ 140737488355328)
    (h : ∀ v1 w1, (Kd.int .u8).R e w1 W.heap.size (fun _ => True) v1 (xs ++ [p]) → Below W.heap.size W w1 → Kc (a.put o.dst v1) w1) :
    if Region.wanted o (yielded ops a.tmps) = true then Oper.wp P o a (W.alloc (.cells [Value.int .u8 p].toArray e)) Kc Q else Kc (a.put o.dst undef) (W.alloc (.cells [Value.int .u8 p].toArray e)) := by
  subst hcc
  obtain ⟨i0, hi, hzz⟩ := Option.map_eq_some_iff.1 hinfo
  simp only [Prod.mk.injEq] at hzz
  obtain ⟨hz0, hz1, hz2⟩ := hzz
  have RA : ReadsOf (Value.int .u8) (0 : Int) (W.alloc (.cells [Value.int .u8 p].toArray e)) A xs.length xs := Kd.reads_of_C (enc := Value.int .u8) (d := (0 : Int)) (h1 := fun _ => rfl) (Kd.C_alloc HA _)
  have BE : Below W.heap.size W (W.alloc (.cells [Value.int .u8 p].toArray e)) := below_alloc (Below.refl _ _) _
  have hsz : W.heap.size ≤ (W.alloc (.cells [Value.int .u8 p].toArray e)).heap.size := BE.size
  have hnew : ∀ (j : Nat) (u : Value), [Value.int .u8 p][j]? = some u → (W.alloc (.cells [Value.int .u8 p].toArray e)).cell? ((⟨W.heap.size, 0, none⟩ : Addr).add j) = some u := fun j u hj => by
    rw [add_plain, blk_cell (blk_new W _) j]
    simpa using hj
  generalize W.alloc (.cells [Value.int .u8 p].toArray e) = W0 at *
  obtain ⟨b, rfl, hcell⟩ := RA.2.2 h0
  obtain ⟨v', w', hrun, r1, r2⟩ := run_append_arg_grows (P := P) W0 t o.type e i0 (.int .u8 0) 1 1 ht hi hz0 hz1 hz2 rfl (by decide) b xs.length xs.length (encs (Value.int .u8) xs) (by simp [encs]) (fun j u hu => by
    have hj : j < xs.length := by
      rcases Nat.lt_or_ge j xs.length with h | h
      · exact h
      · simp [encs, List.getElem?_eq_none h] at hu
    rw [encs_get (d := (0 : Int)) xs j hj] at hu
    rw [← hu]
    exact hcell j (by omega)) ⟨W.heap.size, 0, none⟩ 1 1 [Value.int .u8 p] rfl hnew (by omega) (by simp only [maxLen]; omega) (by omega)
  rw [if_pos hw]
  unfold Oper.wp
  simp [execOp, ho, resolve, invoke, builtin, hs, hx, hrun, Result.andThen]
  refine h v' w' (Kd.R_lower (Kd.R_of_own (enc := Value.int .u8) (h1 := fun _ => rfl) (by simpa [encs] using r1) (fun _ _ => trivial)) hsz) ?_
  exact Below.grown BE r2 hsz (fun k hk => by cases hk)
end
/-- A module's bytes. -/
def mb.enE (m0 : List S48) (m1 : List S52) (m2 : List S56) : List Int := [83, 67, 77, 49] ++ (([1] ++ txt (lst en m0)) ++ (([2] ++ txt (lst mb.e52 m1)) ++ ([3] ++ txt (lst mb.e56 m2))))
/-- A module that may be. -/
def mb.OK (m0 : List S48) (m1 : List S52) (m2 : List S56) : Prop := mb.FM m0 m1 m2 ∧ (mb.enE m0 m1 m2).length ≤ 65536
/-- What Encode tells. -/
def mb.EncTold (w w' : World) (m0 : List S48) (m1 : List S52) (m2 : List S56) (e : Ending) : Prop :=
  (¬ mb.OK m0 m1 m2 ∧ e = .returned (.tuple #[.slice none 0 0, .int .i64 90]) ∧ Below w.heap.size w w') ∨
  (mb.OK m0 m1 m2 ∧ ∃ v, e = .returned (.tuple #[v, .int .i64 0]) ∧ (Kd.int .u8).R 5 w' w.heap.size (fun _ => True) v (mb.enE m0 m1 m2) ∧ Below w.heap.size w w')
theorem mb.enc_bad {w w' : World} {m0 : List S48} {m1 : List S52} {m2 : List S56} {e : Ending} (h : ¬ mb.OK m0 m1 m2) (he : e = .returned (.tuple #[.slice none 0 0, .int .i64 90])) (hb : Below w.heap.size w w') : mb.EncTold w w' m0 m1 m2 e := Or.inl ⟨h, he, hb⟩
theorem mb.enc_ok {w w' : World} {m0 : List S48} {m1 : List S52} {m2 : List S56} {e : Ending} {v : Value} {d : List Int} (h : mb.OK m0 m1 m2) (he : e = .returned (.tuple #[v, .int .i64 0])) (hd : d = mb.enE m0 m1 m2) (hr : (Kd.int .u8).R 5 w' w.heap.size (fun _ => True) v d) (hb : Below w.heap.size w w') : mb.EncTold w w' m0 m1 m2 e := Or.inr ⟨h, v, he, hd ▸ hr, hb⟩
theorem mb.lst_le {α : Type} (c : α → List Int) (m n : Nat) (l : List α) (h : ∀ x ∈ l, (c x).length ≤ m) (hn : l.length ≤ n) : (lst c l).length ≤ 10 + m * n := by
  have h1 := mb.flat_le c m l h
  have h2 := putU_len (l.length : Int)
  have h3 : m * l.length ≤ m * n := Nat.mul_le_mul_left _ hn
  unfold X.lst
  rw [List.length_append]
  omega
/-- What is laid when so many sections have been. -/
def mb.DD (p0 p1 p2 : List Int) (j : Nat) : List Int := [83, 67, 77, 49] ++ (([[1] ++ txt p0, [2] ++ txt p1, [3] ++ txt p2].take j).flatten)
theorem mb.dd1 (p0 p1 p2 : List Int) : mb.DD p0 p1 p2 0 ++ [1] ++ putU (p0.length : Int) ++ p0 = mb.DD p0 p1 p2 1 := by simp [mb.DD, X.txt]
theorem mb.dd2 (p0 p1 p2 : List Int) : mb.DD p0 p1 p2 1 ++ [2] ++ putU (p1.length : Int) ++ p1 = mb.DD p0 p1 p2 2 := by simp [mb.DD, X.txt]
theorem mb.dd3 (p0 p1 p2 : List Int) : mb.DD p0 p1 p2 2 ++ [3] ++ putU (p2.length : Int) ++ p2 = mb.DD p0 p1 p2 3 := by simp [mb.DD, X.txt]
theorem mb.dd_len (p0 p1 p2 : List Int) (h0 : p0.length ≤ 3000000) (h1 : p1.length ≤ 3000000) (h2 : p2.length ≤ 3000000) (j : Nat) (hj : j ≤ 3) : (mb.DD p0 p1 p2 j).length ≤ 9000100 := by
  have n0 := putU_len (p0.length : Int)
  have n1 := putU_len (p1.length : Int)
  have n2 := putU_len (p2.length : Int)
  obtain rfl | rfl | rfl | rfl : j = 0 ∨ j = 1 ∨ j = 2 ∨ j = 3 := by omega
  all_goals (simp [mb.DD, X.txt]; try omega)
set_option maxHeartbeats 8000000 in
theorem mb.enc12 {m0 : List S48} {m1 : List S52} {m2 : List S56} {A0 : Option Addr} {c0 : Nat} {A1 : Option Addr} {c1 : Nat} {A2 : Option Addr} {c2 : Nat} (w : World) (h0 : k48.C w A0 m0.length m0) (l0 : m0.length ≤ c0) (h1 : k52.C w A1 m1.length m1) (l1 : m1.length ≤ c1) (h2 : k56.C w A2 m2.length m2) (l2 : m2.length ≤ c2) (hv : ∀ x ∈ m0, Val x) (hs2 : ∀ x ∈ m2, x.f0.size ≤ 140737488351232) :
    Calls Try.prog 12 #[.agg #[.slice A0 m0.length c0, .slice A1 m1.length c1, .slice A2 m2.length c2]] w fun e w' => mb.EncTold w w' m0 m1 m2 e := by
  have hu27 := Try.underlying27
  have hu29 := Try.underlying29
  have kc := fun (w : World) (C : Array Value) (n c : Nat) => Lib.run_convert_bytes_const (P := Try.prog) w 29 5 C n c Try.underlying29 Try.underlying5
  have HA0 := Aside0.mk h0; have HA1 := Aside0.mk h1; have HA2 := Aside0.mk h2; have HL0 := Aside0.mk l0; have HL1 := Aside0.mk l1; have HL2 := Aside0.mk l2
  have FMD := Aside0.mk (fun (W : World) (hb : Below w.heap.size w W) => mb.formed25 W (Kd.C_below h0 hb) l0 (Kd.C_below h1 hb) l1 (Kd.C_below h2 hb) l2 hv hs2)
  have HV := Aside0.mk hv
  have HS2 := Aside0.mk hs2
  clear h0 l0 h1 l1 h2 l2 hv hs2
  by_cases hF : mb.FM m0 m1 m2
  case neg =>
    have FC := Aside0.mk (fun (W : World) (hb : Below w.heap.size w W) => show Calls Try.prog 25 #[.agg #[.slice A0 m0.length c0, .slice A1 m1.length c1, .slice A2 m2.length c2]] W (fun e w' => e = .returned (.bool false) ∧ Below W.heap.size W w') from (FMD.out W hb).mono (fun e w' q => by
      obtain ⟨t, e1, ht, hb⟩ := q
      cases t with
      | false => exact ⟨e1, hb⟩
      | true => exact absurd (ht.1 rfl) hF))
    go_enter Try.func12, Try.ntmps12
    go_wp2_with (first | (((with_reducible refine gate_dst (N := 1) rfl ?_); refine box_event ?hg (N := 1) ?hd (cs := #[.slice A0 m0.length c0, .slice A1 m1.length c1, .slice A2 m2.length c2]) (t := 27) ?hr ?_; (case hd => rfl); (case hg => rfl); (case hr => first | (go_simp; done) | (go_simp; rfl)); intro gb hg w1 hbox hb1; have BX1 := Aside0.mk hbox; have B1 := Aside0.mk hb1; clear hbox hb1 hg); have z0 : w1.cell? ⟨gb, 0, none⟩ = some (.slice A0 m0.length c0) := (blk_cell BX1.out 0).trans rfl; have z1 : w1.cell? ⟨gb, 1, none⟩ = some (.slice A1 m1.length c1) := (blk_cell BX1.out 1).trans rfl; have z2 : w1.cell? ⟨gb, 2, none⟩ = some (.slice A2 m2.length c2) := (blk_cell BX1.out 2).trans rfl) | (go_at_call 25; refine (FC.out _ B1.out).mono ?_; rintro e_ w2 ⟨rfl, hb⟩; have B2 := Aside0.mk (below_step B1.out hb); clear hb z0 z1 z2))
    go_ret2
    exact mb.enc_bad (fun h => hF h.1) rfl B2.out
  have FC := Aside0.mk (fun (W : World) (hb : Below w.heap.size w W) => show Calls Try.prog 25 #[.agg #[.slice A0 m0.length c0, .slice A1 m1.length c1, .slice A2 m2.length c2]] W (fun e w' => e = .returned (.bool true) ∧ Below W.heap.size W w') from (FMD.out W hb).mono (fun e w' q => by
    obtain ⟨t, e1, ht, hb⟩ := q
    cases t with
    | true => exact ⟨e1, hb⟩
    | false => exact absurd (ht.2 hF) (by decide)))
  have HOK := Aside0.mk hF
  obtain ⟨p0, hp0⟩ : ∃ p, p = lst en m0 := ⟨_, rfl⟩
  obtain ⟨p1, hp1⟩ : ∃ p, p = lst mb.e52 m1 := ⟨_, rfl⟩
  obtain ⟨p2, hp2⟩ : ∃ p, p = lst mb.e56 m2 := ⟨_, rfl⟩
  have BD0 := Aside0.mk (fun (W : World) (hb : Below w.heap.size w W) => mb.body26 W (Kd.C_below HA0.out hb) HL0.out (Nat.le_trans hF.1 (by omega)) hF.2.2.2.1)
  have BD1 := Aside0.mk (fun (W : World) (hb : Below w.heap.size w W) => mb.body28 W (Kd.C_below HA1.out hb) HL1.out (Nat.le_trans hF.2.1 (by omega)) hF.all52)
  have BD2 := Aside0.mk (fun (W : World) (hb : Below w.heap.size w W) => mb.body30 W (Kd.C_below HA2.out hb) HL2.out (Nat.le_trans hF.2.2.1 (by omega)) (hF.all56 HS2.out))
  rw [← hp0] at BD0; rw [← hp1] at BD1; rw [← hp2] at BD2
  have N0 : p0.length ≤ 3000000 := by rw [hp0]; exact Nat.le_trans (mb.lst_le en 24576 100 m0 (fun x hx => mb.e48_len (hF.2.2.2.1 x hx)) hF.1) (by omega)
  have N1 : p1.length ≤ 3000000 := by rw [hp1]; exact Nat.le_trans (mb.lst_le mb.e52 5000 24 m1 (fun x hx => mb.e52_len (hF.all52 x hx)) hF.2.1) (by omega)
  have N2 : p2.length ≤ 3000000 := by rw [hp2]; exact Nat.le_trans (mb.lst_le mb.e56 100 24 m2 (fun x hx => mb.e56_len (hF.all56 HS2.out x hx)) hF.2.2.1) (by omega)
  have Y0 : Bytes p0 := by rw [hp0]; exact lst_bytes (fun x hx => en_bytes x (hF.2.2.2.1 x hx).1 (hF.2.2.2.1 x hx).2.1)
  have Y1 : Bytes p1 := by rw [hp1]; exact lst_bytes (fun x hx => enF_bytes _ (hF.all52 x hx).1.1 (hF.all52 x hx).2.1.1 (hF.all52 x hx).2.2.1.1)
  have Y2 : Bytes p2 := by rw [hp2]; exact lst_bytes (fun x hx => enX_bytes _ (hF.all56 HS2.out x hx).2.1)
  have DL := Aside0.mk (mb.dd_len p0 p1 p2 N0 N1 N2)
  have EE := Aside0.mk (show mb.DD p0 p1 p2 3 = mb.enE m0 m1 m2 by unfold mb.enE; rw [← hp0, ← hp1, ← hp2]; simp [mb.DD])
  have PT0 := Aside0.mk (fun (W : World) (B : Option Addr) (cb : Nat) (d : List Int) (hd : d = mb.DD p0 p1 p2 0 ++ [1]) (hC : (Kd.int .u8).C W B d.length d) (hc : d.length ≤ cb) => show Calls Try.prog 32 #[.slice B d.length cb, .string (strOfNums p0)] W (fun e w' => ∃ v, e = .returned v ∧ (Kd.int .u8).R 5 w' W.heap.size (fun _ => True) v (mb.DD p0 p1 p2 1) ∧ Below W.heap.size W w') from
    num_PutText.calls 10 B cb d (strOfNums p0) (mb.DD p0 p1 p2 1) W hC hc (by
      have hl := DL.out 0 (by omega)
      rw [PutText_eq 10 d _ (Nat.le_refl _) (by rw [str_size, hd, List.length_append, List.length_singleton]; omega), str_size, bytesOf_str _ Y0, hd, mb.dd1]))
  have PT1 := Aside0.mk (fun (W : World) (B : Option Addr) (cb : Nat) (d : List Int) (hd : d = mb.DD p0 p1 p2 1 ++ [2]) (hC : (Kd.int .u8).C W B d.length d) (hc : d.length ≤ cb) => show Calls Try.prog 32 #[.slice B d.length cb, .string (strOfNums p1)] W (fun e w' => ∃ v, e = .returned v ∧ (Kd.int .u8).R 5 w' W.heap.size (fun _ => True) v (mb.DD p0 p1 p2 2) ∧ Below W.heap.size W w') from
    num_PutText.calls 10 B cb d (strOfNums p1) (mb.DD p0 p1 p2 2) W hC hc (by
      have hl := DL.out 1 (by omega)
      rw [PutText_eq 10 d _ (Nat.le_refl _) (by rw [str_size, hd, List.length_append, List.length_singleton]; omega), str_size, bytesOf_str _ Y1, hd, mb.dd2]))
  have PT2 := Aside0.mk (fun (W : World) (B : Option Addr) (cb : Nat) (d : List Int) (hd : d = mb.DD p0 p1 p2 2 ++ [3]) (hC : (Kd.int .u8).C W B d.length d) (hc : d.length ≤ cb) => show Calls Try.prog 32 #[.slice B d.length cb, .string (strOfNums p2)] W (fun e w' => ∃ v, e = .returned v ∧ (Kd.int .u8).R 5 w' W.heap.size (fun _ => True) v (mb.DD p0 p1 p2 3) ∧ Below W.heap.size W w') from
    num_PutText.calls 10 B cb d (strOfNums p2) (mb.DD p0 p1 p2 3) W hC hc (by
      have hl := DL.out 2 (by omega)
      rw [PutText_eq 10 d _ (Nat.le_refl _) (by rw [str_size, hd, List.length_append, List.length_singleton]; omega), str_size, bytesOf_str _ Y2, hd, mb.dd3]))
  have hs0 : (mb.DD p0 p1 p2 0) = [83, 67, 77, 49] := by simp [mb.DD]
  clear hF hp0 hp1 hp2 N0 N1 N2 Y0 Y1 Y2 FMD HV HS2 HA0 HA1 HA2 HL0 HL1 HL2
  have HS0 := Aside0.mk hs0
  clear hs0
  go_enter Try.func12, Try.ntmps12
  go_wp2_with (first | (((with_reducible refine gate_dst (N := 1) rfl ?_); refine box_event ?hg (N := 1) ?hd (cs := #[.slice A0 m0.length c0, .slice A1 m1.length c1, .slice A2 m2.length c2]) (t := 27) ?hr ?_; (case hd => rfl); (case hg => rfl); (case hr => first | (go_simp; done) | (go_simp; rfl)); intro gb hg w1 hbox hb1; have BX1 := Aside0.mk hbox; have B1 := Aside0.mk hb1; clear hbox hb1 hg); have z0 : w1.cell? ⟨gb, 0, none⟩ = some (.slice A0 m0.length c0) := (blk_cell BX1.out 0).trans rfl; have z1 : w1.cell? ⟨gb, 1, none⟩ = some (.slice A1 m1.length c1) := (blk_cell BX1.out 1).trans rfl; have z2 : w1.cell? ⟨gb, 2, none⟩ = some (.slice A2 m2.length c2) := (blk_cell BX1.out 2).trans rfl) | (go_at_call 25; refine (FC.out _ B1.out).mono ?_; rintro e_ w2 ⟨rfl, hb⟩; have B2 := Aside0.mk (below_step B1.out hb); have BX2 := Aside0.mk (blk_below BX1.out hb); clear hb z0 z1 z2))
  have MG := Aside0.mk (show (Kd.int .u8).C (w2.alloc (.cells #[.int .u8 83, .int .u8 67, .int .u8 77, .int .u8 49] 5 (4, 5))) (some ⟨w2.heap.size, 0, none⟩) 4 [83, 67, 77, 49] from
    Kd.C_of_reads (enc := Value.int .u8) (d := (0 : Int)) (h1 := fun _ => rfl) ⟨rfl, by decide, fun _ => ⟨_, rfl, fun j hj => by
      have hj : j < 4 := hj
      rw [add_plain, cell_of_row _ w2.heap.size j _ 5 (4, 5) (heap_alloc_new w2 _)]
      obtain rfl | rfl | rfl | rfl : j = 0 ∨ j = 1 ∨ j = 2 ∨ j = 3 := by omega
      all_goals rfl⟩⟩)
  have B3 := Aside0.mk (B2.out.alloc B2.out.size (.cells #[.int .u8 83, .int .u8 67, .int .u8 77, .int .u8 49] 5 (4, 5)))
  have BX3 := Aside0.mk (blk_alloc BX2.out (.cells #[.int .u8 83, .int .u8 67, .int .u8 77, .int .u8 49] 5 (4, 5)))
  clear B2 BX2 B1 BX1 FC
  generalize w2.alloc (.cells #[.int .u8 83, .int .u8 67, .int .u8 77, .int .u8 49] 5 (4, 5)) = w3 at *
  generalize w2.heap.size = gm at *
  clear w2
  refine start_ (n := 12) (S := fun w' => w'.cell? ⟨gb, 0, none⟩ = some (.slice A0 m0.length c0) ∧ w'.cell? ⟨gb, 1, none⟩ = some (.slice A1 m1.length c1) ∧ w'.cell? ⟨gb, 2, none⟩ = some (.slice A2 m2.length c2)) (ds := []) #[false, false, false, false, false, false, false, false, false, false, false, false] (by kernel_rfl) rfl rfl ⟨(blk_cell (blk_drew BX3.out) 0).trans rfl, (blk_cell (blk_drew BX3.out) 1).trans rfl, (blk_cell (blk_drew BX3.out) 2).trans rfl⟩ (fun hHeld => ?_)
  generalize hwd : w3.drew = wd at hHeld ⊢
  have BAd := Aside0.mk (hwd ▸ below_drew B3.out)
  have BXd := Aside0.mk (hwd ▸ blk_drew BX3.out)
  have MGd := Aside0.mk (hwd ▸ Kd.C_drew MG.out)
  clear hwd B3 BX3 MG
  refine pure_ (i := 0) (N := some 12) (v := ?_) (a' := ?_) #[true, false, false, false, false, false, false, false, false, false, false, false] rfl rfl (by kernel_rfl) (fun _ _ _ h => h) (Or.inl ⟨by rfl, ?_⟩) ?_ ?_
  rotate_left
  · intro w'
    go_simp
    with_reducible rfl
  rotate_left
  · simp only [Act.put, List.setIfInBounds_toArray, List.set_cons_zero, List.set_cons_succ, i64_w, i32_w]
    rfl
  refine pure_ (i := 3) (N := some 15) (v := ?_) (a' := ?_) #[true, false, false, true, false, false, false, false, false, false, false, false] rfl rfl (by kernel_rfl) (fun _ _ _ h => h) (Or.inl ⟨by rfl, ?_⟩) ?_ ?_
  rotate_left
  · intro w'
    go_simp
    with_reducible rfl
  rotate_left
  · simp only [Act.put, List.setIfInBounds_toArray, List.set_cons_zero, List.set_cons_succ, i64_w, i32_w]
    rfl
  refine pure_ (i := 6) (N := some 18) (v := ?_) (a' := ?_) #[true, false, false, true, false, false, true, false, false, false, false, false] rfl rfl (by kernel_rfl) (fun _ _ _ h => h) (Or.inl ⟨by rfl, ?_⟩) ?_ ?_
  rotate_left
  · intro w'
    go_simp
    with_reducible rfl
  rotate_left
  · simp only [Act.put, List.setIfInBounds_toArray, List.set_cons_zero, List.set_cons_succ, i64_w, i32_w]
    rfl
  refine pure_ (i := 11) (N := some 23) (v := ?_) (a' := ?_) #[true, false, false, true, false, false, true, false, false, false, false, true] rfl rfl (by kernel_rfl) (fun _ _ _ h => h) (Or.inl ⟨by rfl, ?_⟩) ?_ ?_
  rotate_left
  · intro w'
    go_simp
    with_reducible rfl
  rotate_left
  · simp only [Act.put, List.setIfInBounds_toArray, List.set_cons_zero, List.set_cons_succ, i64_w, i32_w]
    rfl
  refine take_ (i := 1) (N := some 13) (v := ?_) (a' := ?_) #[true, true, false, true, false, false, true, false, false, false, false, true] rfl rfl (by kernel_rfl) (fun _ _ _ h => h) (Or.inl ⟨by rfl, ?_⟩) hHeld ?_ ?_
  rotate_left
  · rintro w' ⟨s0, s1, s2⟩
    go_simp
    with_reducible rfl
  rotate_left
  · simp only [Act.put, List.setIfInBounds_toArray, List.set_cons_zero, List.set_cons_succ, i64_w, i32_w]
    rfl
  refine take_ (i := 4) (N := some 16) (v := ?_) (a' := ?_) #[true, true, false, true, true, false, true, false, false, false, false, true] rfl rfl (by kernel_rfl) (fun _ _ _ h => h) (Or.inl ⟨by rfl, ?_⟩) hHeld ?_ ?_
  rotate_left
  · rintro w' ⟨s0, s1, s2⟩
    go_simp
    with_reducible rfl
  rotate_left
  · simp only [Act.put, List.setIfInBounds_toArray, List.set_cons_zero, List.set_cons_succ, i64_w, i32_w]
    rfl
  refine take_ (i := 7) (N := some 19) (v := ?_) (a' := ?_) #[true, true, false, true, true, false, true, true, false, false, false, true] rfl rfl (by kernel_rfl) (fun _ _ _ h => h) (Or.inl ⟨by rfl, ?_⟩) hHeld ?_ ?_
  rotate_left
  · rintro w' ⟨s0, s1, s2⟩
    go_simp
    with_reducible rfl
  rotate_left
  · simp only [Act.put, List.setIfInBounds_toArray, List.set_cons_zero, List.set_cons_succ, i64_w, i32_w]
    rfl
  refine one_ (i := 2) (N := some 14) #[true, true, true, true, true, false, true, true, false, false, false, true] rfl rfl (by kernel_rfl) (by decide) (fun K hK => ?_)
  refine goes_ Try.func26 (by kernel_rfl) rfl #[.slice A0 m0.length c0, .func (.func 27) #[] #[]] (by rfl) rfl rfl (by (try simp only [List.map_toArray, List.map_cons, List.map_nil]); first | done | rfl) ?_
  refine (BD0.out wd BAd.out).mono ?_
  rintro e w4 ⟨P0, q0, rfl, hr, hcc, hb⟩
  refine ⟨_, rfl, ?_⟩
  have BA4 := Aside0.mk (below_then BAd.out BAd.out.size hb)
  have BX4 := Aside0.mk (blk_below BXd.out hb)
  have MG4 := Aside0.mk (Kd.C_below MGd.out hb)
  have R04 := Aside0.mk hr
  have Q0 := Aside0.mk hcc
  clear hr hcc hb
  refine hK.out _ _ ⟨(blk_cell BX4.out 0).trans rfl, (blk_cell BX4.out 1).trans rfl, (blk_cell BX4.out 2).trans rfl⟩ (fun hHeld => ?_)
  clear hK K
  refine norm_ (a' := ?_) ?_ ?_
  rotate_left
  · show Act.put _ (some 14) _ = _
    simp only [Act.put, List.setIfInBounds_toArray, List.set_cons_zero, List.set_cons_succ, i64_w, i32_w]
    rfl
  refine one_ (i := 5) (N := some 17) #[true, true, true, true, true, true, true, true, false, false, false, true] rfl rfl (by kernel_rfl) (by decide) (fun K hK => ?_)
  refine goes_ Try.func28 (by kernel_rfl) rfl #[.slice A1 m1.length c1, .func (.func 29) #[] #[]] (by rfl) rfl rfl (by (try simp only [List.map_toArray, List.map_cons, List.map_nil]); first | done | rfl) ?_
  refine (BD1.out w4 BA4.out).mono ?_
  rintro e w5 ⟨P1, q1, rfl, hr, hcc, hb⟩
  refine ⟨_, rfl, ?_⟩
  have BA5 := Aside0.mk (below_then BA4.out BA4.out.size hb)
  have BX5 := Aside0.mk (blk_below BX4.out hb)
  have MG5 := Aside0.mk (Kd.C_below MG4.out hb)
  have R05 := Aside0.mk (Kd.C_below R04.out hb)
  have R15 := Aside0.mk hr
  have Q1 := Aside0.mk hcc
  clear hr hcc hb
  refine hK.out _ _ ⟨(blk_cell BX5.out 0).trans rfl, (blk_cell BX5.out 1).trans rfl, (blk_cell BX5.out 2).trans rfl⟩ (fun hHeld => ?_)
  clear hK K
  refine norm_ (a' := ?_) ?_ ?_
  rotate_left
  · show Act.put _ (some 17) _ = _
    simp only [Act.put, List.setIfInBounds_toArray, List.set_cons_zero, List.set_cons_succ, i64_w, i32_w]
    rfl
  refine one_ (i := 8) (N := some 20) #[true, true, true, true, true, true, true, true, true, false, false, true] rfl rfl (by kernel_rfl) (by decide) (fun K hK => ?_)
  refine goes_ Try.func30 (by kernel_rfl) rfl #[.slice A2 m2.length c2, .func (.func 31) #[] #[]] (by rfl) rfl rfl (by (try simp only [List.map_toArray, List.map_cons, List.map_nil]); first | done | rfl) ?_
  refine (BD2.out w5 BA5.out).mono ?_
  rintro e w6 ⟨P2, q2, rfl, hr, hcc, hb⟩
  refine ⟨_, rfl, ?_⟩
  have BA6 := Aside0.mk (below_then BA5.out BA5.out.size hb)
  have BX6 := Aside0.mk (blk_below BX5.out hb)
  have MG6 := Aside0.mk (Kd.C_below MG5.out hb)
  have R06 := Aside0.mk (Kd.C_below R05.out hb)
  have R16 := Aside0.mk (Kd.C_below R15.out hb)
  have R26 := Aside0.mk hr
  have Q2 := Aside0.mk hcc
  clear hr hcc hb
  refine hK.out _ _ ⟨(blk_cell BX6.out 0).trans rfl, (blk_cell BX6.out 1).trans rfl, (blk_cell BX6.out 2).trans rfl⟩ (fun hHeld => ?_)
  clear hK K
  refine norm_ (a' := ?_) ?_ ?_
  rotate_left
  · show Act.put _ (some 20) _ = _
    simp only [Act.put, List.setIfInBounds_toArray, List.set_cons_zero, List.set_cons_succ, i64_w, i32_w]
    rfl
  refine one_ (i := 9) (N := some 21) #[true, true, true, true, true, true, true, true, true, true, false, true] rfl rfl (by kernel_rfl) (by decide) (fun K hK => ?_)
  refine value_ (w1 := ?_) (v := ?_) (by rfl) rfl ?_ ?_
  rotate_left 2
  · go_simp
    constructor
    · rfl
    · rfl
  refine hK.out _ _ ⟨(blk_cell (blk_alloc BX6.out _) 0).trans rfl, (blk_cell (blk_alloc BX6.out _) 1).trans rfl, (blk_cell (blk_alloc BX6.out _) 2).trans rfl⟩ (fun hHeld => ?_)
  clear hK K
  refine norm_ (a' := ?_) ?_ ?_
  rotate_left
  · show Act.put _ (some 21) _ = _
    simp only [Act.put, List.setIfInBounds_toArray, List.set_cons_zero, List.set_cons_succ, i64_w, i32_w]
    rfl
  refine pure_ (i := 10) (N := some 22) (v := ?_) (a' := ?_) #[true, true, true, true, true, true, true, true, true, true, true, true] rfl rfl (by kernel_rfl) (fun _ _ _ h => h) (Or.inl ⟨by rfl, ?_⟩) ?_ ?_
  rotate_left
  · intro w'
    go_simp
    with_reducible rfl
  rotate_left
  · simp only [Act.put, List.setIfInBounds_toArray, List.set_cons_zero, List.set_cons_succ, i64_w, i32_w]
    rfl
  refine done_ (by kernel_rfl) ?_
  go_wp2
  have BS := Aside0.mk (blk_new w6 (.cells #[.slice P0 p0.length q0, .slice P1 p1.length q1, .slice P2 p2.length q2] 29))
  have B7 := Aside0.mk (BA6.out.alloc BA6.out.size (.cells #[.slice P0 p0.length q0, .slice P1 p1.length q1, .slice P2 p2.length q2] 29))
  have T0 := Aside0.mk (Kd.C_alloc R06.out (.cells #[.slice P0 p0.length q0, .slice P1 p1.length q1, .slice P2 p2.length q2] 29))
  have T1 := Aside0.mk (Kd.C_alloc R16.out (.cells #[.slice P0 p0.length q0, .slice P1 p1.length q1, .slice P2 p2.length q2] 29))
  have T2 := Aside0.mk (Kd.C_alloc R26.out (.cells #[.slice P0 p0.length q0, .slice P1 p1.length q1, .slice P2 p2.length q2] 29))
  have M7 := Aside0.mk (Kd.C_alloc MG6.out (.cells #[.slice P0 p0.length q0, .slice P1 p1.length q1, .slice P2 p2.length q2] 29))
  clear BA6 R06 R16 R26 MG6
  generalize w6.alloc (.cells #[.slice P0 p0.length q0, .slice P1 p1.length q1, .slice P2 p2.length q2] 29) = wb at *
  generalize w6.heap.size = gs at *
  go_loopw [23, 4] (fun v23 v4 wr => ∃ (j : Nat) (d : List Int) (B : Option Addr) (cb : Nat), v23 = .int .i64 (j : Int) ∧ v4 = .slice B d.length cb ∧ Aside0 (j ≤ 3 ∧ d = mb.DD p0 p1 p2 j) ∧ Aside0 (j = 0 ∧ cb = d.length ∧ (Kd.int .u8).C wr B d.length d ∨ 0 < j ∧ (Kd.int .u8).R 5 wr wb.heap.size (fun _ => True) (.slice B d.length cb) d) ∧ Aside0 (Below wb.heap.size wb wr)) (fun v23 _ _ => 3 - (intOf v23).toNat)
  case atStart => exact ⟨0, [83, 67, 77, 49], some ⟨gm, 0, none⟩, 4, rfl, rfl, ⟨Nat.zero_le _, HS0.out.symm⟩, ⟨Or.inl ⟨rfl, rfl, M7.out⟩⟩, ⟨Below.refl _ _⟩⟩
  case round =>
    obtain ⟨j, d, B, cb, rfl, rfl, HJ, HO, HB⟩ := hrel
    have z0 : wr.cell? ⟨gs, 0, none⟩ = some (.slice P0 p0.length q0) := (blk_cell (blk_below BS.out HB.out) 0).trans rfl
    have z1 : wr.cell? ⟨gs, 1, none⟩ = some (.slice P1 p1.length q1) := (blk_cell (blk_below BS.out HB.out) 1).trans rfl
    have z2 : wr.cell? ⟨gs, 2, none⟩ = some (.slice P2 p2.length q2) := (blk_cell (blk_below BS.out HB.out) 2).trans rfl
    by_cases hlt : j < 3
    · have HD := Aside0.mk (show d.length ≤ 9000100 by rw [HJ.out.2]; exact DL.out j HJ.out.1)
      obtain rfl | rfl | rfl : j = 0 ∨ j = 1 ∨ j = 2 := by omega
      · have HO2 := Aside0.mk (show cb = d.length ∧ (Kd.int .u8).C wr B d.length d by
          have ho : cb = d.length ∧ (Kd.int .u8).C wr B d.length d := by
            rcases HO.out with h | h
            · exact h.2
            · omega
          exact ho)
        clear HO hlt
        go_wp2
        clear z0 z1 z2
        refine start_ (n := 10) (S := fun w' => (convert 29 9 (.slice P0 p0.length q0)).run Try.prog w' = .ok (.string (strOfNums p0)) w') (ds := []) #[false, false, false, false, false, false, false, false, false, false] (by kernel_rfl) rfl rfl ((Kd.C_string (P := Try.prog) Try.underlying29 Try.underlying5 Try.underlying9 (Kd.C_below T0.out (below_drew HB.out)))) (fun hHeld => ?_)
        generalize hwd : wr.drew = wd at hHeld ⊢
        have Bd := Aside0.mk (hwd ▸ below_drew HB.out)
        have Od := Aside0.mk (show cb = d.length ∧ (Kd.int .u8).C wd B d.length d from ⟨HO2.out.1, hwd ▸ Kd.C_drew HO2.out.2⟩)
        clear hwd HO2 HB
        refine pure_ (i := 0) (N := some 28) (v := ?_) (a' := ?_) #[true, false, false, false, false, false, false, false, false, false] rfl rfl (by kernel_rfl) (fun _ _ _ h => h) (Or.inl ⟨by rfl, ?_⟩) ?_ ?_
        rotate_left
        · intro w'
          go_simp
          with_reducible rfl
        rotate_left
        · simp only [Act.put, List.setIfInBounds_toArray, List.set_cons_zero, List.set_cons_succ, i64_w, i32_w]
          rfl
        refine pure_ (i := 1) (N := some 29) (v := ?_) (a' := ?_) #[true, true, false, false, false, false, false, false, false, false] rfl rfl (by kernel_rfl) (fun _ _ _ h => h) (Or.inl ⟨by rfl, ?_⟩) ?_ ?_
        rotate_left
        · intro w'
          go_simp
          with_reducible rfl
        rotate_left
        · simp only [Act.put, List.setIfInBounds_toArray, List.set_cons_zero, List.set_cons_succ, i64_w, i32_w]
          rfl
        refine pure_ (i := 2) (N := some 30) (v := ?_) (a' := ?_) #[true, true, true, false, false, false, false, false, false, false] rfl rfl (by kernel_rfl) (fun _ _ _ h => h) (Or.inl ⟨by rfl, ?_⟩) ?_ ?_
        rotate_left
        · intro w'
          go_simp
          with_reducible rfl
        rotate_left
        · simp only [Act.put, List.setIfInBounds_toArray, List.set_cons_zero, List.set_cons_succ, i64_w, i32_w]
          rfl
        refine pure_ (i := 3) (N := some 31) (v := ?_) (a' := ?_) #[true, true, true, true, false, false, false, false, false, false] rfl rfl (by kernel_rfl) (fun _ _ _ h => h) (Or.inl ⟨by rfl, ?_⟩) ?_ ?_
        rotate_left
        · intro w'
          go_simp
          with_reducible rfl
        rotate_left
        · simp only [Act.put, List.setIfInBounds_toArray, List.set_cons_zero, List.set_cons_succ, i64_w, i32_w]
          rfl
        refine pure_ (i := 6) (N := some 34) (v := ?_) (a' := ?_) #[true, true, true, true, false, false, true, false, false, false] rfl rfl (by kernel_rfl) (fun _ _ _ h => h) (Or.inl ⟨by rfl, ?_⟩) ?_ ?_
        rotate_left
        · intro w'
          go_simp
          with_reducible rfl
        rotate_left
        · simp only [Act.put, List.setIfInBounds_toArray, List.set_cons_zero, List.set_cons_succ, i64_w, i32_w]
          rfl
        refine take_ (i := 7) (N := some 35) (v := ?_) (a' := ?_) #[true, true, true, true, false, false, true, true, false, false] rfl rfl (by kernel_rfl) (fun _ _ _ h => h) (Or.inl ⟨by rfl, ?_⟩) hHeld ?_ ?_
        rotate_left
        · intro w' s0
          go_simp
          with_reducible rfl
        rotate_left
        · simp only [Act.put, List.setIfInBounds_toArray, List.set_cons_zero, List.set_cons_succ, i64_w, i32_w]
          rfl
        refine one_ (i := 4) (N := some 32) #[true, true, true, true, true, false, true, true, false, false] rfl rfl (by kernel_rfl) (by decide) (fun K hK => ?_)
        refine value_ (w1 := ?_) (v := ?_) (by rfl) rfl ?_ ?_
        rotate_left 2
        · go_simp
          constructor
          · rfl
          · rfl
        refine hK.out _ _ ((Kd.C_string (P := Try.prog) Try.underlying29 Try.underlying5 Try.underlying9 (Kd.C_alloc (Kd.C_below T0.out Bd.out) _))) (fun hHeld => ?_)
        clear hK K
        refine norm_ (a' := ?_) ?_ ?_
        rotate_left
        · show Act.put _ (some 32) _ = _
          simp only [Act.put, List.setIfInBounds_toArray, List.set_cons_zero, List.set_cons_succ, i64_w, i32_w]
          rfl
        refine one_ (i := 5) (N := some 33) #[true, true, true, true, true, true, true, true, false, false] rfl rfl (by kernel_rfl) (by decide) (fun K hK => ?_)
        refine mb.step_full (by rfl) (.tmp 28) (.tmp 32) 29 5 rfl Try.underlying29 info5 _ rfl Od.out.1 rfl Od.out.2 ?aN ?aL ?_
        (case aN => rw [HJ.out.2, HS0.out]; decide)
        (case aL => have := HD.out; omega)
        intro v1 w5 hr hb
        rw [show IntKind.u8.wrap (wrap64 1) = 1 from by decide +kernel] at hr
        have hr := Kd.R_lower hr Bd.out.size
        have B5 := Aside0.mk (below_then Bd.out Bd.out.size hb)
        obtain ⟨A5, c5, e5⟩ := Kd.R_slice hr
        subst e5
        have O5 := Aside0.mk hr
        clear hr hb
        refine hK.out _ _ ((Kd.C_string (P := Try.prog) Try.underlying29 Try.underlying5 Try.underlying9 (Kd.C_below T0.out B5.out))) (fun hHeld => ?_)
        clear hK K
        refine norm_ (a' := ?_) ?_ ?_
        rotate_left
        · show Act.put _ (some 33) _ = _
          simp only [Act.put, List.setIfInBounds_toArray, List.set_cons_zero, List.set_cons_succ, i64_w, i32_w]
          rfl
        refine one_ (i := 8) (N := some 36) #[true, true, true, true, true, true, true, true, true, false] rfl rfl (by kernel_rfl) (by decide) (fun K hK => ?_)
        refine goes_ Try.func32 (by kernel_rfl) rfl #[.slice A5 (d ++ [1]).length c5, .string (strOfNums p0)] (by rfl) rfl rfl (by (try simp only [List.map_toArray, List.map_cons, List.map_nil]); first | done | rfl) ?_
        refine (PT0.out w5 A5 c5 (d ++ [1]) (by rw [HJ.out.2]) (Kd.R_reads' O5.out).2.2 (Kd.R_reads' O5.out).2.1).mono ?_
        rintro e w9 ⟨v9, rfl, hr, hb⟩
        refine ⟨_, rfl, ?_⟩
        obtain ⟨A9, c9, e9⟩ := Kd.R_slice hr
        subst e9
        have B9 := Aside0.mk (below_then B5.out B5.out.size hb)
        have O9 := Aside0.mk (Kd.R_lower hr B5.out.size)
        clear hr hb
        refine hK.out _ _ ((Kd.C_string (P := Try.prog) Try.underlying29 Try.underlying5 Try.underlying9 (Kd.C_below T0.out B9.out))) (fun hHeld => ?_)
        clear hK K
        refine norm_ (a' := ?_) ?_ ?_
        rotate_left
        · show Act.put _ (some 36) _ = _
          simp only [Act.put, List.setIfInBounds_toArray, List.set_cons_zero, List.set_cons_succ, i64_w, i32_w]
          rfl
        refine pure_ (i := 9) (N := some 4) (v := ?_) (a' := ?_) #[true, true, true, true, true, true, true, true, true, true] rfl rfl (by kernel_rfl) (fun _ _ _ h => h) (Or.inl ⟨by rfl, ?_⟩) ?_ ?_
        rotate_left
        · intro w'
          go_simp
          with_reducible rfl
        rotate_left
        · simp only [Act.put, List.setIfInBounds_toArray, List.set_cons_zero, List.set_cons_succ, i64_w, i32_w]
          rfl
        refine done_ (by kernel_rfl) ?_
        go_wp2
        go_roundw
        case rel => exact ⟨1, mb.DD p0 p1 p2 1, A9, c9, rfl, rfl, ⟨by decide, rfl⟩, ⟨Or.inr ⟨by decide, O9.out⟩⟩, B9⟩
        case measure => decide
      · have HO2 := Aside0.mk (show (Kd.int .u8).R 5 wr wb.heap.size (fun _ => True) (.slice B d.length cb) d by
          have ho : (Kd.int .u8).R 5 wr wb.heap.size (fun _ => True) (.slice B d.length cb) d := by
            rcases HO.out with h | h
            · omega
            · exact h.2
          exact ho)
        clear HO hlt
        go_wp2
        clear z0 z1 z2
        refine start_ (n := 10) (S := fun w' => (convert 29 9 (.slice P1 p1.length q1)).run Try.prog w' = .ok (.string (strOfNums p1)) w') (ds := []) #[false, false, false, false, false, false, false, false, false, false] (by kernel_rfl) rfl rfl ((Kd.C_string (P := Try.prog) Try.underlying29 Try.underlying5 Try.underlying9 (Kd.C_below T1.out (below_drew HB.out)))) (fun hHeld => ?_)
        generalize hwd : wr.drew = wd at hHeld ⊢
        have Bd := Aside0.mk (hwd ▸ below_drew HB.out)
        have Od := Aside0.mk (show (Kd.int .u8).R 5 wd wb.heap.size (fun _ => True) (.slice B d.length cb) d from hwd ▸ Kd.R_drew HO2.out)
        clear hwd HO2 HB
        refine pure_ (i := 0) (N := some 28) (v := ?_) (a' := ?_) #[true, false, false, false, false, false, false, false, false, false] rfl rfl (by kernel_rfl) (fun _ _ _ h => h) (Or.inl ⟨by rfl, ?_⟩) ?_ ?_
        rotate_left
        · intro w'
          go_simp
          with_reducible rfl
        rotate_left
        · simp only [Act.put, List.setIfInBounds_toArray, List.set_cons_zero, List.set_cons_succ, i64_w, i32_w]
          rfl
        refine pure_ (i := 1) (N := some 29) (v := ?_) (a' := ?_) #[true, true, false, false, false, false, false, false, false, false] rfl rfl (by kernel_rfl) (fun _ _ _ h => h) (Or.inl ⟨by rfl, ?_⟩) ?_ ?_
        rotate_left
        · intro w'
          go_simp
          with_reducible rfl
        rotate_left
        · simp only [Act.put, List.setIfInBounds_toArray, List.set_cons_zero, List.set_cons_succ, i64_w, i32_w]
          rfl
        refine pure_ (i := 2) (N := some 30) (v := ?_) (a' := ?_) #[true, true, true, false, false, false, false, false, false, false] rfl rfl (by kernel_rfl) (fun _ _ _ h => h) (Or.inl ⟨by rfl, ?_⟩) ?_ ?_
        rotate_left
        · intro w'
          go_simp
          with_reducible rfl
        rotate_left
        · simp only [Act.put, List.setIfInBounds_toArray, List.set_cons_zero, List.set_cons_succ, i64_w, i32_w]
          rfl
        refine pure_ (i := 3) (N := some 31) (v := ?_) (a' := ?_) #[true, true, true, true, false, false, false, false, false, false] rfl rfl (by kernel_rfl) (fun _ _ _ h => h) (Or.inl ⟨by rfl, ?_⟩) ?_ ?_
        rotate_left
        · intro w'
          go_simp
          with_reducible rfl
        rotate_left
        · simp only [Act.put, List.setIfInBounds_toArray, List.set_cons_zero, List.set_cons_succ, i64_w, i32_w]
          rfl
        refine pure_ (i := 6) (N := some 34) (v := ?_) (a' := ?_) #[true, true, true, true, false, false, true, false, false, false] rfl rfl (by kernel_rfl) (fun _ _ _ h => h) (Or.inl ⟨by rfl, ?_⟩) ?_ ?_
        rotate_left
        · intro w'
          go_simp
          with_reducible rfl
        rotate_left
        · simp only [Act.put, List.setIfInBounds_toArray, List.set_cons_zero, List.set_cons_succ, i64_w, i32_w]
          rfl
        refine take_ (i := 7) (N := some 35) (v := ?_) (a' := ?_) #[true, true, true, true, false, false, true, true, false, false] rfl rfl (by kernel_rfl) (fun _ _ _ h => h) (Or.inl ⟨by rfl, ?_⟩) hHeld ?_ ?_
        rotate_left
        · intro w' s0
          go_simp
          with_reducible rfl
        rotate_left
        · simp only [Act.put, List.setIfInBounds_toArray, List.set_cons_zero, List.set_cons_succ, i64_w, i32_w]
          rfl
        refine one_ (i := 4) (N := some 32) #[true, true, true, true, true, false, true, true, false, false] rfl rfl (by kernel_rfl) (by decide) (fun K hK => ?_)
        refine value_ (w1 := ?_) (v := ?_) (by rfl) rfl ?_ ?_
        rotate_left 2
        · go_simp
          constructor
          · rfl
          · rfl
        refine hK.out _ _ ((Kd.C_string (P := Try.prog) Try.underlying29 Try.underlying5 Try.underlying9 (Kd.C_alloc (Kd.C_below T1.out Bd.out) _))) (fun hHeld => ?_)
        clear hK K
        refine norm_ (a' := ?_) ?_ ?_
        rotate_left
        · show Act.put _ (some 32) _ = _
          simp only [Act.put, List.setIfInBounds_toArray, List.set_cons_zero, List.set_cons_succ, i64_w, i32_w]
          rfl
        refine one_ (i := 5) (N := some 33) #[true, true, true, true, true, true, true, true, false, false] rfl rfl (by kernel_rfl) (by decide) (fun K hK => ?_)
        refine Kd.R_append_step (Kd.int .u8) (w0 := wb) wb.heap.size (by rfl) (.tmp 28) (.tmp 32) 29 5 (.int .u8 0) 1 rfl Try.underlying29 info5 rfl (by decide) (by omega) (.slice B d.length cb) d _ [.int .u8 _] (fun _ => True) (fun _ => False) rfl rfl rfl (fun _ h => h.elim) ?aF1 ?aO1 ?aB1 ?aS1 ?aL1 ?_
        (case aF1 => exact fun _ _ => trivial)
        (case aO1 => exact Od.out)
        (case aB1 => exact Bd.out)
        (case aS1 => exact Bd.out.size)
        (case aL1 => have := HD.out; omega)
        intro v1 w5 hr hb hg hat
        rw [show IntKind.u8.wrap (wrap64 2) = 2 from by decide +kernel] at hr
        obtain ⟨A5, c5, e5⟩ := Kd.R_slice hr
        subst e5
        have O5 := Aside0.mk hr
        have B5 := Aside0.mk hb
        clear hr hb hg hat
        refine hK.out _ _ ((Kd.C_string (P := Try.prog) Try.underlying29 Try.underlying5 Try.underlying9 (Kd.C_below T1.out B5.out))) (fun hHeld => ?_)
        clear hK K
        refine norm_ (a' := ?_) ?_ ?_
        rotate_left
        · show Act.put _ (some 33) _ = _
          simp only [Act.put, List.setIfInBounds_toArray, List.set_cons_zero, List.set_cons_succ, i64_w, i32_w]
          rfl
        refine one_ (i := 8) (N := some 36) #[true, true, true, true, true, true, true, true, true, false] rfl rfl (by kernel_rfl) (by decide) (fun K hK => ?_)
        refine goes_ Try.func32 (by kernel_rfl) rfl #[.slice A5 (d ++ [2]).length c5, .string (strOfNums p1)] (by rfl) rfl rfl (by (try simp only [List.map_toArray, List.map_cons, List.map_nil]); first | done | rfl) ?_
        refine (PT1.out w5 A5 c5 (d ++ [2]) (by rw [HJ.out.2]) (Kd.R_reads' O5.out).2.2 (Kd.R_reads' O5.out).2.1).mono ?_
        rintro e w9 ⟨v9, rfl, hr, hb⟩
        refine ⟨_, rfl, ?_⟩
        obtain ⟨A9, c9, e9⟩ := Kd.R_slice hr
        subst e9
        have B9 := Aside0.mk (below_then B5.out B5.out.size hb)
        have O9 := Aside0.mk (Kd.R_lower hr B5.out.size)
        clear hr hb
        refine hK.out _ _ ((Kd.C_string (P := Try.prog) Try.underlying29 Try.underlying5 Try.underlying9 (Kd.C_below T1.out B9.out))) (fun hHeld => ?_)
        clear hK K
        refine norm_ (a' := ?_) ?_ ?_
        rotate_left
        · show Act.put _ (some 36) _ = _
          simp only [Act.put, List.setIfInBounds_toArray, List.set_cons_zero, List.set_cons_succ, i64_w, i32_w]
          rfl
        refine pure_ (i := 9) (N := some 4) (v := ?_) (a' := ?_) #[true, true, true, true, true, true, true, true, true, true] rfl rfl (by kernel_rfl) (fun _ _ _ h => h) (Or.inl ⟨by rfl, ?_⟩) ?_ ?_
        rotate_left
        · intro w'
          go_simp
          with_reducible rfl
        rotate_left
        · simp only [Act.put, List.setIfInBounds_toArray, List.set_cons_zero, List.set_cons_succ, i64_w, i32_w]
          rfl
        refine done_ (by kernel_rfl) ?_
        go_wp2
        go_roundw
        case rel => exact ⟨2, mb.DD p0 p1 p2 2, A9, c9, rfl, rfl, ⟨by decide, rfl⟩, ⟨Or.inr ⟨by decide, O9.out⟩⟩, B9⟩
        case measure => decide
      · have HO2 := Aside0.mk (show (Kd.int .u8).R 5 wr wb.heap.size (fun _ => True) (.slice B d.length cb) d by
          have ho : (Kd.int .u8).R 5 wr wb.heap.size (fun _ => True) (.slice B d.length cb) d := by
            rcases HO.out with h | h
            · omega
            · exact h.2
          exact ho)
        clear HO hlt
        go_wp2
        clear z0 z1 z2
        refine start_ (n := 10) (S := fun w' => (convert 29 9 (.slice P2 p2.length q2)).run Try.prog w' = .ok (.string (strOfNums p2)) w') (ds := []) #[false, false, false, false, false, false, false, false, false, false] (by kernel_rfl) rfl rfl ((Kd.C_string (P := Try.prog) Try.underlying29 Try.underlying5 Try.underlying9 (Kd.C_below T2.out (below_drew HB.out)))) (fun hHeld => ?_)
        generalize hwd : wr.drew = wd at hHeld ⊢
        have Bd := Aside0.mk (hwd ▸ below_drew HB.out)
        have Od := Aside0.mk (show (Kd.int .u8).R 5 wd wb.heap.size (fun _ => True) (.slice B d.length cb) d from hwd ▸ Kd.R_drew HO2.out)
        clear hwd HO2 HB
        refine pure_ (i := 0) (N := some 28) (v := ?_) (a' := ?_) #[true, false, false, false, false, false, false, false, false, false] rfl rfl (by kernel_rfl) (fun _ _ _ h => h) (Or.inl ⟨by rfl, ?_⟩) ?_ ?_
        rotate_left
        · intro w'
          go_simp
          with_reducible rfl
        rotate_left
        · simp only [Act.put, List.setIfInBounds_toArray, List.set_cons_zero, List.set_cons_succ, i64_w, i32_w]
          rfl
        refine pure_ (i := 1) (N := some 29) (v := ?_) (a' := ?_) #[true, true, false, false, false, false, false, false, false, false] rfl rfl (by kernel_rfl) (fun _ _ _ h => h) (Or.inl ⟨by rfl, ?_⟩) ?_ ?_
        rotate_left
        · intro w'
          go_simp
          with_reducible rfl
        rotate_left
        · simp only [Act.put, List.setIfInBounds_toArray, List.set_cons_zero, List.set_cons_succ, i64_w, i32_w]
          rfl
        refine pure_ (i := 2) (N := some 30) (v := ?_) (a' := ?_) #[true, true, true, false, false, false, false, false, false, false] rfl rfl (by kernel_rfl) (fun _ _ _ h => h) (Or.inl ⟨by rfl, ?_⟩) ?_ ?_
        rotate_left
        · intro w'
          go_simp
          with_reducible rfl
        rotate_left
        · simp only [Act.put, List.setIfInBounds_toArray, List.set_cons_zero, List.set_cons_succ, i64_w, i32_w]
          rfl
        refine pure_ (i := 3) (N := some 31) (v := ?_) (a' := ?_) #[true, true, true, true, false, false, false, false, false, false] rfl rfl (by kernel_rfl) (fun _ _ _ h => h) (Or.inl ⟨by rfl, ?_⟩) ?_ ?_
        rotate_left
        · intro w'
          go_simp
          with_reducible rfl
        rotate_left
        · simp only [Act.put, List.setIfInBounds_toArray, List.set_cons_zero, List.set_cons_succ, i64_w, i32_w]
          rfl
        refine pure_ (i := 6) (N := some 34) (v := ?_) (a' := ?_) #[true, true, true, true, false, false, true, false, false, false] rfl rfl (by kernel_rfl) (fun _ _ _ h => h) (Or.inl ⟨by rfl, ?_⟩) ?_ ?_
        rotate_left
        · intro w'
          go_simp
          with_reducible rfl
        rotate_left
        · simp only [Act.put, List.setIfInBounds_toArray, List.set_cons_zero, List.set_cons_succ, i64_w, i32_w]
          rfl
        refine take_ (i := 7) (N := some 35) (v := ?_) (a' := ?_) #[true, true, true, true, false, false, true, true, false, false] rfl rfl (by kernel_rfl) (fun _ _ _ h => h) (Or.inl ⟨by rfl, ?_⟩) hHeld ?_ ?_
        rotate_left
        · intro w' s0
          go_simp
          with_reducible rfl
        rotate_left
        · simp only [Act.put, List.setIfInBounds_toArray, List.set_cons_zero, List.set_cons_succ, i64_w, i32_w]
          rfl
        refine one_ (i := 4) (N := some 32) #[true, true, true, true, true, false, true, true, false, false] rfl rfl (by kernel_rfl) (by decide) (fun K hK => ?_)
        refine value_ (w1 := ?_) (v := ?_) (by rfl) rfl ?_ ?_
        rotate_left 2
        · go_simp
          constructor
          · rfl
          · rfl
        refine hK.out _ _ ((Kd.C_string (P := Try.prog) Try.underlying29 Try.underlying5 Try.underlying9 (Kd.C_alloc (Kd.C_below T2.out Bd.out) _))) (fun hHeld => ?_)
        clear hK K
        refine norm_ (a' := ?_) ?_ ?_
        rotate_left
        · show Act.put _ (some 32) _ = _
          simp only [Act.put, List.setIfInBounds_toArray, List.set_cons_zero, List.set_cons_succ, i64_w, i32_w]
          rfl
        refine one_ (i := 5) (N := some 33) #[true, true, true, true, true, true, true, true, false, false] rfl rfl (by kernel_rfl) (by decide) (fun K hK => ?_)
        refine Kd.R_append_step (Kd.int .u8) (w0 := wb) wb.heap.size (by rfl) (.tmp 28) (.tmp 32) 29 5 (.int .u8 0) 1 rfl Try.underlying29 info5 rfl (by decide) (by omega) (.slice B d.length cb) d _ [.int .u8 _] (fun _ => True) (fun _ => False) rfl rfl rfl (fun _ h => h.elim) ?aF2 ?aO2 ?aB2 ?aS2 ?aL2 ?_
        (case aF2 => exact fun _ _ => trivial)
        (case aO2 => exact Od.out)
        (case aB2 => exact Bd.out)
        (case aS2 => exact Bd.out.size)
        (case aL2 => have := HD.out; omega)
        intro v1 w5 hr hb hg hat
        rw [show IntKind.u8.wrap (wrap64 3) = 3 from by decide +kernel] at hr
        obtain ⟨A5, c5, e5⟩ := Kd.R_slice hr
        subst e5
        have O5 := Aside0.mk hr
        have B5 := Aside0.mk hb
        clear hr hb hg hat
        refine hK.out _ _ ((Kd.C_string (P := Try.prog) Try.underlying29 Try.underlying5 Try.underlying9 (Kd.C_below T2.out B5.out))) (fun hHeld => ?_)
        clear hK K
        refine norm_ (a' := ?_) ?_ ?_
        rotate_left
        · show Act.put _ (some 33) _ = _
          simp only [Act.put, List.setIfInBounds_toArray, List.set_cons_zero, List.set_cons_succ, i64_w, i32_w]
          rfl
        refine one_ (i := 8) (N := some 36) #[true, true, true, true, true, true, true, true, true, false] rfl rfl (by kernel_rfl) (by decide) (fun K hK => ?_)
        refine goes_ Try.func32 (by kernel_rfl) rfl #[.slice A5 (d ++ [3]).length c5, .string (strOfNums p2)] (by rfl) rfl rfl (by (try simp only [List.map_toArray, List.map_cons, List.map_nil]); first | done | rfl) ?_
        refine (PT2.out w5 A5 c5 (d ++ [3]) (by rw [HJ.out.2]) (Kd.R_reads' O5.out).2.2 (Kd.R_reads' O5.out).2.1).mono ?_
        rintro e w9 ⟨v9, rfl, hr, hb⟩
        refine ⟨_, rfl, ?_⟩
        obtain ⟨A9, c9, e9⟩ := Kd.R_slice hr
        subst e9
        have B9 := Aside0.mk (below_then B5.out B5.out.size hb)
        have O9 := Aside0.mk (Kd.R_lower hr B5.out.size)
        clear hr hb
        refine hK.out _ _ ((Kd.C_string (P := Try.prog) Try.underlying29 Try.underlying5 Try.underlying9 (Kd.C_below T2.out B9.out))) (fun hHeld => ?_)
        clear hK K
        refine norm_ (a' := ?_) ?_ ?_
        rotate_left
        · show Act.put _ (some 36) _ = _
          simp only [Act.put, List.setIfInBounds_toArray, List.set_cons_zero, List.set_cons_succ, i64_w, i32_w]
          rfl
        refine pure_ (i := 9) (N := some 4) (v := ?_) (a' := ?_) #[true, true, true, true, true, true, true, true, true, true] rfl rfl (by kernel_rfl) (fun _ _ _ h => h) (Or.inl ⟨by rfl, ?_⟩) ?_ ?_
        rotate_left
        · intro w'
          go_simp
          with_reducible rfl
        rotate_left
        · simp only [Act.put, List.setIfInBounds_toArray, List.set_cons_zero, List.set_cons_succ, i64_w, i32_w]
          rfl
        refine done_ (by kernel_rfl) ?_
        go_wp2
        go_roundw
        case rel => exact ⟨3, mb.DD p0 p1 p2 3, A9, c9, rfl, rfl, ⟨by decide, rfl⟩, ⟨Or.inr ⟨by decide, O9.out⟩⟩, B9⟩
        case measure => decide
    · obtain rfl : j = 3 := by have := HJ.out.1; omega
      have HO2 := Aside0.mk (show (Kd.int .u8).R 5 wr wb.heap.size (fun _ => True) (.slice B d.length cb) d by
          rcases HO.out with h | h
          · omega
          · exact h.2)
      have HE := Aside0.mk (show d = mb.enE m0 m1 m2 by rw [HJ.out.2, EE.out])
      clear hlt HO z0 z1 z2
      by_cases hbig : 65536 < d.length
      · have i0a : decide ((d.length : Int) > 65536) = true := decide_eq_true (by omega)
        have i0b : decide (65536 < d.length) = true := decide_eq_true (by omega)
        have i0c : decide ((65536 : Int) < (d.length : Int)) = true := decide_eq_true (by omega)
        go_wp2
        go_ret2
        exact mb.enc_bad (fun h => by have := h.2; rw [← HE.out] at this; omega) rfl (below_then B7.out B7.out.size HB.out)
      · have i0a : decide ((d.length : Int) > 65536) = false := decide_eq_false (by omega)
        have i0b : decide (65536 < d.length) = false := decide_eq_false (by omega)
        have i0c : decide ((65536 : Int) < (d.length : Int)) = false := decide_eq_false (by omega)
        go_wp2
        go_ret2
        exact mb.enc_ok ⟨HOK.out, by rw [← HE.out]; omega⟩ rfl HE.out (Kd.R_lower HO2.out B7.out.size) (below_then B7.out B7.out.size HB.out)
end
end Go.Proofs.Ytmehfnikecmiiaa.X
/- XxmShown: walks by hand, for the claim. -/
namespace Go.Proofs.Ytmehfnikecmiiaa.X
open Go.RowKit Go.Proofs.YtmehfnikecmiiaaW.PrintWords Go.Proofs.YtmehfnikecmiiaaW.PrintLast Go.Proofs.YtmehfnikecmiiaaW.PrintMore Go.Proofs.YtmehfnikecmiiaaW
section
set_option maxHeartbeats 4000000
set_option maxRecDepth 100000
open Go.Proofs.Ytmehfnikecmiiaa Go.Proofs.Ytmehfnikecmiiaa.Pl
def mb.tf (x : S52) : (Int × Int) × (Int × ByteArray) := ((x.f0, x.f1), (x.f2, x.f3))
def mb.tx (x : S56) : ByteArray × Int := (x.f0, x.f1)
theorem mb.tf_inj {x y : S52} (h : mb.tf x = mb.tf y) : x = y := by
  cases x; cases y
  simp only [mb.tf, Prod.mk.injEq] at h
  obtain ⟨⟨rfl, rfl⟩, rfl, rfl⟩ := h
  rfl
theorem mb.tx_inj {x y : S56} (h : mb.tx x = mb.tx y) : x = y := by
  cases x; cases y
  simp only [mb.tx, Prod.mk.injEq] at h
  obtain ⟨rfl, rfl⟩ := h
  rfl
theorem mb.map_inj {α β : Type} {f : α → β} (hf : ∀ {x y}, f x = f y → x = y) : ∀ {l m : List α}, l.map f = m.map f → l = m
  | [], [], _ => rfl
  | [], _ :: _, h => by simp at h
  | _ :: _, [], h => by simp at h
  | x :: l, y :: m, h => by
    simp only [List.map_cons, List.cons.injEq] at h
    rw [hf h.1, mb.map_inj hf h.2]
theorem mb.enE_M (m0 : List S48) (m1 : List S52) (m2 : List S56) : mb.enE m0 m1 m2 = enM (m0, (m1.map mb.tf, m2.map mb.tx)) := by
  unfold mb.enE X.enM
  dsimp only
  rw [lst_map, lst_map]
  rfl
theorem mb.okM {m0 : List S48} {m1 : List S52} {m2 : List S56} (h : mb.OK m0 m1 m2) (hs2 : ∀ x ∈ m2, x.f0.size ≤ 140737488351232) : OkM (m0, (m1.map mb.tf, m2.map mb.tx)) := by
  obtain ⟨hF, hl⟩ := h
  have hb : ∀ (p : List Int), p.length ≤ (txt p).length := fun p => by unfold X.txt; rw [List.length_append]; omega
  have hl0 : (lst en m0).length ≤ 65536 := by
    have := hb (lst en m0)
    unfold mb.enE at hl
    simp only [List.length_append] at hl
    omega
  have hl1 : (lst mb.e52 m1).length ≤ 65536 := by
    have := hb (lst mb.e52 m1)
    unfold mb.enE at hl
    simp only [List.length_append] at hl
    omega
  have hl2 : (lst mb.e56 m2).length ≤ 65536 := by
    have := hb (lst mb.e56 m2)
    unfold mb.enE at hl
    simp only [List.length_append] at hl
    omega
  have c0 := hF.1; have c1 := hF.2.1; have c2 := hF.2.2.1
  refine ⟨⟨⟨by dsimp only; omega, fun x hx => ⟨(hF.2.2.2.1 x hx).1, (hF.2.2.2.1 x hx).2.1⟩⟩, by dsimp only; omega⟩, ⟨⟨by dsimp only; rw [List.length_map]; omega, fun f hf => ?_⟩, ?_⟩, ⟨by dsimp only; rw [List.length_map]; omega, fun f hf => ?_⟩, ?_⟩
  · obtain ⟨x, hx, rfl⟩ := List.mem_map.1 hf
    obtain ⟨⟨a0, a1⟩, ⟨b0, b1⟩, ⟨d0, d1⟩, k⟩ := hF.all52 x hx
    exact ⟨⟨⟨a0, by show x.f0 < _; omega⟩, ⟨b0, by show x.f1 < _; omega⟩⟩, ⟨⟨d0, by show x.f2 < _; omega⟩, by show x.f3.size < _; omega⟩⟩
  · dsimp only
    rw [lst_map]
    exact Nat.lt_of_le_of_lt hl1 (by omega)
  · obtain ⟨x, hx, rfl⟩ := List.mem_map.1 hf
    obtain ⟨a, b, c⟩ := hF.all56 hs2 x hx
    exact ⟨by show x.f0.size < _; omega, ⟨b, by show x.f1 < _; omega⟩⟩
  · dsimp only
    rw [lst_map]
    exact Nat.lt_of_le_of_lt hl2 (by omega)
/-- The bytes of one module that may be begin those of another one just if they are the same. -/
theorem mb.begins {m0 : List S48} {m1 : List S52} {m2 : List S56} {n0 : List S48} {n1 : List S52} {n2 : List S56} (h : mb.OK m0 m1 m2) (hs : ∀ x ∈ m2, x.f0.size ≤ 140737488351232) (k : mb.OK n0 n1 n2) (ks : ∀ x ∈ n2, x.f0.size ≤ 140737488351232) {r s : List Int} (e : mb.enE m0 m1 m2 ++ r = mb.enE n0 n1 n2 ++ s) : (m0 = n0 ∧ m1 = n1 ∧ m2 = n2) ∧ r = s := by
  rw [mb.enE_M, mb.enE_M] at e
  obtain ⟨e1, e2⟩ := PF.mod _ _ r s (mb.okM h hs) (mb.okM k ks) e
  simp only [Prod.mk.injEq] at e1
  exact ⟨⟨e1.1, mb.map_inj mb.tf_inj e1.2.1, mb.map_inj mb.tx_inj e1.2.2⟩, e2⟩
theorem mb.begins_iff {m0 : List S48} {m1 : List S52} {m2 : List S56} {n0 : List S48} {n1 : List S52} {n2 : List S56} (h : mb.OK m0 m1 m2) (hs : ∀ x ∈ m2, x.f0.size ≤ 140737488351232) (k : mb.OK n0 n1 n2) (ks : ∀ x ∈ n2, x.f0.size ≤ 140737488351232) (hle : (mb.enE m0 m1 m2).length ≤ (mb.enE n0 n1 n2).length) :
    (mb.enE n0 n1 n2).take (mb.enE m0 m1 m2).length = mb.enE m0 m1 m2 ↔ m0 = n0 ∧ m1 = n1 ∧ m2 = n2 := by
  constructor
  · intro e
    have e2 := List.take_append_drop (mb.enE m0 m1 m2).length (mb.enE n0 n1 n2)
    rw [e] at e2
    exact (mb.begins h hs k ks (r := (mb.enE n0 n1 n2).drop (mb.enE m0 m1 m2).length) (s := []) (by rw [e2, List.append_nil])).1
  · rintro ⟨rfl, rfl, rfl⟩
    exact List.take_of_length_le (Nat.le_refl _)
theorem mb.en_none : mb.enE [] [] [] = [83, 67, 77, 49, 1, 1, 0, 2, 1, 0, 3, 1, 0] := by rfl
theorem mb.ok_none : mb.OK [] [] [] := by
  refine ⟨⟨Nat.zero_le _, Nat.zero_le _, Nat.zero_le _, fun x hx => by simp at hx, fun x hx => by simp at hx, fun i hi => absurd hi (Nat.not_lt_zero i)⟩, ?_⟩
  rw [mb.en_none]
  decide
theorem mb.enE_bytes {m0 : List S48} {m1 : List S52} {m2 : List S56} (h : mb.OK m0 m1 m2) (hs2 : ∀ x ∈ m2, x.f0.size ≤ 140737488351232) : Bytes (mb.enE m0 m1 m2) := by
  have hF := h.1
  have Y0 : Bytes (lst en m0) := lst_bytes (fun x hx => en_bytes x (hF.2.2.2.1 x hx).1 (hF.2.2.2.1 x hx).2.1)
  have Y1 : Bytes (lst mb.e52 m1) := lst_bytes (fun x hx => enF_bytes _ (hF.all52 x hx).1.1 (hF.all52 x hx).2.1.1 (hF.all52 x hx).2.2.1.1)
  have Y2 : Bytes (lst mb.e56 m2) := lst_bytes (fun x hx => enX_bytes _ (hF.all56 hs2 x hx).2.1)
  have T : ∀ {p : List Int}, Bytes p → Bytes (txt p) := fun {p} hp => (putU_bytes _ (Int.natCast_nonneg _)).append hp
  have K : ∀ (c : Int), 0 ≤ c → c ≤ 255 → Bytes [c] := fun c a b => bytes_cons a b Bytes.nil
  unfold mb.enE
  exact Bytes.append (bytes_cons (by decide) (by decide) (bytes_cons (by decide) (by decide) (bytes_cons (by decide) (by decide) (K 49 (by decide) (by decide))))) (((K 1 (by decide) (by decide)).append (T Y0)).append (((K 2 (by decide) (by decide)).append (T Y1)).append ((K 3 (by decide) (by decide)).append (T Y2))))
/-- Encode of a module that may be. -/
theorem mb.enc_yes {m0 : List S48} {m1 : List S52} {m2 : List S56} {A0 : Option Addr} {c0 : Nat} {A1 : Option Addr} {c1 : Nat} {A2 : Option Addr} {c2 : Nat} (w : World) (h0 : k48.C w A0 m0.length m0) (l0 : m0.length ≤ c0) (h1 : k52.C w A1 m1.length m1) (l1 : m1.length ≤ c1) (h2 : k56.C w A2 m2.length m2) (l2 : m2.length ≤ c2) (hv : ∀ x ∈ m0, Val x) (hs2 : ∀ x ∈ m2, x.f0.size ≤ 140737488351232) (ho : mb.OK m0 m1 m2) :
    Calls Try.prog 12 #[.agg #[.slice A0 m0.length c0, .slice A1 m1.length c1, .slice A2 m2.length c2]] w fun e w' => ∃ v, e = .returned (.tuple #[v, .int .i64 0]) ∧ (Kd.int .u8).R 5 w' w.heap.size (fun _ => True) v (mb.enE m0 m1 m2) ∧ Below w.heap.size w w' :=
  (mb.enc12 w h0 l0 h1 l1 h2 l2 hv hs2).mono fun e w' h => by
    rcases h with h | h
    · exact absurd ho h.1
    · exact h.2
theorem mb.enc_no {m0 : List S48} {m1 : List S52} {m2 : List S56} {A0 : Option Addr} {c0 : Nat} {A1 : Option Addr} {c1 : Nat} {A2 : Option Addr} {c2 : Nat} (w : World) (h0 : k48.C w A0 m0.length m0) (l0 : m0.length ≤ c0) (h1 : k52.C w A1 m1.length m1) (l1 : m1.length ≤ c1) (h2 : k56.C w A2 m2.length m2) (l2 : m2.length ≤ c2) (hv : ∀ x ∈ m0, Val x) (hs2 : ∀ x ∈ m2, x.f0.size ≤ 140737488351232) (ho : ¬ mb.OK m0 m1 m2) :
    Calls Try.prog 12 #[.agg #[.slice A0 m0.length c0, .slice A1 m1.length c1, .slice A2 m2.length c2]] w fun e w' => e = .returned (.tuple #[.slice none 0 0, .int .i64 90]) ∧ Below w.heap.size w w' :=
  (mb.enc12 w h0 l0 h1 l1 h2 l2 hv hs2).mono fun e w' h => by
    rcases h with h | h
    · exact h.2
    · exact absurd h.1 ho
theorem mb.shown11 (w : World) : Calls Try.prog 11 #[] w fun e w' => e = .returned (.bool true) ∧ Below w.heap.size w w' := by
  have hu27 := Try.underlying27
  have EN := Aside0.mk (fun (W : World) => show Calls Try.prog 12 #[.agg #[.slice none 0 0, .slice none 0 0, .slice none 0 0]] W _ from mb.enc_yes (m0 := []) (m1 := []) (m2 := []) W (Kd.C_nil k48 W) (Nat.le_refl _) (Kd.C_nil k52 W) (Nat.le_refl _) (Kd.C_nil k56 W) (Nat.le_refl _) (fun x hx => by simp at hx) (fun x hx => by simp at hx) mb.ok_none)
  rw [mb.en_none] at EN
  go_enter Try.func11, Try.ntmps11
  have hst : strOfNums [83, 67, 77, 49, 1, 1, 0, 2, 1, 0, 3, 1, 0] = ⟨#[83, 67, 77, 49, 1, 1, 0, 2, 1, 0, 3, 1, 0]⟩ := by rfl
  go_wp2_with (first | (go_at_call 12; refine (EN.out _).mono ?_; rintro e_ w2 ⟨v0, rfl, hr, hb⟩; obtain ⟨A9, c9, e9⟩ := Kd.R_slice hr; subst e9; have R2 := Kd.C_string (P := Try.prog) (c := c9) Try.underlying29 Try.underlying5 Try.underlying9 (Kd.R_reads' hr).2.2; rw [hst] at R2; have R2 : (convert 29 9 (.slice A9 13 c9)).run Try.prog w2 = .ok (.string ⟨#[83, 67, 77, 49, 1, 1, 0, 2, 1, 0, 3, 1, 0]⟩) w2 := R2; have B2 := Aside0.mk hb; clear hr hb hst))
  go_ret
  exact ⟨rfl, B2.out⟩
end
end Go.Proofs.Ytmehfnikecmiiaa.X
/- XApart: walks by hand, for the claim. -/
namespace Go.Proofs.Ytmehfnikecmiiaa.X
open Go.RowKit Go.Proofs.YtmehfnikecmiiaaW.PrintWords Go.Proofs.YtmehfnikecmiiaaW.PrintLast Go.Proofs.YtmehfnikecmiiaaW.PrintMore Go.Proofs.YtmehfnikecmiiaaW
section
set_option maxHeartbeats 4000000
set_option maxRecDepth 100000
open Go.Proofs.Ytmehfnikecmiiaa Go.Proofs.Ytmehfnikecmiiaa.Pl
set_option maxHeartbeats 8000000 in
theorem mb.apart4 {m0 : List S48} {m1 : List S52} {m2 : List S56} {A0 : Option Addr} {c0 : Nat} {A1 : Option Addr} {c1 : Nat} {A2 : Option Addr} {c2 : Nat} {n0 : List S48} {n1 : List S52} {n2 : List S56} {B0 : Option Addr} {d0 : Nat} {B1 : Option Addr} {d1 : Nat} {B2 : Option Addr} {d2 : Nat} (w : World)
    (h0 : k48.C w A0 m0.length m0) (l0 : m0.length ≤ c0) (h1 : k52.C w A1 m1.length m1) (l1 : m1.length ≤ c1) (h2 : k56.C w A2 m2.length m2) (l2 : m2.length ≤ c2) (hv : ∀ x ∈ m0, Val x) (hz : ∀ x ∈ m0, Siz x) (hs2 : ∀ x ∈ m2, x.f0.size ≤ 140737488351232) (hn0 : m0.length ≤ 9223372036854775000) (hn1 : m1.length ≤ 9223372036854775000) (hn2 : m2.length ≤ 9223372036854775000)
    (g0 : k48.C w B0 n0.length n0) (e0 : n0.length ≤ d0) (g1 : k52.C w B1 n1.length n1) (e1 : n1.length ≤ d1) (g2 : k56.C w B2 n2.length n2) (e2 : n2.length ≤ d2) (kv : ∀ x ∈ n0, Val x) (ks2 : ∀ x ∈ n2, x.f0.size ≤ 140737488351232) :
    Calls Try.prog 4 #[.agg #[.slice A0 m0.length c0, .slice A1 m1.length c1, .slice A2 m2.length c2], .agg #[.slice B0 n0.length d0, .slice B1 n1.length d1, .slice B2 n2.length d2]] w fun e w' => e = .returned (.bool true) ∧ Below w.heap.size w w' := by
  have hu27 := Try.underlying27
  have hu29 := Try.underlying29
  obtain ⟨i0, hi0, _, _, _⟩ := info_parts (show (Try.prog.info? 5).map (fun i => (i.zero, i.size, i.bytes)) = some (some (.int .u8 0), 1, 1) by kernel_rfl)
  obtain ⟨t, ⟨K, hK⟩, hT⟩ := msame_ev m0 m1 m2 n0 n1 n2 hn0 hn1 hn2 (fun y hy => ⟨hv y hy, hz y hy⟩) kv
  have SM := Aside0.mk (fun (W : World) (hb : Below w.heap.size w W) => show Calls Try.prog 13 #[.agg #[.slice A0 m0.length c0, .slice A1 m1.length c1, .slice A2 m2.length c2], .agg #[.slice B0 n0.length d0, .slice B1 n1.length d1, .slice B2 n2.length d2]] W (fun e w' => e = .returned (.bool t) ∧ Below W.heap.size W w') from scruplelaw09_Same.calls K A0 c0 m0 A1 c1 m1 A2 c2 m2 B0 d0 n0 B1 d1 n1 B2 d2 n2 t W (Kd.C_below h0 hb) l0 (Kd.C_below h1 hb) l1 (Kd.C_below h2 hb) l2 (Kd.C_below g0 hb) e0 (Kd.C_below g1 hb) e1 (Kd.C_below g2 hb) e2 (hK K (Nat.le_refl _)))
  have ENA := Aside0.mk (fun (W : World) (hb : Below w.heap.size w W) (ho : mb.OK m0 m1 m2) => mb.enc_yes W (Kd.C_below h0 hb) l0 (Kd.C_below h1 hb) l1 (Kd.C_below h2 hb) l2 hv hs2 ho)
  have NOA := Aside0.mk (fun (W : World) (hb : Below w.heap.size w W) (ho : ¬ mb.OK m0 m1 m2) => mb.enc_no W (Kd.C_below h0 hb) l0 (Kd.C_below h1 hb) l1 (Kd.C_below h2 hb) l2 hv hs2 ho)
  have ENB := Aside0.mk (fun (W : World) (hb : Below w.heap.size w W) (ho : mb.OK n0 n1 n2) => mb.enc_yes W (Kd.C_below g0 hb) e0 (Kd.C_below g1 hb) e1 (Kd.C_below g2 hb) e2 kv ks2 ho)
  have NOB := Aside0.mk (fun (W : World) (hb : Below w.heap.size w W) (ho : ¬ mb.OK n0 n1 n2) => mb.enc_no W (Kd.C_below g0 hb) e0 (Kd.C_below g1 hb) e1 (Kd.C_below g2 hb) e2 kv ks2 ho)
  clear h0 l0 h1 l1 h2 l2 hv hz hn0 hn1 hn2 g0 e0 g1 e1 g2 e2 kv hK
  by_cases ha : mb.OK m0 m1 m2
  case neg =>
    have EA := Aside0.mk (fun (W : World) (hb : Below w.heap.size w W) => NOA.out W hb ha)
    by_cases hb : mb.OK n0 n1 n2
    case neg =>
      have EB := Aside0.mk (fun (W : World) (hb1 : Below w.heap.size w W) => NOB.out W hb1 hb)
      clear ha hb
      go_enter Try.func4, Try.ntmps4
      have tka := Aside0.mk True.intro
      go_wp2_with (first | ((with_reducible refine gate_dst (N := 2) rfl ?_); refine box_event ?hg (N := 2) ?hd (cs := #[.slice A0 m0.length c0, .slice A1 m1.length c1, .slice A2 m2.length c2]) (t := 27) ?hr ?_; (case hd => rfl); (case hg => rfl); (case hr => first | (go_simp; done) | (go_simp; rfl)); intro ga hg w1 hbox hb1; have BA1 := Aside0.mk hbox; have O1 := Aside0.mk hb1; clear hbox hb1 hg) | ((with_reducible refine gate_dst (N := 3) rfl ?_); refine box_event ?hg (N := 3) ?hd (cs := #[.slice B0 n0.length d0, .slice B1 n1.length d1, .slice B2 n2.length d2]) (t := 27) ?hr ?_; (case hd => rfl); (case hg => rfl); (case hr => first | (go_simp; done) | (go_simp; rfl)); intro gb hg w2 hbox hb1; have BB2 := Aside0.mk hbox; have BA2 := Aside0.mk (blk_below BA1.out hb1); have O2 := Aside0.mk (below_step O1.out hb1); clear hbox hb1 hg) | (go_at_call 11; refine (mb.shown11 _).mono ?_; rintro e_ w3 ⟨rfl, hb⟩; have BA3 := Aside0.mk (blk_below BA2.out hb); have BB3 := Aside0.mk (blk_below BB2.out hb); have O3 := Aside0.mk (below_step O2.out hb); clear hb; have z0 : w3.cell? ⟨ga, 0, none⟩ = some (.slice A0 m0.length c0) := (blk_cell BA3.out 0).trans rfl; have z1 : w3.cell? ⟨ga, 1, none⟩ = some (.slice A1 m1.length c1) := (blk_cell BA3.out 1).trans rfl; have z2 : w3.cell? ⟨ga, 2, none⟩ = some (.slice A2 m2.length c2) := (blk_cell BA3.out 2).trans rfl) | (go_at_call 12; clear tka; refine (EA.out _ O3.out).mono ?_; rintro e_ w4 ⟨rfl, hb⟩; have BA4 := Aside0.mk (blk_below BA3.out hb); have BB4 := Aside0.mk (blk_below BB3.out hb); have O4 := Aside0.mk (below_step O3.out hb); clear hb z0 z1 z2; have y0 : w4.cell? ⟨gb, 0, none⟩ = some (.slice B0 n0.length d0) := (blk_cell BB4.out 0).trans rfl; have y1 : w4.cell? ⟨gb, 1, none⟩ = some (.slice B1 n1.length d1) := (blk_cell BB4.out 1).trans rfl; have y2 : w4.cell? ⟨gb, 2, none⟩ = some (.slice B2 n2.length d2) := (blk_cell BB4.out 2).trans rfl) | (go_at_call 12; refine (EB.out _ O4.out).mono ?_; rintro e_ w5 ⟨rfl, hb⟩; have BA5 := Aside0.mk (blk_below BA4.out hb); have BB5 := Aside0.mk (blk_below BB4.out hb); have O5 := Aside0.mk (below_step O4.out hb); have SA := Aside0.mk hb; clear hb y0 y1 y2))
      go_ret
      exact ⟨rfl, O5.out⟩
    have EB := Aside0.mk (fun (W : World) (hb1 : Below w.heap.size w W) => ENB.out W hb1 hb)
    clear ha hb
    go_enter Try.func4, Try.ntmps4
    have tka := Aside0.mk True.intro
    go_wp2_with (first | ((with_reducible refine gate_dst (N := 2) rfl ?_); refine box_event ?hg (N := 2) ?hd (cs := #[.slice A0 m0.length c0, .slice A1 m1.length c1, .slice A2 m2.length c2]) (t := 27) ?hr ?_; (case hd => rfl); (case hg => rfl); (case hr => first | (go_simp; done) | (go_simp; rfl)); intro ga hg w1 hbox hb1; have BA1 := Aside0.mk hbox; have O1 := Aside0.mk hb1; clear hbox hb1 hg) | ((with_reducible refine gate_dst (N := 3) rfl ?_); refine box_event ?hg (N := 3) ?hd (cs := #[.slice B0 n0.length d0, .slice B1 n1.length d1, .slice B2 n2.length d2]) (t := 27) ?hr ?_; (case hd => rfl); (case hg => rfl); (case hr => first | (go_simp; done) | (go_simp; rfl)); intro gb hg w2 hbox hb1; have BB2 := Aside0.mk hbox; have BA2 := Aside0.mk (blk_below BA1.out hb1); have O2 := Aside0.mk (below_step O1.out hb1); clear hbox hb1 hg) | (go_at_call 11; refine (mb.shown11 _).mono ?_; rintro e_ w3 ⟨rfl, hb⟩; have BA3 := Aside0.mk (blk_below BA2.out hb); have BB3 := Aside0.mk (blk_below BB2.out hb); have O3 := Aside0.mk (below_step O2.out hb); clear hb; have z0 : w3.cell? ⟨ga, 0, none⟩ = some (.slice A0 m0.length c0) := (blk_cell BA3.out 0).trans rfl; have z1 : w3.cell? ⟨ga, 1, none⟩ = some (.slice A1 m1.length c1) := (blk_cell BA3.out 1).trans rfl; have z2 : w3.cell? ⟨ga, 2, none⟩ = some (.slice A2 m2.length c2) := (blk_cell BA3.out 2).trans rfl) | (go_at_call 12; clear tka; refine (EA.out _ O3.out).mono ?_; rintro e_ w4 ⟨rfl, hb⟩; have BA4 := Aside0.mk (blk_below BA3.out hb); have BB4 := Aside0.mk (blk_below BB3.out hb); have O4 := Aside0.mk (below_step O3.out hb); clear hb z0 z1 z2; have y0 : w4.cell? ⟨gb, 0, none⟩ = some (.slice B0 n0.length d0) := (blk_cell BB4.out 0).trans rfl; have y1 : w4.cell? ⟨gb, 1, none⟩ = some (.slice B1 n1.length d1) := (blk_cell BB4.out 1).trans rfl; have y2 : w4.cell? ⟨gb, 2, none⟩ = some (.slice B2 n2.length d2) := (blk_cell BB4.out 2).trans rfl) | (go_at_call 12; refine (EB.out _ O4.out).mono ?_; rintro e_ w5 ⟨vb, rfl, hr, hb⟩; obtain ⟨Xb, qb, eb⟩ := Kd.R_slice hr; subst eb; have Rb := Aside0.mk hr; clear hr; have BA5 := Aside0.mk (blk_below BA4.out hb); have BB5 := Aside0.mk (blk_below BB4.out hb); have O5 := Aside0.mk (below_step O4.out hb); have SA := Aside0.mk hb; clear hb y0 y1 y2))
    go_ret
    exact ⟨rfl, O5.out⟩
  have EA := Aside0.mk (fun (W : World) (hb : Below w.heap.size w W) => ENA.out W hb ha)
  by_cases hb : mb.OK n0 n1 n2
  case neg =>
    have EB := Aside0.mk (fun (W : World) (hb1 : Below w.heap.size w W) => NOB.out W hb1 hb)
    clear ha hb
    go_enter Try.func4, Try.ntmps4
    have tka := Aside0.mk True.intro
    go_wp2_with (first | ((with_reducible refine gate_dst (N := 2) rfl ?_); refine box_event ?hg (N := 2) ?hd (cs := #[.slice A0 m0.length c0, .slice A1 m1.length c1, .slice A2 m2.length c2]) (t := 27) ?hr ?_; (case hd => rfl); (case hg => rfl); (case hr => first | (go_simp; done) | (go_simp; rfl)); intro ga hg w1 hbox hb1; have BA1 := Aside0.mk hbox; have O1 := Aside0.mk hb1; clear hbox hb1 hg) | ((with_reducible refine gate_dst (N := 3) rfl ?_); refine box_event ?hg (N := 3) ?hd (cs := #[.slice B0 n0.length d0, .slice B1 n1.length d1, .slice B2 n2.length d2]) (t := 27) ?hr ?_; (case hd => rfl); (case hg => rfl); (case hr => first | (go_simp; done) | (go_simp; rfl)); intro gb hg w2 hbox hb1; have BB2 := Aside0.mk hbox; have BA2 := Aside0.mk (blk_below BA1.out hb1); have O2 := Aside0.mk (below_step O1.out hb1); clear hbox hb1 hg) | (go_at_call 11; refine (mb.shown11 _).mono ?_; rintro e_ w3 ⟨rfl, hb⟩; have BA3 := Aside0.mk (blk_below BA2.out hb); have BB3 := Aside0.mk (blk_below BB2.out hb); have O3 := Aside0.mk (below_step O2.out hb); clear hb; have z0 : w3.cell? ⟨ga, 0, none⟩ = some (.slice A0 m0.length c0) := (blk_cell BA3.out 0).trans rfl; have z1 : w3.cell? ⟨ga, 1, none⟩ = some (.slice A1 m1.length c1) := (blk_cell BA3.out 1).trans rfl; have z2 : w3.cell? ⟨ga, 2, none⟩ = some (.slice A2 m2.length c2) := (blk_cell BA3.out 2).trans rfl) | (go_at_call 12; clear tka; refine (EA.out _ O3.out).mono ?_; rintro e_ w4 ⟨va, rfl, hr, hb⟩; obtain ⟨Xa, qa, ea⟩ := Kd.R_slice hr; subst ea; have Ra := Aside0.mk hr; clear hr; have BA4 := Aside0.mk (blk_below BA3.out hb); have BB4 := Aside0.mk (blk_below BB3.out hb); have O4 := Aside0.mk (below_step O3.out hb); clear hb z0 z1 z2; have y0 : w4.cell? ⟨gb, 0, none⟩ = some (.slice B0 n0.length d0) := (blk_cell BB4.out 0).trans rfl; have y1 : w4.cell? ⟨gb, 1, none⟩ = some (.slice B1 n1.length d1) := (blk_cell BB4.out 1).trans rfl; have y2 : w4.cell? ⟨gb, 2, none⟩ = some (.slice B2 n2.length d2) := (blk_cell BB4.out 2).trans rfl) | (go_at_call 12; refine (EB.out _ O4.out).mono ?_; rintro e_ w5 ⟨rfl, hb⟩; have BA5 := Aside0.mk (blk_below BA4.out hb); have BB5 := Aside0.mk (blk_below BB4.out hb); have O5 := Aside0.mk (below_step O4.out hb); have SA := Aside0.mk hb; clear hb y0 y1 y2))
    go_ret
    exact ⟨rfl, O5.out⟩
  have EB := Aside0.mk (fun (W : World) (hb1 : Below w.heap.size w W) => ENB.out W hb1 hb)
  have IFF := Aside0.mk (fun hle => mb.begins_iff ha hs2 hb ks2 hle)
  have YA := Aside0.mk (mb.enE_bytes ha hs2)
  have YB := Aside0.mk (mb.enE_bytes hb ks2)
  have LX := Aside0.mk (show (mb.enE m0 m1 m2).length ≤ 65536 from ha.2)
  have LY := Aside0.mk (show (mb.enE n0 n1 n2).length ≤ 65536 from hb.2)
  have EQ := Aside0.mk (show (m0 = n0 ∧ m1 = n1 ∧ m2 = n2) → mb.enE m0 m1 m2 = mb.enE n0 n1 n2 by rintro ⟨rfl, rfl, rfl⟩; rfl)
  have HT := Aside0.mk hT
  clear ha hb hs2 ks2 ENA ENB NOA NOB hT
  generalize mb.enE m0 m1 m2 = x at *
  generalize mb.enE n0 n1 n2 = y at *
  cases t with
  | true =>
    have hsm := HT.out.1 rfl
    have hxy := EQ.out hsm
    clear hsm EQ HT IFF
    subst hxy
    have i1 : decide ((x.length : Int) ≤ (x.length : Int)) = true := decide_eq_true (by omega)
    have i2 : decide (x.length ≤ x.length) = true := decide_eq_true (by omega)
    go_enter Try.func4, Try.ntmps4
    have tka := Aside0.mk True.intro
    go_wp2_with (first | ((with_reducible refine gate_dst (N := 2) rfl ?_); refine box_event ?hg (N := 2) ?hd (cs := #[.slice A0 m0.length c0, .slice A1 m1.length c1, .slice A2 m2.length c2]) (t := 27) ?hr ?_; (case hd => rfl); (case hg => rfl); (case hr => first | (go_simp; done) | (go_simp; rfl)); intro ga hg w1 hbox hb1; have BA1 := Aside0.mk hbox; have O1 := Aside0.mk hb1; clear hbox hb1 hg) | ((with_reducible refine gate_dst (N := 3) rfl ?_); refine box_event ?hg (N := 3) ?hd (cs := #[.slice B0 n0.length d0, .slice B1 n1.length d1, .slice B2 n2.length d2]) (t := 27) ?hr ?_; (case hd => rfl); (case hg => rfl); (case hr => first | (go_simp; done) | (go_simp; rfl)); intro gb hg w2 hbox hb1; have BB2 := Aside0.mk hbox; have BA2 := Aside0.mk (blk_below BA1.out hb1); have O2 := Aside0.mk (below_step O1.out hb1); clear hbox hb1 hg) | (go_at_call 11; refine (mb.shown11 _).mono ?_; rintro e_ w3 ⟨rfl, hb⟩; have BA3 := Aside0.mk (blk_below BA2.out hb); have BB3 := Aside0.mk (blk_below BB2.out hb); have O3 := Aside0.mk (below_step O2.out hb); clear hb; have z0 : w3.cell? ⟨ga, 0, none⟩ = some (.slice A0 m0.length c0) := (blk_cell BA3.out 0).trans rfl; have z1 : w3.cell? ⟨ga, 1, none⟩ = some (.slice A1 m1.length c1) := (blk_cell BA3.out 1).trans rfl; have z2 : w3.cell? ⟨ga, 2, none⟩ = some (.slice A2 m2.length c2) := (blk_cell BA3.out 2).trans rfl) | (go_at_call 12; clear tka; refine (EA.out _ O3.out).mono ?_; rintro e_ w4 ⟨va, rfl, hr, hb⟩; obtain ⟨Xa, qa, ea⟩ := Kd.R_slice hr; subst ea; have Ra := Aside0.mk hr; clear hr; have BA4 := Aside0.mk (blk_below BA3.out hb); have BB4 := Aside0.mk (blk_below BB3.out hb); have O4 := Aside0.mk (below_step O3.out hb); clear hb z0 z1 z2; have y0 : w4.cell? ⟨gb, 0, none⟩ = some (.slice B0 n0.length d0) := (blk_cell BB4.out 0).trans rfl; have y1 : w4.cell? ⟨gb, 1, none⟩ = some (.slice B1 n1.length d1) := (blk_cell BB4.out 1).trans rfl; have y2 : w4.cell? ⟨gb, 2, none⟩ = some (.slice B2 n2.length d2) := (blk_cell BB4.out 2).trans rfl) | (go_at_call 12; refine (EB.out _ O4.out).mono ?_; rintro e_ w5 ⟨vb, rfl, hr, hb⟩; obtain ⟨Xb, qb, eb⟩ := Kd.R_slice hr; subst eb; have Rb := Aside0.mk hr; clear hr; have BA5 := Aside0.mk (blk_below BA4.out hb); have BB5 := Aside0.mk (blk_below BB4.out hb); have O5 := Aside0.mk (below_step O4.out hb); have SA := Aside0.mk hb; clear hb y0 y1 y2))
    have CUT := cut_to (P := Try.prog) 29 5 .i64 Try.underlying29 hi0 Xb x.length qb (x.length : Int) (Int.natCast_nonneg _) (Int.le_refl _) (Kd.R_reads' Rb.out).2.1
    rw [Int.toNat_natCast] at CUT
    have CA := Aside0.mk (Kd.C_below (Kd.R_reads' Ra.out).2.2 SA.out)
    have CB := Aside0.mk (Kd.R_reads' Rb.out).2.2
    have SRA := Aside0.mk (fun (W : World) (hC : (Kd.int .u8).C W Xa x.length x) => Kd.C_string (P := Try.prog) (c := qa) Try.underlying29 Try.underlying5 Try.underlying9 hC)
    have SRB := Aside0.mk (fun (W : World) (hC : (Kd.int .u8).C W Xb x.length x) => Kd.C_string (P := Try.prog) (c := qb) Try.underlying29 Try.underlying5 Try.underlying9 hC)
    generalize strOfNums x = s1 at SRA SRB
    have s2 := s1
    clear s2
    refine start_ (n := 16) (S := fun w' => (convert 29 9 (.slice Xb x.length qb)).run Try.prog w' = .ok (.string s1) w' ∧ (convert 29 9 (.slice Xa x.length qa)).run Try.prog w' = .ok (.string s1) w') (ds := []) #[false, false, false, false, false, false, false, false, false, false, false, false, false, false, false, false] (by kernel_rfl) rfl rfl ⟨SRB.out _ (Kd.C_drew CB.out), SRA.out _ (Kd.C_drew CA.out)⟩ (fun hHeld => ?_)
    generalize hwd : w5.drew = wd at hHeld ⊢
    have BAd := Aside0.mk (hwd ▸ blk_drew BA5.out)
    have BBd := Aside0.mk (hwd ▸ blk_drew BB5.out)
    have Od := Aside0.mk (hwd ▸ below_drew O5.out)
    clear hwd
    refine pure_ (i := 0) (N := some 29) (v := ?_) (a' := ?_) #[true, false, false, false, false, false, false, false, false, false, false, false, false, false, false, false] rfl rfl (by kernel_rfl) (fun _ _ _ h => h) (Or.inl ⟨by rfl, ?_⟩) ?_ ?_
    rotate_left
    · intro w'
      go_simp
      with_reducible rfl
    rotate_left
    · simp only [Act.put, List.setIfInBounds_toArray, List.set_cons_zero, List.set_cons_succ, i64_w, i32_w]
      rfl
    refine pure_ (i := 1) (N := some 30) (v := ?_) (a' := ?_) #[true, true, false, false, false, false, false, false, false, false, false, false, false, false, false, false] rfl rfl (by kernel_rfl) (fun _ _ _ h => h) (Or.inl ⟨by rfl, ?_⟩) ?_ ?_
    rotate_left
    · intro w'
      go_simp
      with_reducible rfl
    rotate_left
    · simp only [Act.put, List.setIfInBounds_toArray, List.set_cons_zero, List.set_cons_succ, i64_w, i32_w]
      rfl
    refine pure_ (i := 2) (N := some 31) (v := ?_) (a' := ?_) #[true, true, true, false, false, false, false, false, false, false, false, false, false, false, false, false] rfl rfl (by kernel_rfl) (fun _ _ _ h => h) (Or.inl ⟨by rfl, ?_⟩) ?_ ?_
    rotate_left
    · intro w'
      go_simp
      with_reducible rfl
    rotate_left
    · simp only [Act.put, List.setIfInBounds_toArray, List.set_cons_zero, List.set_cons_succ, i64_w, i32_w]
      rfl
    refine pure_ (i := 3) (N := some 32) (v := ?_) (a' := ?_) #[true, true, true, true, false, false, false, false, false, false, false, false, false, false, false, false] rfl rfl (by kernel_rfl) (fun _ _ _ h => h) (Or.inl ⟨by rfl, ?_⟩) ?_ ?_
    rotate_left
    · intro w'
      go_simp
      with_reducible rfl
    rotate_left
    · simp only [Act.put, List.setIfInBounds_toArray, List.set_cons_zero, List.set_cons_succ, i64_w, i32_w]
      rfl
    refine pure_ (i := 4) (N := some 33) (v := ?_) (a' := ?_) #[true, true, true, true, true, false, false, false, false, false, false, false, false, false, false, false] rfl rfl (by kernel_rfl) (fun _ _ _ h => h) (Or.inl ⟨by rfl, ?_⟩) ?_ ?_
    rotate_left
    · intro w'
      go_simp
      with_reducible rfl
    rotate_left
    · simp only [Act.put, List.setIfInBounds_toArray, List.set_cons_zero, List.set_cons_succ, i64_w, i32_w]
      rfl
    refine pure_ (i := 5) (N := some 34) (v := ?_) (a' := ?_) #[true, true, true, true, true, true, false, false, false, false, false, false, false, false, false, false] rfl rfl (by kernel_rfl) (fun _ _ _ h => h) (Or.inl ⟨by rfl, ?_⟩) ?_ ?_
    rotate_left
    · intro w'
      go_simp
      with_reducible rfl
    rotate_left
    · simp only [Act.put, List.setIfInBounds_toArray, List.set_cons_zero, List.set_cons_succ, i64_w, i32_w]
      rfl
    refine pure_ (i := 6) (N := some 35) (v := ?_) (a' := ?_) #[true, true, true, true, true, true, true, false, false, false, false, false, false, false, false, false] rfl rfl (by kernel_rfl) (fun _ _ _ h => h) (Or.inl ⟨by rfl, ?_⟩) ?_ ?_
    rotate_left
    · intro w'
      go_simp
      with_reducible rfl
    rotate_left
    · simp only [Act.put, List.setIfInBounds_toArray, List.set_cons_zero, List.set_cons_succ, i64_w, i32_w]
      rfl
    refine pure_ (i := 7) (N := some 36) (v := ?_) (a' := ?_) #[true, true, true, true, true, true, true, true, false, false, false, false, false, false, false, false] rfl rfl (by kernel_rfl) (fun _ _ _ h => h) (Or.inl ⟨by rfl, ?_⟩) ?_ ?_
    rotate_left
    · intro w'
      go_simp
      with_reducible rfl
    rotate_left
    · simp only [Act.put, List.setIfInBounds_toArray, List.set_cons_zero, List.set_cons_succ, i64_w, i32_w]
      rfl
    refine pure_ (i := 8) (N := some 37) (v := ?_) (a' := ?_) #[true, true, true, true, true, true, true, true, true, false, false, false, false, false, false, false] rfl rfl (by kernel_rfl) (fun _ _ _ h => h) (Or.inl ⟨by rfl, ?_⟩) ?_ ?_
    rotate_left
    · intro w'
      go_simp
      with_reducible rfl
    rotate_left
    · simp only [Act.put, List.setIfInBounds_toArray, List.set_cons_zero, List.set_cons_succ, i64_w, i32_w]
      rfl
    refine pure_ (i := 9) (N := some 38) (v := ?_) (a' := ?_) #[true, true, true, true, true, true, true, true, true, true, false, false, false, false, false, false] rfl rfl (by kernel_rfl) (fun _ _ _ h => h) (Or.inl ⟨by rfl, ?_⟩) ?_ ?_
    rotate_left
    · intro w'
      go_simp
      with_reducible rfl
    rotate_left
    · simp only [Act.put, List.setIfInBounds_toArray, List.set_cons_zero, List.set_cons_succ, i64_w, i32_w]
      rfl
    refine pure_ (i := 11) (N := some 40) (v := ?_) (a' := ?_) #[true, true, true, true, true, true, true, true, true, true, false, true, false, false, false, false] rfl rfl (by kernel_rfl) (fun _ _ _ h => h) (Or.inl ⟨by rfl, ?_⟩) ?_ ?_
    rotate_left
    · intro w'
      go_simp
      with_reducible rfl
    rotate_left
    · simp only [Act.put, List.setIfInBounds_toArray, List.set_cons_zero, List.set_cons_succ, i64_w, i32_w]
      rfl
    refine take_ (i := 10) (N := some 39) (v := ?_) (a' := ?_) #[true, true, true, true, true, true, true, true, true, true, true, true, false, false, false, false] rfl rfl (by kernel_rfl) (fun _ _ _ h => h) (Or.inl ⟨by rfl, ?_⟩) hHeld ?_ ?_
    rotate_left
    · rintro w' ⟨s0, s1⟩
      go_simp
      with_reducible rfl
    rotate_left
    · simp only [Act.put, List.setIfInBounds_toArray, List.set_cons_zero, List.set_cons_succ, i64_w, i32_w]
      rfl
    refine take_ (i := 12) (N := some 41) (v := ?_) (a' := ?_) #[true, true, true, true, true, true, true, true, true, true, true, true, true, false, false, false] rfl rfl (by kernel_rfl) (fun _ _ _ h => h) (Or.inl ⟨by rfl, ?_⟩) hHeld ?_ ?_
    rotate_left
    · rintro w' ⟨s0, s1⟩
      go_simp
      with_reducible rfl
    rotate_left
    · simp only [Act.put, List.setIfInBounds_toArray, List.set_cons_zero, List.set_cons_succ, i64_w, i32_w]
      rfl
    refine pure_ (i := 13) (N := some 42) (v := ?_) (a' := ?_) #[true, true, true, true, true, true, true, true, true, true, true, true, true, true, false, false] rfl rfl (by kernel_rfl) (fun _ _ _ h => h) (Or.inl ⟨by rfl, ?_⟩) ?_ ?_
    rotate_left
    · intro w'
      go_simp
      with_reducible rfl
    rotate_left
    · simp only [Act.put, List.setIfInBounds_toArray, List.set_cons_zero, List.set_cons_succ, i64_w, i32_w]
      rfl
    refine pure_ (i := 14) (N := some 43) (v := ?_) (a' := ?_) #[true, true, true, true, true, true, true, true, true, true, true, true, true, true, true, false] rfl rfl (by kernel_rfl) (fun _ _ _ h => h) (Or.inl ⟨by rfl, ?_⟩) ?_ ?_
    rotate_left
    · intro w'
      go_simp
      with_reducible rfl
    rotate_left
    · simp only [Act.put, List.setIfInBounds_toArray, List.set_cons_zero, List.set_cons_succ, i64_w, i32_w]
      rfl
    refine pure_ (i := 15) (N := some 10) (v := ?_) (a' := ?_) #[true, true, true, true, true, true, true, true, true, true, true, true, true, true, true, true] rfl rfl (by kernel_rfl) (fun _ _ _ h => h) (Or.inl ⟨by rfl, ?_⟩) ?_ ?_
    rotate_left
    · intro w'
      go_simp
      with_reducible rfl
    rotate_left
    · simp only [Act.put, List.setIfInBounds_toArray, List.set_cons_zero, List.set_cons_succ, i64_w, i32_w]
      rfl
    refine done_ (by kernel_rfl) ?_
    have z0 : wd.cell? ⟨ga, 0, none⟩ = some (.slice A0 m0.length c0) := (blk_cell BAd.out 0).trans rfl
    have z1 : wd.cell? ⟨ga, 1, none⟩ = some (.slice A1 m1.length c1) := (blk_cell BAd.out 1).trans rfl
    have z2 : wd.cell? ⟨ga, 2, none⟩ = some (.slice A2 m2.length c2) := (blk_cell BAd.out 2).trans rfl
    have y0 : wd.cell? ⟨gb, 0, none⟩ = some (.slice B0 n0.length d0) := (blk_cell BBd.out 0).trans rfl
    have y1 : wd.cell? ⟨gb, 1, none⟩ = some (.slice B1 n1.length d1) := (blk_cell BBd.out 1).trans rfl
    have y2 : wd.cell? ⟨gb, 2, none⟩ = some (.slice B2 n2.length d2) := (blk_cell BBd.out 2).trans rfl
    go_wp2_with (first | (go_at_call 13; refine (SM.out _ Od.out).mono ?_; rintro e_ w7 ⟨rfl, hb⟩; have O7 := Aside0.mk (below_step Od.out hb); clear hb z0 z1 z2 y0 y1 y2))
    go_ret
    exact ⟨rfl, O7.out⟩
  | false =>
    have hns : ¬ (m0 = n0 ∧ m1 = n1 ∧ m2 = n2) := fun h => by cases HT.out.2 h
    by_cases hle : x.length ≤ y.length
    · have hne := fun h => hns ((IFF.out hle).1 h)
      have hsn : strOfNums (y.take x.length) ≠ strOfNums x := fun h => hne (str_inj (fun z hz => YB.out z (List.mem_of_mem_take hz)) YA.out h)
      have hll : (y.take x.length).length = x.length := by rw [List.length_take]; omega
      have i1 : decide ((x.length : Int) ≤ (y.length : Int)) = true := decide_eq_true (by omega)
      have i2 : decide (x.length ≤ y.length) = true := decide_eq_true (by omega)
      have HLE := Aside0.mk hle; have HSN := Aside0.mk hsn; have HLL := Aside0.mk hll
      clear hne hns EQ HT IFF hsn hle hll
      go_enter Try.func4, Try.ntmps4
      have tka := Aside0.mk True.intro
      go_wp2_with (first | ((with_reducible refine gate_dst (N := 2) rfl ?_); refine box_event ?hg (N := 2) ?hd (cs := #[.slice A0 m0.length c0, .slice A1 m1.length c1, .slice A2 m2.length c2]) (t := 27) ?hr ?_; (case hd => rfl); (case hg => rfl); (case hr => first | (go_simp; done) | (go_simp; rfl)); intro ga hg w1 hbox hb1; have BA1 := Aside0.mk hbox; have O1 := Aside0.mk hb1; clear hbox hb1 hg) | ((with_reducible refine gate_dst (N := 3) rfl ?_); refine box_event ?hg (N := 3) ?hd (cs := #[.slice B0 n0.length d0, .slice B1 n1.length d1, .slice B2 n2.length d2]) (t := 27) ?hr ?_; (case hd => rfl); (case hg => rfl); (case hr => first | (go_simp; done) | (go_simp; rfl)); intro gb hg w2 hbox hb1; have BB2 := Aside0.mk hbox; have BA2 := Aside0.mk (blk_below BA1.out hb1); have O2 := Aside0.mk (below_step O1.out hb1); clear hbox hb1 hg) | (go_at_call 11; refine (mb.shown11 _).mono ?_; rintro e_ w3 ⟨rfl, hb⟩; have BA3 := Aside0.mk (blk_below BA2.out hb); have BB3 := Aside0.mk (blk_below BB2.out hb); have O3 := Aside0.mk (below_step O2.out hb); clear hb; have z0 : w3.cell? ⟨ga, 0, none⟩ = some (.slice A0 m0.length c0) := (blk_cell BA3.out 0).trans rfl; have z1 : w3.cell? ⟨ga, 1, none⟩ = some (.slice A1 m1.length c1) := (blk_cell BA3.out 1).trans rfl; have z2 : w3.cell? ⟨ga, 2, none⟩ = some (.slice A2 m2.length c2) := (blk_cell BA3.out 2).trans rfl) | (go_at_call 12; clear tka; refine (EA.out _ O3.out).mono ?_; rintro e_ w4 ⟨va, rfl, hr, hb⟩; obtain ⟨Xa, qa, ea⟩ := Kd.R_slice hr; subst ea; have Ra := Aside0.mk hr; clear hr; have BA4 := Aside0.mk (blk_below BA3.out hb); have BB4 := Aside0.mk (blk_below BB3.out hb); have O4 := Aside0.mk (below_step O3.out hb); clear hb z0 z1 z2; have y0 : w4.cell? ⟨gb, 0, none⟩ = some (.slice B0 n0.length d0) := (blk_cell BB4.out 0).trans rfl; have y1 : w4.cell? ⟨gb, 1, none⟩ = some (.slice B1 n1.length d1) := (blk_cell BB4.out 1).trans rfl; have y2 : w4.cell? ⟨gb, 2, none⟩ = some (.slice B2 n2.length d2) := (blk_cell BB4.out 2).trans rfl) | (go_at_call 12; refine (EB.out _ O4.out).mono ?_; rintro e_ w5 ⟨vb, rfl, hr, hb⟩; obtain ⟨Xb, qb, eb⟩ := Kd.R_slice hr; subst eb; have Rb := Aside0.mk hr; clear hr; have BA5 := Aside0.mk (blk_below BA4.out hb); have BB5 := Aside0.mk (blk_below BB4.out hb); have O5 := Aside0.mk (below_step O4.out hb); have SA := Aside0.mk hb; clear hb y0 y1 y2))
      have CUT := cut_to (P := Try.prog) 29 5 .i64 Try.underlying29 hi0 Xb y.length qb (x.length : Int) (Int.natCast_nonneg _) (by have := HLE.out; omega) (Kd.R_reads' Rb.out).2.1
      rw [Int.toNat_natCast] at CUT
      have CA := Aside0.mk (Kd.C_below (Kd.R_reads' Ra.out).2.2 SA.out)
      have CB := Aside0.mk (Kd.C_take (Kd.R_reads' Rb.out).2.2 HLE.out)
      rw [HLL.out] at CB
      have SRA := Aside0.mk (fun (W : World) (hC : (Kd.int .u8).C W Xa x.length x) => Kd.C_string (P := Try.prog) (c := qa) Try.underlying29 Try.underlying5 Try.underlying9 hC)
      have SRB := Aside0.mk (fun (W : World) (hC : (Kd.int .u8).C W Xb x.length (y.take x.length)) => Kd.C_string (P := Try.prog) (c := qb) Try.underlying29 Try.underlying5 Try.underlying9 hC)
      have hsn := HSN.out
      clear HSN
      generalize strOfNums x = s1 at SRA hsn
      generalize strOfNums (y.take x.length) = s2 at SRB hsn
      have i3 : (s2.toList == s1.toList) = false := by simpa using fun h => hsn (toList_inj h)
      have i4 : decide (s2 = s1) = false := decide_eq_false hsn
      refine start_ (n := 16) (S := fun w' => (convert 29 9 (.slice Xb x.length qb)).run Try.prog w' = .ok (.string s2) w' ∧ (convert 29 9 (.slice Xa x.length qa)).run Try.prog w' = .ok (.string s1) w') (ds := []) #[false, false, false, false, false, false, false, false, false, false, false, false, false, false, false, false] (by kernel_rfl) rfl rfl ⟨SRB.out _ (Kd.C_drew CB.out), SRA.out _ (Kd.C_drew CA.out)⟩ (fun hHeld => ?_)
      generalize hwd : w5.drew = wd at hHeld ⊢
      have BAd := Aside0.mk (hwd ▸ blk_drew BA5.out)
      have BBd := Aside0.mk (hwd ▸ blk_drew BB5.out)
      have Od := Aside0.mk (hwd ▸ below_drew O5.out)
      clear hwd
      refine pure_ (i := 0) (N := some 29) (v := ?_) (a' := ?_) #[true, false, false, false, false, false, false, false, false, false, false, false, false, false, false, false] rfl rfl (by kernel_rfl) (fun _ _ _ h => h) (Or.inl ⟨by rfl, ?_⟩) ?_ ?_
      rotate_left
      · intro w'
        go_simp
        with_reducible rfl
      rotate_left
      · simp only [Act.put, List.setIfInBounds_toArray, List.set_cons_zero, List.set_cons_succ, i64_w, i32_w]
        rfl
      refine pure_ (i := 1) (N := some 30) (v := ?_) (a' := ?_) #[true, true, false, false, false, false, false, false, false, false, false, false, false, false, false, false] rfl rfl (by kernel_rfl) (fun _ _ _ h => h) (Or.inl ⟨by rfl, ?_⟩) ?_ ?_
      rotate_left
      · intro w'
        go_simp
        with_reducible rfl
      rotate_left
      · simp only [Act.put, List.setIfInBounds_toArray, List.set_cons_zero, List.set_cons_succ, i64_w, i32_w]
        rfl
      refine pure_ (i := 2) (N := some 31) (v := ?_) (a' := ?_) #[true, true, true, false, false, false, false, false, false, false, false, false, false, false, false, false] rfl rfl (by kernel_rfl) (fun _ _ _ h => h) (Or.inl ⟨by rfl, ?_⟩) ?_ ?_
      rotate_left
      · intro w'
        go_simp
        with_reducible rfl
      rotate_left
      · simp only [Act.put, List.setIfInBounds_toArray, List.set_cons_zero, List.set_cons_succ, i64_w, i32_w]
        rfl
      refine pure_ (i := 3) (N := some 32) (v := ?_) (a' := ?_) #[true, true, true, true, false, false, false, false, false, false, false, false, false, false, false, false] rfl rfl (by kernel_rfl) (fun _ _ _ h => h) (Or.inl ⟨by rfl, ?_⟩) ?_ ?_
      rotate_left
      · intro w'
        go_simp
        with_reducible rfl
      rotate_left
      · simp only [Act.put, List.setIfInBounds_toArray, List.set_cons_zero, List.set_cons_succ, i64_w, i32_w]
        rfl
      refine pure_ (i := 4) (N := some 33) (v := ?_) (a' := ?_) #[true, true, true, true, true, false, false, false, false, false, false, false, false, false, false, false] rfl rfl (by kernel_rfl) (fun _ _ _ h => h) (Or.inl ⟨by rfl, ?_⟩) ?_ ?_
      rotate_left
      · intro w'
        go_simp
        with_reducible rfl
      rotate_left
      · simp only [Act.put, List.setIfInBounds_toArray, List.set_cons_zero, List.set_cons_succ, i64_w, i32_w]
        rfl
      refine pure_ (i := 5) (N := some 34) (v := ?_) (a' := ?_) #[true, true, true, true, true, true, false, false, false, false, false, false, false, false, false, false] rfl rfl (by kernel_rfl) (fun _ _ _ h => h) (Or.inl ⟨by rfl, ?_⟩) ?_ ?_
      rotate_left
      · intro w'
        go_simp
        with_reducible rfl
      rotate_left
      · simp only [Act.put, List.setIfInBounds_toArray, List.set_cons_zero, List.set_cons_succ, i64_w, i32_w]
        rfl
      refine pure_ (i := 6) (N := some 35) (v := ?_) (a' := ?_) #[true, true, true, true, true, true, true, false, false, false, false, false, false, false, false, false] rfl rfl (by kernel_rfl) (fun _ _ _ h => h) (Or.inl ⟨by rfl, ?_⟩) ?_ ?_
      rotate_left
      · intro w'
        go_simp
        with_reducible rfl
      rotate_left
      · simp only [Act.put, List.setIfInBounds_toArray, List.set_cons_zero, List.set_cons_succ, i64_w, i32_w]
        rfl
      refine pure_ (i := 7) (N := some 36) (v := ?_) (a' := ?_) #[true, true, true, true, true, true, true, true, false, false, false, false, false, false, false, false] rfl rfl (by kernel_rfl) (fun _ _ _ h => h) (Or.inl ⟨by rfl, ?_⟩) ?_ ?_
      rotate_left
      · intro w'
        go_simp
        with_reducible rfl
      rotate_left
      · simp only [Act.put, List.setIfInBounds_toArray, List.set_cons_zero, List.set_cons_succ, i64_w, i32_w]
        rfl
      refine pure_ (i := 8) (N := some 37) (v := ?_) (a' := ?_) #[true, true, true, true, true, true, true, true, true, false, false, false, false, false, false, false] rfl rfl (by kernel_rfl) (fun _ _ _ h => h) (Or.inl ⟨by rfl, ?_⟩) ?_ ?_
      rotate_left
      · intro w'
        go_simp
        with_reducible rfl
      rotate_left
      · simp only [Act.put, List.setIfInBounds_toArray, List.set_cons_zero, List.set_cons_succ, i64_w, i32_w]
        rfl
      refine pure_ (i := 9) (N := some 38) (v := ?_) (a' := ?_) #[true, true, true, true, true, true, true, true, true, true, false, false, false, false, false, false] rfl rfl (by kernel_rfl) (fun _ _ _ h => h) (Or.inl ⟨by rfl, ?_⟩) ?_ ?_
      rotate_left
      · intro w'
        go_simp
        with_reducible rfl
      rotate_left
      · simp only [Act.put, List.setIfInBounds_toArray, List.set_cons_zero, List.set_cons_succ, i64_w, i32_w]
        rfl
      refine pure_ (i := 11) (N := some 40) (v := ?_) (a' := ?_) #[true, true, true, true, true, true, true, true, true, true, false, true, false, false, false, false] rfl rfl (by kernel_rfl) (fun _ _ _ h => h) (Or.inl ⟨by rfl, ?_⟩) ?_ ?_
      rotate_left
      · intro w'
        go_simp
        with_reducible rfl
      rotate_left
      · simp only [Act.put, List.setIfInBounds_toArray, List.set_cons_zero, List.set_cons_succ, i64_w, i32_w]
        rfl
      refine take_ (i := 10) (N := some 39) (v := ?_) (a' := ?_) #[true, true, true, true, true, true, true, true, true, true, true, true, false, false, false, false] rfl rfl (by kernel_rfl) (fun _ _ _ h => h) (Or.inl ⟨by rfl, ?_⟩) hHeld ?_ ?_
      rotate_left
      · rintro w' ⟨s0, s1⟩
        go_simp
        with_reducible rfl
      rotate_left
      · simp only [Act.put, List.setIfInBounds_toArray, List.set_cons_zero, List.set_cons_succ, i64_w, i32_w]
        rfl
      refine take_ (i := 12) (N := some 41) (v := ?_) (a' := ?_) #[true, true, true, true, true, true, true, true, true, true, true, true, true, false, false, false] rfl rfl (by kernel_rfl) (fun _ _ _ h => h) (Or.inl ⟨by rfl, ?_⟩) hHeld ?_ ?_
      rotate_left
      · rintro w' ⟨s0, s1⟩
        go_simp
        with_reducible rfl
      rotate_left
      · simp only [Act.put, List.setIfInBounds_toArray, List.set_cons_zero, List.set_cons_succ, i64_w, i32_w]
        rfl
      refine pure_ (i := 13) (N := some 42) (v := ?_) (a' := ?_) #[true, true, true, true, true, true, true, true, true, true, true, true, true, true, false, false] rfl rfl (by kernel_rfl) (fun _ _ _ h => h) (Or.inl ⟨by rfl, ?_⟩) ?_ ?_
      rotate_left
      · intro w'
        go_simp
        with_reducible rfl
      rotate_left
      · simp only [Act.put, List.setIfInBounds_toArray, List.set_cons_zero, List.set_cons_succ, i64_w, i32_w]
        rfl
      refine pure_ (i := 14) (N := some 43) (v := ?_) (a' := ?_) #[true, true, true, true, true, true, true, true, true, true, true, true, true, true, true, false] rfl rfl (by kernel_rfl) (fun _ _ _ h => h) (Or.inl ⟨by rfl, ?_⟩) ?_ ?_
      rotate_left
      · intro w'
        go_simp
        with_reducible rfl
      rotate_left
      · simp only [Act.put, List.setIfInBounds_toArray, List.set_cons_zero, List.set_cons_succ, i64_w, i32_w]
        rfl
      refine pure_ (i := 15) (N := some 10) (v := ?_) (a' := ?_) #[true, true, true, true, true, true, true, true, true, true, true, true, true, true, true, true] rfl rfl (by kernel_rfl) (fun _ _ _ h => h) (Or.inl ⟨by rfl, ?_⟩) ?_ ?_
      rotate_left
      · intro w'
        go_simp
        with_reducible rfl
      rotate_left
      · simp only [Act.put, List.setIfInBounds_toArray, List.set_cons_zero, List.set_cons_succ, i64_w, i32_w]
        rfl
      refine done_ (by kernel_rfl) ?_
      have z0 : wd.cell? ⟨ga, 0, none⟩ = some (.slice A0 m0.length c0) := (blk_cell BAd.out 0).trans rfl
      have z1 : wd.cell? ⟨ga, 1, none⟩ = some (.slice A1 m1.length c1) := (blk_cell BAd.out 1).trans rfl
      have z2 : wd.cell? ⟨ga, 2, none⟩ = some (.slice A2 m2.length c2) := (blk_cell BAd.out 2).trans rfl
      have y0 : wd.cell? ⟨gb, 0, none⟩ = some (.slice B0 n0.length d0) := (blk_cell BBd.out 0).trans rfl
      have y1 : wd.cell? ⟨gb, 1, none⟩ = some (.slice B1 n1.length d1) := (blk_cell BBd.out 1).trans rfl
      have y2 : wd.cell? ⟨gb, 2, none⟩ = some (.slice B2 n2.length d2) := (blk_cell BBd.out 2).trans rfl
      go_wp2_with (first | (go_at_call 13; refine (SM.out _ Od.out).mono ?_; rintro e_ w7 ⟨rfl, hb⟩; have O7 := Aside0.mk (below_step Od.out hb); clear hb z0 z1 z2 y0 y1 y2))
      go_ret
      exact ⟨rfl, O7.out⟩
    · clear hns EQ HT IFF
      have i1 : decide ((x.length : Int) ≤ (y.length : Int)) = false := decide_eq_false (by omega)
      have i2 : decide (x.length ≤ y.length) = false := decide_eq_false (by omega)
      clear hle
      go_enter Try.func4, Try.ntmps4
      have tka := Aside0.mk True.intro
      go_wp2_with (first | ((with_reducible refine gate_dst (N := 2) rfl ?_); refine box_event ?hg (N := 2) ?hd (cs := #[.slice A0 m0.length c0, .slice A1 m1.length c1, .slice A2 m2.length c2]) (t := 27) ?hr ?_; (case hd => rfl); (case hg => rfl); (case hr => first | (go_simp; done) | (go_simp; rfl)); intro ga hg w1 hbox hb1; have BA1 := Aside0.mk hbox; have O1 := Aside0.mk hb1; clear hbox hb1 hg) | ((with_reducible refine gate_dst (N := 3) rfl ?_); refine box_event ?hg (N := 3) ?hd (cs := #[.slice B0 n0.length d0, .slice B1 n1.length d1, .slice B2 n2.length d2]) (t := 27) ?hr ?_; (case hd => rfl); (case hg => rfl); (case hr => first | (go_simp; done) | (go_simp; rfl)); intro gb hg w2 hbox hb1; have BB2 := Aside0.mk hbox; have BA2 := Aside0.mk (blk_below BA1.out hb1); have O2 := Aside0.mk (below_step O1.out hb1); clear hbox hb1 hg) | (go_at_call 11; refine (mb.shown11 _).mono ?_; rintro e_ w3 ⟨rfl, hb⟩; have BA3 := Aside0.mk (blk_below BA2.out hb); have BB3 := Aside0.mk (blk_below BB2.out hb); have O3 := Aside0.mk (below_step O2.out hb); clear hb; have z0 : w3.cell? ⟨ga, 0, none⟩ = some (.slice A0 m0.length c0) := (blk_cell BA3.out 0).trans rfl; have z1 : w3.cell? ⟨ga, 1, none⟩ = some (.slice A1 m1.length c1) := (blk_cell BA3.out 1).trans rfl; have z2 : w3.cell? ⟨ga, 2, none⟩ = some (.slice A2 m2.length c2) := (blk_cell BA3.out 2).trans rfl) | (go_at_call 12; clear tka; refine (EA.out _ O3.out).mono ?_; rintro e_ w4 ⟨va, rfl, hr, hb⟩; obtain ⟨Xa, qa, ea⟩ := Kd.R_slice hr; subst ea; have Ra := Aside0.mk hr; clear hr; have BA4 := Aside0.mk (blk_below BA3.out hb); have BB4 := Aside0.mk (blk_below BB3.out hb); have O4 := Aside0.mk (below_step O3.out hb); clear hb z0 z1 z2; have y0 : w4.cell? ⟨gb, 0, none⟩ = some (.slice B0 n0.length d0) := (blk_cell BB4.out 0).trans rfl; have y1 : w4.cell? ⟨gb, 1, none⟩ = some (.slice B1 n1.length d1) := (blk_cell BB4.out 1).trans rfl; have y2 : w4.cell? ⟨gb, 2, none⟩ = some (.slice B2 n2.length d2) := (blk_cell BB4.out 2).trans rfl) | (go_at_call 12; refine (EB.out _ O4.out).mono ?_; rintro e_ w5 ⟨vb, rfl, hr, hb⟩; obtain ⟨Xb, qb, eb⟩ := Kd.R_slice hr; subst eb; have Rb := Aside0.mk hr; clear hr; have BA5 := Aside0.mk (blk_below BA4.out hb); have BB5 := Aside0.mk (blk_below BB4.out hb); have O5 := Aside0.mk (below_step O4.out hb); have SA := Aside0.mk hb; clear hb y0 y1 y2))
      refine start_ (n := 16) (S := fun w' => True) (ds := []) #[false, false, false, false, false, false, false, false, false, false, false, false, false, false, false, false] (by kernel_rfl) rfl rfl trivial (fun hHeld => ?_)
      generalize hwd : w5.drew = wd at hHeld ⊢
      have BAd := Aside0.mk (hwd ▸ blk_drew BA5.out)
      have BBd := Aside0.mk (hwd ▸ blk_drew BB5.out)
      have Od := Aside0.mk (hwd ▸ below_drew O5.out)
      clear hwd
      refine pure_ (i := 0) (N := some 29) (v := ?_) (a' := ?_) #[true, false, false, false, false, false, false, false, false, false, false, false, false, false, false, false] rfl rfl (by kernel_rfl) (fun _ _ _ h => h) (Or.inl ⟨by rfl, ?_⟩) ?_ ?_
      rotate_left
      · intro w'
        go_simp
        with_reducible rfl
      rotate_left
      · simp only [Act.put, List.setIfInBounds_toArray, List.set_cons_zero, List.set_cons_succ, i64_w, i32_w]
        rfl
      refine pure_ (i := 1) (N := some 30) (v := ?_) (a' := ?_) #[true, true, false, false, false, false, false, false, false, false, false, false, false, false, false, false] rfl rfl (by kernel_rfl) (fun _ _ _ h => h) (Or.inl ⟨by rfl, ?_⟩) ?_ ?_
      rotate_left
      · intro w'
        go_simp
        with_reducible rfl
      rotate_left
      · simp only [Act.put, List.setIfInBounds_toArray, List.set_cons_zero, List.set_cons_succ, i64_w, i32_w]
        rfl
      refine pure_ (i := 2) (N := some 31) (v := ?_) (a' := ?_) #[true, true, true, false, false, false, false, false, false, false, false, false, false, false, false, false] rfl rfl (by kernel_rfl) (fun _ _ _ h => h) (Or.inl ⟨by rfl, ?_⟩) ?_ ?_
      rotate_left
      · intro w'
        go_simp
        with_reducible rfl
      rotate_left
      · simp only [Act.put, List.setIfInBounds_toArray, List.set_cons_zero, List.set_cons_succ, i64_w, i32_w]
        rfl
      refine pure_ (i := 3) (N := some 32) (v := ?_) (a' := ?_) #[true, true, true, true, false, false, false, false, false, false, false, false, false, false, false, false] rfl rfl (by kernel_rfl) (fun _ _ _ h => h) (Or.inl ⟨by rfl, ?_⟩) ?_ ?_
      rotate_left
      · intro w'
        go_simp
        with_reducible rfl
      rotate_left
      · simp only [Act.put, List.setIfInBounds_toArray, List.set_cons_zero, List.set_cons_succ, i64_w, i32_w]
        rfl
      refine pure_ (i := 4) (N := some 33) (v := ?_) (a' := ?_) #[true, true, true, true, true, false, false, false, false, false, false, false, false, false, false, false] rfl rfl (by kernel_rfl) (fun _ _ _ h => h) (Or.inl ⟨by rfl, ?_⟩) ?_ ?_
      rotate_left
      · intro w'
        go_simp
        with_reducible rfl
      rotate_left
      · simp only [Act.put, List.setIfInBounds_toArray, List.set_cons_zero, List.set_cons_succ, i64_w, i32_w]
        rfl
      refine pure_ (i := 5) (N := some 34) (v := ?_) (a' := ?_) #[true, true, true, true, true, true, false, false, false, false, false, false, false, false, false, false] rfl rfl (by kernel_rfl) (fun _ _ _ h => h) (Or.inl ⟨by rfl, ?_⟩) ?_ ?_
      rotate_left
      · intro w'
        go_simp
        with_reducible rfl
      rotate_left
      · simp only [Act.put, List.setIfInBounds_toArray, List.set_cons_zero, List.set_cons_succ, i64_w, i32_w]
        rfl
      refine pure_ (i := 6) (N := some 35) (v := undef) (a' := ?_) #[true, true, true, true, true, true, true, false, false, false, false, false, false, false, false, false] rfl rfl (by kernel_rfl) (fun _ _ _ h => h) (Or.inr ⟨by rfl, rfl⟩) ?_ ?_
      rotate_left
      · simp only [Act.put, List.setIfInBounds_toArray, List.set_cons_zero, List.set_cons_succ, i64_w, i32_w]
        rfl
      refine pure_ (i := 7) (N := some 36) (v := undef) (a' := ?_) #[true, true, true, true, true, true, true, true, false, false, false, false, false, false, false, false] rfl rfl (by kernel_rfl) (fun _ _ _ h => h) (Or.inr ⟨by rfl, rfl⟩) ?_ ?_
      rotate_left
      · simp only [Act.put, List.setIfInBounds_toArray, List.set_cons_zero, List.set_cons_succ, i64_w, i32_w]
        rfl
      refine pure_ (i := 8) (N := some 37) (v := undef) (a' := ?_) #[true, true, true, true, true, true, true, true, true, false, false, false, false, false, false, false] rfl rfl (by kernel_rfl) (fun _ _ _ h => h) (Or.inr ⟨by rfl, rfl⟩) ?_ ?_
      rotate_left
      · simp only [Act.put, List.setIfInBounds_toArray, List.set_cons_zero, List.set_cons_succ, i64_w, i32_w]
        rfl
      refine pure_ (i := 9) (N := some 38) (v := undef) (a' := ?_) #[true, true, true, true, true, true, true, true, true, true, false, false, false, false, false, false] rfl rfl (by kernel_rfl) (fun _ _ _ h => h) (Or.inr ⟨by rfl, rfl⟩) ?_ ?_
      rotate_left
      · simp only [Act.put, List.setIfInBounds_toArray, List.set_cons_zero, List.set_cons_succ, i64_w, i32_w]
        rfl
      refine pure_ (i := 10) (N := some 39) (v := undef) (a' := ?_) #[true, true, true, true, true, true, true, true, true, true, true, false, false, false, false, false] rfl rfl (by kernel_rfl) (fun _ _ _ h => h) (Or.inr ⟨by rfl, rfl⟩) ?_ ?_
      rotate_left
      · simp only [Act.put, List.setIfInBounds_toArray, List.set_cons_zero, List.set_cons_succ, i64_w, i32_w]
        rfl
      refine pure_ (i := 11) (N := some 40) (v := undef) (a' := ?_) #[true, true, true, true, true, true, true, true, true, true, true, true, false, false, false, false] rfl rfl (by kernel_rfl) (fun _ _ _ h => h) (Or.inr ⟨by rfl, rfl⟩) ?_ ?_
      rotate_left
      · simp only [Act.put, List.setIfInBounds_toArray, List.set_cons_zero, List.set_cons_succ, i64_w, i32_w]
        rfl
      refine pure_ (i := 12) (N := some 41) (v := undef) (a' := ?_) #[true, true, true, true, true, true, true, true, true, true, true, true, true, false, false, false] rfl rfl (by kernel_rfl) (fun _ _ _ h => h) (Or.inr ⟨by rfl, rfl⟩) ?_ ?_
      rotate_left
      · simp only [Act.put, List.setIfInBounds_toArray, List.set_cons_zero, List.set_cons_succ, i64_w, i32_w]
        rfl
      refine pure_ (i := 13) (N := some 42) (v := undef) (a' := ?_) #[true, true, true, true, true, true, true, true, true, true, true, true, true, true, false, false] rfl rfl (by kernel_rfl) (fun _ _ _ h => h) (Or.inr ⟨by rfl, rfl⟩) ?_ ?_
      rotate_left
      · simp only [Act.put, List.setIfInBounds_toArray, List.set_cons_zero, List.set_cons_succ, i64_w, i32_w]
        rfl
      refine pure_ (i := 14) (N := some 43) (v := ?_) (a' := ?_) #[true, true, true, true, true, true, true, true, true, true, true, true, true, true, true, false] rfl rfl (by kernel_rfl) (fun _ _ _ h => h) (Or.inl ⟨by rfl, ?_⟩) ?_ ?_
      rotate_left
      · intro w'
        go_simp
        with_reducible rfl
      rotate_left
      · simp only [Act.put, List.setIfInBounds_toArray, List.set_cons_zero, List.set_cons_succ, i64_w, i32_w]
        rfl
      refine pure_ (i := 15) (N := some 10) (v := ?_) (a' := ?_) #[true, true, true, true, true, true, true, true, true, true, true, true, true, true, true, true] rfl rfl (by kernel_rfl) (fun _ _ _ h => h) (Or.inl ⟨by rfl, ?_⟩) ?_ ?_
      rotate_left
      · intro w'
        go_simp
        with_reducible rfl
      rotate_left
      · simp only [Act.put, List.setIfInBounds_toArray, List.set_cons_zero, List.set_cons_succ, i64_w, i32_w]
        rfl
      refine done_ (by kernel_rfl) ?_
      have z0 : wd.cell? ⟨ga, 0, none⟩ = some (.slice A0 m0.length c0) := (blk_cell BAd.out 0).trans rfl
      have z1 : wd.cell? ⟨ga, 1, none⟩ = some (.slice A1 m1.length c1) := (blk_cell BAd.out 1).trans rfl
      have z2 : wd.cell? ⟨ga, 2, none⟩ = some (.slice A2 m2.length c2) := (blk_cell BAd.out 2).trans rfl
      have y0 : wd.cell? ⟨gb, 0, none⟩ = some (.slice B0 n0.length d0) := (blk_cell BBd.out 0).trans rfl
      have y1 : wd.cell? ⟨gb, 1, none⟩ = some (.slice B1 n1.length d1) := (blk_cell BBd.out 1).trans rfl
      have y2 : wd.cell? ⟨gb, 2, none⟩ = some (.slice B2 n2.length d2) := (blk_cell BBd.out 2).trans rfl
      go_wp2_with (first | (go_at_call 13; refine (SM.out _ Od.out).mono ?_; rintro e_ w7 ⟨rfl, hb⟩; have O7 := Aside0.mk (below_step Od.out hb); clear hb z0 z1 z2 y0 y1 y2))
      go_ret
      exact ⟨rfl, O7.out⟩
end
end Go.Proofs.Ytmehfnikecmiiaa.X
