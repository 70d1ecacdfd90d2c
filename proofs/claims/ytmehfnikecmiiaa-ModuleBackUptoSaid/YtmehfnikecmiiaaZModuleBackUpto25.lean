import Derived.Test.YtmehfnikecmiiaaZModuleBackUpto3
import Derived.Test.YtmehfnikecmiiaaZModuleBackUpto23
import Derived.Test.YtmehfnikecmiiaaZModuleBackUpto24
set_option linter.unusedVariables false
set_option linter.unusedSimpArgs false
namespace Go.Proofs.Ytmehfnikecmiiaa.X
open Go.RowKit Go.Proofs.YtmehfnikecmiiaaW.PrintWords Go.Proofs.YtmehfnikecmiiaaW.PrintLast Go.Proofs.YtmehfnikecmiiaaW.PrintMore Go.Proofs.YtmehfnikecmiiaaW
attribute [local go_sem] qBF qBE qBY qBX qA9 qA8 qBI qBH
attribute [local go_sem high] eqA52 eqA56
mutual
def qAD.j0:Nat→Bool→List (S48)→List (S52)→List (S56)→List (S48)→List (S52)→List (S56)→Option (Bool)
 | 0,_,_,_,_,_,_,_=>none
 | k+1,x33,x170000,x170001,x170002,x171000,x171001,x171002=>if x33=true then (some false) else (qAD.l0 k 0 x170000 x170001 x170002 x171000 x171001 x171002)
def qAD.l0:Nat→Int→List (S48)→List (S52)→List (S56)→List (S48)→List (S52)→List (S56)→Option (Bool)
 | 0,_,_,_,_,_,_,_=>none
 | k+1,x5,x170000,x170001,x170002,x171000,x171001,x171002=>if x5 < (x170000.length:Int) then (if 0≤x5 then (if x5 < (x171000.length:Int) then ((qAG.f k ((qAO x170000 x5).f0) ((qAO x170000 x5).f1) ((qAO x170000 x5).f2) ((qAO x170000 x5).f3) ((qAO x170000 x5).f4) ((qAO x171000 x5).f0) ((qAO x171000 x5).f1) ((qAO x171000 x5).f2) ((qAO x171000 x5).f3) ((qAO x171000 x5).f4)).bind fun t173=>(if t173=true then (qAD.l0 k (wrap64 (x5+1)) x170000 x170001 x170002 x171000 x171001 x171002) else (some false))) else (none)) else (none)) else (qAD.l1 k 0 x170000 x170001 x170002 x171000 x171001 x171002)
def qAD.l1:Nat→Int→List (S48)→List (S52)→List (S56)→List (S48)→List (S52)→List (S56)→Option (Bool)
 | 0,_,_,_,_,_,_,_=>none
 | k+1,x7,x170000,x170001,x170002,x171000,x171001,x171002=>if x7 < (x170001.length:Int) then (if 0≤x7 then (if x7 < (x171001.length:Int) then (if (!(((qAp x170001 x7).f0) == ((qAp x171001 x7).f0)) || (!(((qAp x170001 x7).f1) == ((qAp x171001 x7).f1)) || (!(((qAp x170001 x7).f2) == ((qAp x171001 x7).f2)) || (!((((qAp x170001 x7).f3).toList) == (((qAp x171001 x7).f3).toList))))))=true then (some false) else (qAD.l1 k (wrap64 (x7+1)) x170000 x170001 x170002 x171000 x171001 x171002)) else (none)) else (none)) else (qAD.l2 k 0 x170000 x170001 x170002 x171000 x171001 x171002)
def qAD.l2:Nat→Int→List (S48)→List (S52)→List (S56)→List (S48)→List (S52)→List (S56)→Option (Bool)
 | 0,_,_,_,_,_,_,_=>none
 | k+1,x8,x170000,x170001,x170002,x171000,x171001,x171002=>if x8 < (x170002.length:Int) then (if 0≤x8 then (if x8 < (x171002.length:Int) then (if (!((((qAy x170002 x8).f0).toList) == (((qAy x171002 x8).f0).toList)) || (!(((qAy x170002 x8).f1) == ((qAy x171002 x8).f1))))=true then (some false) else (qAD.l2 k (wrap64 (x8+1)) x170000 x170001 x170002 x171000 x171001 x171002)) else (none)) else (none)) else (some true)
end
def qAD.f (k:Nat) (l0_0:List (S48)) (l0_1:List (S52)) (l0_2:List (S56)) (l1_0:List (S48)) (l1_1:List (S52)) (l1_2:List (S56)):Option (Bool):=if (l0_0.length:Int)=(l1_0.length:Int) then (if (l0_1.length:Int)=(l1_1.length:Int) then (qAD.j0 k ((l0_2.length:Int) != (l1_2.length:Int)) l0_0 l0_1 l0_2 l1_0 l1_1 l1_2) else (qAD.j0 k true l0_0 l0_1 l0_2 l1_0 l1_1 l1_2)) else (qAD.j0 k true l0_0 l0_1 l0_2 l1_0 l1_1 l1_2)
def qAD.T6:Bool × List (List Nat × List Nat):=(true,[([],[]),([0],[0]),([],[]),([1,2],[1,2]),([3],[3]),([],[]),([5],[5]),([],[]),([6,7],[6,7]),([8],[8]),([4,9],[4,9]),([10,10,0,1,2,3,4,5,6,7,8,9,10],[10])])
def qAD.B6:List Nat:=[0,1,0,7,15,0,32,0,224,480,1023,2047]
theorem qAD.tab6:rtab .any (opsOf Try.f13 6)=qAD.T6:=by kernel_rfl
theorem qAD.bits6:qCS qAD.T6.2 qAD.B6=true:=by kernel_rfl
def qAD.T12:Bool × List (List Nat × List Nat):=(true,[([],[]),([0],[0]),([],[]),([1,2],[1,2]),([3],[3]),([],[]),([5],[5]),([],[]),([6,7],[6,7]),([8],[8]),([4,9],[4,9])])
def qAD.B12:List Nat:=[0,1,0,7,15,0,32,0,224,480,1023]
theorem qAD.tab12:rtab .any (opsOf Try.f13 12)=qAD.T12:=by kernel_rfl
theorem qAD.bits12:qCS qAD.T12.2 qAD.B12=true:=by kernel_rfl
def qAD.T17:Bool × List (List Nat × List Nat):=(true,[([],[]),([0],[0]),([],[]),([1,2],[1,2]),([3],[3]),([],[]),([5],[5]),([],[]),([6,7],[6,7]),([8],[8]),([4,9],[4,9])])
def qAD.B17:List Nat:=[0,1,0,7,15,0,32,0,224,480,1023]
theorem qAD.tab17:rtab .any (opsOf Try.f13 17)=qAD.T17:=by kernel_rfl
theorem qAD.bits17:qCS qAD.T17.2 qAD.B17=true:=by kernel_rfl
set_option maxHeartbeats 8000000 in
set_option maxRecDepth 100000 in
theorem qAD.calls (k:Nat) (A0_0:Option Addr) (c0_0:Nat) (l0_0:List (S48)) (A0_1:Option Addr) (c0_1:Nat) (l0_1:List (S52)) (A0_2:Option Addr) (c0_2:Nat) (l0_2:List (S56)) (A1_0:Option Addr) (c1_0:Nat) (l1_0:List (S48)) (A1_1:Option Addr) (c1_1:Nat) (l1_1:List (S52)) (A1_2:Option Addr) (c1_2:Nat) (l1_2:List (S56)) (r:Bool) (w:World) (hr0_0:Kd.C k48 w A0_0 l0_0.length l0_0) (hc0_0:l0_0.length≤c0_0) (hr0_1:Kd.C k52 w A0_1 l0_1.length l0_1) (hc0_1:l0_1.length≤c0_1) (hr0_2:Kd.C k56 w A0_2 l0_2.length l0_2) (hc0_2:l0_2.length≤c0_2) (hr1_0:Kd.C k48 w A1_0 l1_0.length l1_0) (hc1_0:l1_0.length≤c1_0) (hr1_1:Kd.C k52 w A1_1 l1_1.length l1_1) (hc1_1:l1_1.length≤c1_1) (hr1_2:Kd.C k56 w A1_2 l1_2.length l1_2) (hc1_2:l1_2.length≤c1_2) (h:qAD.f k l0_0 l0_1 l0_2 l1_0 l1_1 l1_2=some r) :
  Calls Try.prog 13 #[.agg #[.slice A0_0 l0_0.length c0_0,.slice A0_1 l0_1.length c0_1,.slice A0_2 l0_2.length c0_2],.agg #[.slice A1_0 l1_0.length c1_0,.slice A1_1 l1_1.length c1_1,.slice A1_2 l1_2.length c1_2]] w fun e w'=>e=.returned (.bool r)∧Below w.heap.size w w':=by
 have hu27:=Try.underlying27
 have hu48:=Try.underlying48
 have hu52:=Try.underlying52
 have hu56:=Try.underlying56
 have HR0_0:=qAA.mk hr0_0
 have HC0_0:=qAA.mk hc0_0
 clear hr0_0 hc0_0
 have HR0_1:=qAA.mk hr0_1
 have HC0_1:=qAA.mk hc0_1
 clear hr0_1 hc0_1
 have HR0_2:=qAA.mk hr0_2
 have HC0_2:=qAA.mk hc0_2
 clear hr0_2 hc0_2
 have HR1_0:=qAA.mk hr1_0
 have HC1_0:=qAA.mk hc1_0
 clear hr1_0 hc1_0
 have HR1_1:=qAA.mk hr1_1
 have HC1_1:=qAA.mk hc1_1
 clear hr1_1 hc1_1
 have HR1_2:=qAA.mk hr1_2
 have HC1_2:=qAA.mk hc1_2
 clear hr1_2 hc1_2
 have HB:=qAA.mk (Below.refl w.heap.size w)
 have H:(if (l0_0.length:Int)=(l1_0.length:Int) then (if (l0_1.length:Int)=(l1_1.length:Int) then (qAD.j0 k ((l0_2.length:Int) != (l1_2.length:Int)) l0_0 l0_1 l0_2 l1_0 l1_1 l1_2) else (qAD.j0 k true l0_0 l0_1 l0_2 l1_0 l1_1 l1_2)) else (qAD.j0 k true l0_0 l0_1 l0_2 l1_0 l1_1 l1_2))=some r:=h
 clear h
 have HC3:=qAA.mk H
 clear H
 go_enter Try.func13,Try.ntmps13
 go_upto_region 1 with (first | ((with_reducible refine qAr (N:=2) rfl ?_);(try (refine gate_guard (by rfl) ?_;dsimp only));refine qAk ?hg (N:=2) ?hd (cs:=#[.slice A0_0 l0_0.length c0_0,.slice A0_1 l0_1.length c0_1,.slice A0_2 l0_2.length c0_2]) (t:=27) ?hr ?_;(case hd=>rfl);(case hg=>rfl);(case hr=>first | (go_simp;done) | (go_simp;rfl));intro gb169 hg w4 hbox hb;have n0_:=qAA.mk (qAV (by repeat (first | (with_reducible first | exact HB.out | apply qAH | apply qAI | apply qAN) | exact HB.out)) hb);have n1_:=qAA.mk (hbox);have n2_:=qAA.mk ((by rw [hg];exact (qAw (by repeat (first | (with_reducible first | exact HB.out | apply qAH | apply qAI | apply qAN) | exact HB.out))):w.heap.size≤gb169));have n3_:=qAA.mk ((by rw [hg];exact (qAw (by repeat (first | (with_reducible first | exact HB.out | apply qAH | apply qAI | apply qAN) | exact HB.out))):w.heap.size≤gb169));clear HB;have HB:=n0_;have BK169:=n1_;have GW169:=n2_;have GE169:=n3_;clear n0_ n1_ n2_ n3_;clear hb hbox hg) | ((with_reducible refine qAr (N:=3) rfl ?_);(try (refine gate_guard (by rfl) ?_;dsimp only));refine qAk ?hg (N:=3) ?hd (cs:=#[.slice A1_0 l1_0.length c1_0,.slice A1_1 l1_1.length c1_1,.slice A1_2 l1_2.length c1_2]) (t:=27) ?hr ?_;(case hd=>rfl);(case hg=>rfl);(case hr=>first | (go_simp;done) | (go_simp;rfl));intro gb170 hg w5 hbox hb;have n0_:=qAA.mk (qAL (g:=gb169) (o:=.cells #[.slice A0_0 l0_0.length c0_0,.slice A0_1 l0_1.length c0_1,.slice A0_2 l0_2.length c0_2] 27 (0,0)) (by (with_reducible repeat (first | refine qAY ?_ _ | refine qAJ ?_ | refine qAK ?_ _));exact BK169.out) hb);have n1_:=qAA.mk (qAV (by repeat (first | (with_reducible first | exact HB.out | apply qAH | apply qAI | apply qAN | refine qAQ ?_ GE169.out) | exact HB.out)) hb);have n2_:=qAA.mk (hbox);have n3_:=qAA.mk ((by rw [hg];exact (qAw (by repeat (first | (with_reducible first | exact HB.out | apply qAH | apply qAI | apply qAN | refine qAQ ?_ GE169.out) | exact HB.out))):w.heap.size≤gb170));have n4_:=qAA.mk ((by rw [hg];exact (qAw (by repeat (first | (with_reducible first | exact HB.out | apply qAH | apply qAI | apply qAN | refine qAQ ?_ GE169.out) | exact HB.out))):w.heap.size≤gb170));have n5_:=qAA.mk ((by rw [hg];exact Nat.ne_of_lt (qAX (g:=gb169) (o:=.cells #[.slice A0_0 l0_0.length c0_0,.slice A0_1 l0_1.length c0_1,.slice A0_2 l0_2.length c0_2] 27 (0,0)) (by (with_reducible repeat (first | refine qAY ?_ _ | refine qAJ ?_ | refine qAK ?_ _));exact BK169.out)):gb169 ≠ gb170));have n6_:=qAA.mk ((by rw [hg];exact Nat.ne_of_gt (qAX (g:=gb169) (o:=.cells #[.slice A0_0 l0_0.length c0_0,.slice A0_1 l0_1.length c0_1,.slice A0_2 l0_2.length c0_2] 27 (0,0)) (by (with_reducible repeat (first | refine qAY ?_ _ | refine qAJ ?_ | refine qAK ?_ _));exact BK169.out)):gb170 ≠ gb169));clear BK169;clear HB;have BK169:=n0_;have HB:=n1_;have BK170:=n2_;have GW170:=n3_;have GE170:=n4_;have NB169_170:=n5_;have NB170_169:=n6_;clear n0_ n1_ n2_ n3_ n4_ n5_ n6_;clear hb hbox hg))
 (try simp only [Act.put,qs1,qs2,qs3])
 go_cut [33] (fun v33 wc=>∃ (kq:Nat) (x33_2:Bool),v33=.bool x33_2∧qAA (qAD.j0 kq x33_2 l0_0 l0_1 l0_2 l1_0 l1_1 l1_2=some r)∧qAA (kq≤k)∧qAA (wc.heap[gb169]?=some (.cells #[(.slice A0_0 l0_0.length c0_0),(.slice A0_1 l0_1.length c0_1),(.slice A0_2 l0_2.length c0_2)] 27 (0,0)))∧qAA (wc.heap[gb170]?=some (.cells #[(.slice A1_0 l1_0.length c1_0),(.slice A1_1 l1_1.length c1_1),(.slice A1_2 l1_2.length c1_2)] 27 (0,0)))∧qAA (Below w.heap.size w wc))
 case first =>
  have H:=HC3.out
  clear HC3
  by_cases c6:(l0_0.length:Int)=(l1_0.length:Int)
  ·rw [if_pos c6] at H
   have c6b0:((l0_0.length:Int) == (l1_0.length:Int))=true:=beq_iff_eq.mpr c6
   have c6b1:((l0_0.length:Int) != (l1_0.length:Int))=false:=bne_eq_false_iff_eq.mpr c6
   have c6b2:(l0_0.length == l1_0.length)=true:=by first | simpa using c6 | (simp at c6 ⊢;omega)
   clear c6
   (first | rw [c6b0] | (simp only [qAR,qAT];rw [c6b0]) | rw [c6b1] | (simp only [qAR,qAT];rw [c6b1]) | skip)
   by_cases c7:(l0_1.length:Int)=(l1_1.length:Int)
   ·rw [if_pos c7] at H
    have c7b0:((l0_1.length:Int) == (l1_1.length:Int))=true:=beq_iff_eq.mpr c7
    have c7b1:((l0_1.length:Int) != (l1_1.length:Int))=false:=bne_eq_false_iff_eq.mpr c7
    have c7b2:(l0_1.length == l1_1.length)=true:=by first | simpa using c7 | (simp at c7 ⊢;omega)
    clear c7
    have H':=qAA.mk H
    clear H
    have hnb8:=NB169_170.out
    have hnc8:=NB170_169.out
    have hcz9_0:w5.cell? ⟨gb169,0,none⟩=some (.slice A0_0 l0_0.length c0_0):=(qAB BK169.out 0).trans rfl
    have hcz9_1:w5.cell? ⟨gb169,1,none⟩=some (.slice A0_1 l0_1.length c0_1):=(qAB BK169.out 1).trans rfl
    have hcz9_2:w5.cell? ⟨gb169,2,none⟩=some (.slice A0_2 l0_2.length c0_2):=(qAB BK169.out 2).trans rfl
    have hfz9_0:=qAC BK169.out 0
    have hfz9_1:=qAC BK169.out 1
    have hfz9_2:=qAC BK169.out 2
    have hcz10_0:w5.cell? ⟨gb170,0,none⟩=some (.slice A1_0 l1_0.length c1_0):=(qAB BK170.out 0).trans rfl
    have hcz10_1:w5.cell? ⟨gb170,1,none⟩=some (.slice A1_1 l1_1.length c1_1):=(qAB BK170.out 1).trans rfl
    have hcz10_2:w5.cell? ⟨gb170,2,none⟩=some (.slice A1_2 l1_2.length c1_2):=(qAB BK170.out 2).trans rfl
    have hfz10_0:=qAC BK170.out 0
    have hfz10_1:=qAC BK170.out 1
    have hfz10_2:=qAC BK170.out 2
    go_wp2
    go_meet
    case rel=>exact ⟨_,(((l0_2.length:Int) != (l1_2.length:Int))),(by first | rfl | (simp;done) | (simp [*];done)),H',⟨by first | omega | exact Nat.le_refl _⟩,⟨by (with_reducible repeat (first | refine qAY ?_ _ | refine qAJ ?_ | refine qAK ?_ _));exact BK169.out⟩,⟨by (with_reducible repeat (first | refine qAY ?_ _ | refine qAJ ?_ | refine qAK ?_ _));exact BK170.out⟩,⟨by repeat (first | (with_reducible first | exact HB.out | apply qAH | apply qAI | apply qAN | refine qAQ ?_ GE169.out | refine qAQ ?_ GE170.out) | exact HB.out)⟩⟩
   ·rw [if_neg c7] at H
    have c7b0:((l0_1.length:Int) == (l1_1.length:Int))=false:=beq_eq_false_iff_ne.mpr c7
    have c7b1:((l0_1.length:Int) != (l1_1.length:Int))=true:=bne_iff_ne.mpr c7
    have c7b2:(l0_1.length == l1_1.length)=false:=by first | simpa using c7 | (simp at c7 ⊢;omega)
    have H':=qAA.mk H
    clear H
    have hnb11:=NB169_170.out
    have hnc11:=NB170_169.out
    have hcz12_0:w5.cell? ⟨gb169,0,none⟩=some (.slice A0_0 l0_0.length c0_0):=(qAB BK169.out 0).trans rfl
    have hcz12_1:w5.cell? ⟨gb169,1,none⟩=some (.slice A0_1 l0_1.length c0_1):=(qAB BK169.out 1).trans rfl
    have hcz12_2:w5.cell? ⟨gb169,2,none⟩=some (.slice A0_2 l0_2.length c0_2):=(qAB BK169.out 2).trans rfl
    have hfz12_0:=qAC BK169.out 0
    have hfz12_1:=qAC BK169.out 1
    have hfz12_2:=qAC BK169.out 2
    have hcz13_0:w5.cell? ⟨gb170,0,none⟩=some (.slice A1_0 l1_0.length c1_0):=(qAB BK170.out 0).trans rfl
    have hcz13_1:w5.cell? ⟨gb170,1,none⟩=some (.slice A1_1 l1_1.length c1_1):=(qAB BK170.out 1).trans rfl
    have hcz13_2:w5.cell? ⟨gb170,2,none⟩=some (.slice A1_2 l1_2.length c1_2):=(qAB BK170.out 2).trans rfl
    have hfz13_0:=qAC BK170.out 0
    have hfz13_1:=qAC BK170.out 1
    have hfz13_2:=qAC BK170.out 2
    go_wp2
    go_meet
    case rel=>exact ⟨_,(true),(by first | rfl | (simp;done) | (simp [*];done)),H',⟨by first | omega | exact Nat.le_refl _⟩,⟨by (with_reducible repeat (first | refine qAY ?_ _ | refine qAJ ?_ | refine qAK ?_ _));exact BK169.out⟩,⟨by (with_reducible repeat (first | refine qAY ?_ _ | refine qAJ ?_ | refine qAK ?_ _));exact BK170.out⟩,⟨by repeat (first | (with_reducible first | exact HB.out | apply qAH | apply qAI | apply qAN | refine qAQ ?_ GE169.out | refine qAQ ?_ GE170.out) | exact HB.out)⟩⟩
  ·rw [if_neg c6] at H
   have c6b0:((l0_0.length:Int) == (l1_0.length:Int))=false:=beq_eq_false_iff_ne.mpr c6
   have c6b1:((l0_0.length:Int) != (l1_0.length:Int))=true:=bne_iff_ne.mpr c6
   have c6b2:(l0_0.length == l1_0.length)=false:=by first | simpa using c6 | (simp at c6 ⊢;omega)
   (first | rw [c6b0] | (simp only [qAR,qAT];rw [c6b0]) | rw [c6b1] | (simp only [qAR,qAT];rw [c6b1]) | skip)
   have H':=qAA.mk H
   clear H
   have hnb14:=NB169_170.out
   have hnc14:=NB170_169.out
   have hcz15_0:w5.cell? ⟨gb169,0,none⟩=some (.slice A0_0 l0_0.length c0_0):=(qAB BK169.out 0).trans rfl
   have hcz15_1:w5.cell? ⟨gb169,1,none⟩=some (.slice A0_1 l0_1.length c0_1):=(qAB BK169.out 1).trans rfl
   have hcz15_2:w5.cell? ⟨gb169,2,none⟩=some (.slice A0_2 l0_2.length c0_2):=(qAB BK169.out 2).trans rfl
   have hfz15_0:=qAC BK169.out 0
   have hfz15_1:=qAC BK169.out 1
   have hfz15_2:=qAC BK169.out 2
   have hcz16_0:w5.cell? ⟨gb170,0,none⟩=some (.slice A1_0 l1_0.length c1_0):=(qAB BK170.out 0).trans rfl
   have hcz16_1:w5.cell? ⟨gb170,1,none⟩=some (.slice A1_1 l1_1.length c1_1):=(qAB BK170.out 1).trans rfl
   have hcz16_2:w5.cell? ⟨gb170,2,none⟩=some (.slice A1_2 l1_2.length c1_2):=(qAB BK170.out 2).trans rfl
   have hfz16_0:=qAC BK170.out 0
   have hfz16_1:=qAC BK170.out 1
   have hfz16_2:=qAC BK170.out 2
   go_wp2
   go_meet
   case rel=>exact ⟨_,(true),(by first | rfl | (simp;done) | (simp [*];done)),H',⟨by first | omega | exact Nat.le_refl _⟩,⟨by (with_reducible repeat (first | refine qAY ?_ _ | refine qAJ ?_ | refine qAK ?_ _));exact BK169.out⟩,⟨by (with_reducible repeat (first | refine qAY ?_ _ | refine qAJ ?_ | refine qAK ?_ _));exact BK170.out⟩,⟨by repeat (first | (with_reducible first | exact HB.out | apply qAH | apply qAI | apply qAN | refine qAQ ?_ GE169.out | refine qAQ ?_ GE170.out) | exact HB.out)⟩⟩
 case rest =>
  clear HC3
  try clear c1
  try clear p2
  try clear c6
  try clear c6b0
  try clear c6b1
  try clear c6b2
  try clear c7
  try clear c7b0
  try clear c7b1
  try clear c7b2
  try clear c8
  try clear c11
  try clear c13
  try clear c14
  try clear hcz10_0
  try clear hcz10_1
  try clear hcz10_2
  try clear hcz12_0
  try clear hcz12_1
  try clear hcz12_2
  try clear hcz13_0
  try clear hcz13_1
  try clear hcz13_2
  try clear hcz15_0
  try clear hcz15_1
  try clear hcz15_2
  try clear hcz16_0
  try clear hcz16_1
  try clear hcz16_2
  try clear hcz9_0
  try clear hcz9_1
  try clear hcz9_2
  try clear hfz10_0
  try clear hfz10_1
  try clear hfz10_2
  try clear hfz12_0
  try clear hfz12_1
  try clear hfz12_2
  try clear hfz13_0
  try clear hfz13_1
  try clear hfz13_2
  try clear hfz15_0
  try clear hfz15_1
  try clear hfz15_2
  try clear hfz16_0
  try clear hfz16_1
  try clear hfz16_2
  try clear hfz9_0
  try clear hfz9_1
  try clear hfz9_2
  obtain ⟨kq,x33_2,rfl,HA,HJ2,BK169,BK170,HB⟩:=hcut
  cases kq with
  | zero=>exact absurd HA.out (by simp [qAD.j0])
  | succ kj2 =>
   have H:=HA.out
   clear HA
   simp only [qAD.j0] at H
   by_cases c17:x33_2=true
   ·subst c17
    have H1:(some false)=some r:=by rw [if_pos rfl] at H;exact H
    clear H
    have H:=H1
    clear H1
    obtain rfl:=Option.some.inj H
    simp only [Option.some.injEq,Prod.mk.injEq] at H
    obtain ⟨rfl⟩:=H
    go_wp2
    go_ret
    exact ⟨by first | rfl | (simp [qAu,qAt] <;> rfl) | (simp [*,qAu,qAt] <;> rfl),by repeat (first | (with_reducible first | exact HB.out | apply qAH | apply qAI | apply qAN | refine qAQ ?_ GE169.out | refine qAQ ?_ GE170.out) | exact HB.out)⟩
   ·replace c17:=Bool.eq_false_iff.mpr c17
    subst c17
    have H1:(qAD.l0 kj2 0 l0_0 l0_1 l0_2 l1_0 l1_1 l1_2)=some r:=by rw [if_neg (show ¬ (false=true) by decide)] at H;exact H
    clear H
    have H:=H1
    clear H1
    have H':=qAA.mk H
    clear H
    go_wp2
    go_loopg [5] kj2 (fun kq v5 w'=>∃ (x5_2:Int),v5=.int .i64 x5_2∧qAA (qAD.l0 kq x5_2 l0_0 l0_1 l0_2 l1_0 l1_1 l1_2=some r)∧qAA (kq≤kj2)∧qAA (w'.heap[gb169]?=some (.cells #[(.slice A0_0 l0_0.length c0_0),(.slice A0_1 l0_1.length c0_1),(.slice A0_2 l0_2.length c0_2)] 27 (0,0)))∧qAA (w'.heap[gb170]?=some (.cells #[(.slice A1_0 l1_0.length c1_0),(.slice A1_1 l1_1.length c1_1),(.slice A1_2 l1_2.length c1_2)] 27 (0,0)))∧qAA (Below w.heap.size w w'))
    case atStart=>exact ⟨(0),(by first | rfl | (simp;done) | (simp [*];done)),H',⟨Nat.le_refl _⟩,⟨by (with_reducible repeat (first | refine qAY ?_ _ | refine qAJ ?_ | refine qAK ?_ _));exact BK169.out⟩,⟨by (with_reducible repeat (first | refine qAY ?_ _ | refine qAJ ?_ | refine qAK ?_ _));exact BK170.out⟩,⟨by repeat (first | (with_reducible first | exact HB.out | apply qAH | apply qAI | apply qAN | refine qAQ ?_ GE169.out | refine qAQ ?_ GE170.out) | exact HB.out)⟩⟩
    case round =>
     clear H'
     try clear c1
     try clear p2
     try clear c6
     try clear c6b0
     try clear c6b1
     try clear c6b2
     try clear c7
     try clear c7b0
     try clear c7b1
     try clear c7b2
     try clear c8
     try clear c11
     try clear c13
     try clear c14
     try clear c17
     try clear hcz10_0
     try clear hcz10_1
     try clear hcz10_2
     try clear hcz12_0
     try clear hcz12_1
     try clear hcz12_2
     try clear hcz13_0
     try clear hcz13_1
     try clear hcz13_2
     try clear hcz15_0
     try clear hcz15_1
     try clear hcz15_2
     try clear hcz16_0
     try clear hcz16_1
     try clear hcz16_2
     try clear hcz9_0
     try clear hcz9_1
     try clear hcz9_2
     try clear hfz10_0
     try clear hfz10_1
     try clear hfz10_2
     try clear hfz12_0
     try clear hfz12_1
     try clear hfz12_2
     try clear hfz13_0
     try clear hfz13_1
     try clear hfz13_2
     try clear hfz15_0
     try clear hfz15_1
     try clear hfz15_2
     try clear hfz16_0
     try clear hfz16_1
     try clear hfz16_2
     try clear hfz9_0
     try clear hfz9_1
     try clear hfz9_2
     try clear p2
     obtain ⟨x5_2,rfl,HA,HK2,BK169,BK170,HB⟩:=hrel
     cases gk with
     | zero=>exact absurd HA.out (by simp [qAD.l0])
     | succ k2 =>
      have H:=HA.out
      clear HA
      simp only [qAD.l0] at H
      by_cases c18:x5_2 < (l0_0.length:Int)
      ·rw [if_pos c18] at H
       have c18b0:decide (x5_2 < (l0_0.length:Int))=true:=decide_eq_true c18
       clear c18
       by_cases c19:0≤x5_2
       ·rw [if_pos c19] at H
        have c19b0:decide (0≤x5_2)=true:=decide_eq_true c19
        clear c19
        by_cases c20:x5_2 < (l1_0.length:Int)
        ·rw [if_pos c20] at H
         have c20b0:decide (x5_2 < (l1_0.length:Int))=true:=decide_eq_true c20
         clear c20
         replace H:=Option.bind_eq_some_iff.mp H
         obtain ⟨t173,A210,H⟩:=H
         replace H:(if t173=true then (qAD.l0 k2 (wrap64 (x5_2+1)) l0_0 l0_1 l0_2 l1_0 l1_1 l1_2) else (some false))=some r:=H
         have A21:=qAA.mk A210
         clear A210
         by_cases c22:t173=true
         ·subst c22
          have H1:(qAD.l0 k2 (wrap64 (x5_2+1)) l0_0 l0_1 l0_2 l1_0 l1_1 l1_2)=some r:=by rw [if_pos rfl] at H;exact H
          clear H
          have H:=H1
          clear H1
          have H':=qAA.mk H
          clear H
          have hnb23:=NB169_170.out
          have hnc23:=NB170_169.out
          have hcz24_0:wr.cell? ⟨gb169,0,none⟩=some (.slice A0_0 l0_0.length c0_0):=(qAB BK169.out 0).trans rfl
          have hcz24_1:wr.cell? ⟨gb169,1,none⟩=some (.slice A0_1 l0_1.length c0_1):=(qAB BK169.out 1).trans rfl
          have hcz24_2:wr.cell? ⟨gb169,2,none⟩=some (.slice A0_2 l0_2.length c0_2):=(qAB BK169.out 2).trans rfl
          have hfz24_0:=qAC BK169.out 0
          have hfz24_1:=qAC BK169.out 1
          have hfz24_2:=qAC BK169.out 2
          try go_wp2
          have n0_:=qAA.mk (qAJ BK169.out)
          have n1_:=qAA.mk (qAJ BK170.out)
          have n2_:=qAA.mk (qAN HB.out)
          clear BK169
          clear BK170
          clear HB
          have BK169:=n0_
          have BK170:=n1_
          have HB:=n2_
          clear n0_ n1_ n2_
          have p171:0≤(x5_2:Int):=of_decide_eq_true (by first | (with_reducible assumption) | assumption)
          have q171:x5_2 < (l0_0.length:Int):=of_decide_eq_true (by first | (with_reducible assumption) | assumption)
          obtain ⟨ad171,A171_3,c171_3,A171_4,c171_4,e171,hx171_0,hx171_1,hx171_2,hx171_3,hx171_4,hl171_3,hi171_3,hl171_4,hi171_4⟩:=qCa HR0_0.out x5_2 p171 q171
          have hw171_4:=hx171_4
          have hw171_3:=hx171_3
          have hw171_2:=hx171_2
          have hw171_1:=hx171_1
          have hw171_0:=hx171_0
          cases e171
          replace hx171_0:=(HB.out.cell (qs4 w _ hx171_0)).trans hx171_0
          replace hx171_1:=(HB.out.cell (qs4 w _ hx171_1)).trans hx171_1
          replace hx171_2:=(HB.out.cell (qs4 w _ hx171_2)).trans hx171_2
          replace hx171_3:=(HB.out.cell (qs4 w _ hx171_3)).trans hx171_3
          replace hx171_4:=(HB.out.cell (qs4 w _ hx171_4)).trans hx171_4
          have HR171_3:=qAA.mk hi171_3
          have HC171_3:=qAA.mk hl171_3
          clear hi171_3 hl171_3
          have HR171_4:=qAA.mk hi171_4
          have HC171_4:=qAA.mk hl171_4
          clear hi171_4 hl171_4
          replace p171:=eq_true p171
          replace q171:=eq_true q171
          have p172:0≤(x5_2:Int):=of_decide_eq_true (by first | (with_reducible assumption) | assumption)
          have q172:x5_2 < (l1_0.length:Int):=of_decide_eq_true (by first | (with_reducible assumption) | assumption)
          obtain ⟨ad172,A172_3,c172_3,A172_4,c172_4,e172,hx172_0,hx172_1,hx172_2,hx172_3,hx172_4,hl172_3,hi172_3,hl172_4,hi172_4⟩:=qCa HR1_0.out x5_2 p172 q172
          have hw172_4:=hx172_4
          have hw172_3:=hx172_3
          have hw172_2:=hx172_2
          have hw172_1:=hx172_1
          have hw172_0:=hx172_0
          cases e172
          replace hx172_0:=(HB.out.cell (qs4 w _ hx172_0)).trans hx172_0
          replace hx172_1:=(HB.out.cell (qs4 w _ hx172_1)).trans hx172_1
          replace hx172_2:=(HB.out.cell (qs4 w _ hx172_2)).trans hx172_2
          replace hx172_3:=(HB.out.cell (qs4 w _ hx172_3)).trans hx172_3
          replace hx172_4:=(HB.out.cell (qs4 w _ hx172_4)).trans hx172_4
          have HR172_3:=qAA.mk hi172_3
          have HC172_3:=qAA.mk hl172_3
          clear hi172_3 hl172_3
          have HR172_4:=qAA.mk hi172_4
          have HC172_4:=qAA.mk hl172_4
          clear hi172_4 hl172_4
          replace p172:=eq_true p172
          replace q172:=eq_true q172
          refine qAn (n:=12) (S:=fun w'=>w'.cell? ⟨gb169,0,none⟩=some (.slice (some ad171) l0_0.length c0_0)∧w'.cell? ⟨gb169,1,none⟩=some (.slice A0_1 l0_1.length c0_1)∧w'.cell? ⟨gb169,2,none⟩=some (.slice A0_2 l0_2.length c0_2)∧w'.cell? ⟨gb170,0,none⟩=some (.slice (some ad172) l1_0.length c1_0)∧w'.cell? ⟨gb170,1,none⟩=some (.slice A1_1 l1_1.length c1_1)∧w'.cell? ⟨gb170,2,none⟩=some (.slice A1_2 l1_2.length c1_2)∧w'.cell? (ad171.add ((x5_2).toNat * 5))=some (.int .i64 ((qAO l0_0 x5_2).f0))∧w'.cell? ⟨(ad171.add ((x5_2).toNat * 5)).block,(ad171.add ((x5_2).toNat * 5)).off+1,none⟩=some (.int .i64 ((qAO l0_0 x5_2).f1))∧w'.cell? ⟨(ad171.add ((x5_2).toNat * 5)).block,(ad171.add ((x5_2).toNat * 5)).off+2,none⟩=some (.string ((qAO l0_0 x5_2).f2))∧w'.cell? ⟨(ad171.add ((x5_2).toNat * 5)).block,(ad171.add ((x5_2).toNat * 5)).off+3,none⟩=some (.slice A171_3 ((qAO l0_0 x5_2).f3).length c171_3)∧w'.cell? ⟨(ad171.add ((x5_2).toNat * 5)).block,(ad171.add ((x5_2).toNat * 5)).off+4,none⟩=some (.slice A171_4 ((qAO l0_0 x5_2).f4).length c171_4)∧w'.cell? (ad172.add ((x5_2).toNat * 5))=some (.int .i64 ((qAO l1_0 x5_2).f0))∧w'.cell? ⟨(ad172.add ((x5_2).toNat * 5)).block,(ad172.add ((x5_2).toNat * 5)).off+1,none⟩=some (.int .i64 ((qAO l1_0 x5_2).f1))∧w'.cell? ⟨(ad172.add ((x5_2).toNat * 5)).block,(ad172.add ((x5_2).toNat * 5)).off+2,none⟩=some (.string ((qAO l1_0 x5_2).f2))∧w'.cell? ⟨(ad172.add ((x5_2).toNat * 5)).block,(ad172.add ((x5_2).toNat * 5)).off+3,none⟩=some (.slice A172_3 ((qAO l1_0 x5_2).f3).length c172_3)∧w'.cell? ⟨(ad172.add ((x5_2).toNat * 5)).block,(ad172.add ((x5_2).toNat * 5)).off+4,none⟩=some (.slice A172_4 ((qAO l1_0 x5_2).f4).length c172_4)) (ds:=[]) #[qF,qF,qF,qF,qF,qF,qF,qF,qF,qF,qF,qF] (by kernel_rfl) rfl rfl ⟨(qAB BK169.out 0).trans rfl,(qAB BK169.out 1).trans rfl,(qAB BK169.out 2).trans rfl,(qAB BK170.out 0).trans rfl,(qAB BK170.out 1).trans rfl,(qAB BK170.out 2).trans rfl,((HB.out.cell (qs4 w _ hw171_0)).trans hw171_0),((HB.out.cell (qs4 w _ hw171_1)).trans hw171_1),((HB.out.cell (qs4 w _ hw171_2)).trans hw171_2),((HB.out.cell (qs4 w _ hw171_3)).trans hw171_3),((HB.out.cell (qs4 w _ hw171_4)).trans hw171_4),((HB.out.cell (qs4 w _ hw172_0)).trans hw172_0),((HB.out.cell (qs4 w _ hw172_1)).trans hw172_1),((HB.out.cell (qs4 w _ hw172_2)).trans hw172_2),((HB.out.cell (qs4 w _ hw172_3)).trans hw172_3),((HB.out.cell (qs4 w _ hw172_4)).trans hw172_4)⟩ (fun hHeld => ?_);refine qBq qAD.tab6 qAD.bits6 (fun HT_ HW_ => ?_)
          generalize wr.drew=w25 at BK169 BK170 HB HR171_3 HR171_4 HR172_3 HR172_4 hx171_0 hx171_1 hx171_2 hx171_3 hx171_4 hx172_0 hx172_1 hx172_2 hx172_3 hx172_4 hHeld ⊢
          refine qAz (i:=0) (N:=some 41) (v := ?_) (a' := ?_) #[qT,qF,qF,qF,qF,qF,qF,qF,qF,qF,qF,qF] rfl rfl (qAl HT_.out (by kernel_rfl)) (fun _ _ _ h=>h) (Or.inl ⟨by rfl, ?_⟩) ?_ ?_
          rotate_left
          ·intro w'
           go_simp
           with_reducible rfl
          rotate_left
          ·simp only [Act.put,qs1,qs2,qs3,qAR,qAT]
           rfl
          refine qAz (i:=2) (N:=some 43) (v := ?_) (a' := ?_) #[qT,qF,qT,qF,qF,qF,qF,qF,qF,qF,qF,qF] rfl rfl (qAl HT_.out (by kernel_rfl)) (fun _ _ _ h=>h) (Or.inl ⟨by rfl, ?_⟩) ?_ ?_
          rotate_left
          ·intro w'
           go_simp
           with_reducible rfl
          rotate_left
          ·simp only [Act.put,qs1,qs2,qs3,qAR,qAT]
           rfl
          refine qAz (i:=5) (N:=some 46) (v := ?_) (a' := ?_) #[qT,qF,qT,qF,qF,qT,qF,qF,qF,qF,qF,qF] rfl rfl (qAl HT_.out (by kernel_rfl)) (fun _ _ _ h=>h) (Or.inl ⟨by rfl, ?_⟩) ?_ ?_
          rotate_left
          ·intro w'
           go_simp
           with_reducible rfl
          rotate_left
          ·simp only [Act.put,qs1,qs2,qs3,qAR,qAT]
           rfl
          refine qAz (i:=7) (N:=some 48) (v := ?_) (a' := ?_) #[qT,qF,qT,qF,qF,qT,qF,qT,qF,qF,qF,qF] rfl rfl (qAl HT_.out (by kernel_rfl)) (fun _ _ _ h=>h) (Or.inl ⟨by rfl, ?_⟩) ?_ ?_
          rotate_left
          ·intro w'
           go_simp
           with_reducible rfl
          rotate_left
          ·simp only [Act.put,qs1,qs2,qs3,qAR,qAT]
           rfl
          refine qBU (i:=1) (N:=some 42) (v := ?_) (a' := ?_) #[qT,qT,qT,qF,qF,qT,qF,qT,qF,qF,qF,qF] rfl rfl (qAo HT_.out HW_.out (by kernel_rfl)) (fun _ _ _ h=>h) (Or.inl ⟨by rfl, ?_⟩) hHeld ?_ ?_
          rotate_left
          ·rintro w' ⟨s0,s1,s2,s3,s4,s5,s6,s7,s8,s9,s10,s11,s12,s13,s14,s15⟩
           go_simp
           with_reducible rfl
          rotate_left
          ·simp only [Act.put,qs1,qs2,qs3,qAR,qAT]
           rfl
          refine qAz (i:=3) (N:=some 44) (v := ?_) (a' := ?_) #[qT,qT,qT,qT,qF,qT,qF,qT,qF,qF,qF,qF] rfl rfl (qAl HT_.out (by kernel_rfl)) (fun _ _ _ h=>h) (Or.inl ⟨by rfl, ?_⟩) ?_ ?_
          rotate_left
          ·intro w'
           go_simp
           with_reducible rfl
          rotate_left
          ·simp only [Act.put,qs1,qs2,qs3,qAR,qAT]
           rfl
          refine qBU (i:=4) (N:=some 45) (v := ?_) (a' := ?_) #[qT,qT,qT,qT,qT,qT,qF,qT,qF,qF,qF,qF] rfl rfl (qAo HT_.out HW_.out (by kernel_rfl)) (fun _ _ _ h=>h) (Or.inl ⟨by rfl, ?_⟩) hHeld ?_ ?_
          rotate_left
          ·rintro w' ⟨s0,s1,s2,s3,s4,s5,s6,s7,s8,s9,s10,s11,s12,s13,s14,s15⟩
           go_simp
           with_reducible rfl
          rotate_left
          ·simp only [Act.put,qs1,qs2,qs3,qAR,qAT]
           rfl
          refine qBU (i:=6) (N:=some 47) (v := ?_) (a' := ?_) #[qT,qT,qT,qT,qT,qT,qT,qT,qF,qF,qF,qF] rfl rfl (qAo HT_.out HW_.out (by kernel_rfl)) (fun _ _ _ h=>h) (Or.inl ⟨by rfl, ?_⟩) hHeld ?_ ?_
          rotate_left
          ·rintro w' ⟨s0,s1,s2,s3,s4,s5,s6,s7,s8,s9,s10,s11,s12,s13,s14,s15⟩
           go_simp
           with_reducible rfl
          rotate_left
          ·simp only [Act.put,qs1,qs2,qs3,qAR,qAT]
           rfl
          refine qAz (i:=8) (N:=some 49) (v := ?_) (a' := ?_) #[qT,qT,qT,qT,qT,qT,qT,qT,qT,qF,qF,qF] rfl rfl (qAl HT_.out (by kernel_rfl)) (fun _ _ _ h=>h) (Or.inl ⟨by rfl, ?_⟩) ?_ ?_
          rotate_left
          ·intro w'
           go_simp
           with_reducible rfl
          rotate_left
          ·simp only [Act.put,qs1,qs2,qs3,qAR,qAT]
           rfl
          refine qBU (i:=9) (N:=some 50) (v := ?_) (a' := ?_) #[qT,qT,qT,qT,qT,qT,qT,qT,qT,qT,qF,qF] rfl rfl (qAo HT_.out HW_.out (by kernel_rfl)) (fun _ _ _ h=>h) (Or.inl ⟨by rfl, ?_⟩) hHeld ?_ ?_
          rotate_left
          ·rintro w' ⟨s0,s1,s2,s3,s4,s5,s6,s7,s8,s9,s10,s11,s12,s13,s14,s15⟩
           go_simp
           with_reducible rfl
          rotate_left
          ·simp only [Act.put,qs1,qs2,qs3,qAR,qAT]
           rfl
          refine one_ (i:=10) (N:=some 51) #[qT,qT,qT,qT,qT,qT,qT,qT,qT,qT,qT,qF] rfl rfl (one_of HT_.out (by kernel_rfl)) (by decide) (fun K hK => ?_)
          refine qBJ Try.func33 (by kernel_rfl) rfl #[.agg #[.int .i64 ((qAO l0_0 x5_2).f0),.int .i64 ((qAO l0_0 x5_2).f1),.string ((qAO l0_0 x5_2).f2),.slice A171_3 ((qAO l0_0 x5_2).f3).length c171_3,.slice A171_4 ((qAO l0_0 x5_2).f4).length c171_4],.agg #[.int .i64 ((qAO l1_0 x5_2).f0),.int .i64 ((qAO l1_0 x5_2).f1),.string ((qAO l1_0 x5_2).f2),.slice A172_3 ((qAO l1_0 x5_2).f3).length c172_3,.slice A172_4 ((qAO l1_0 x5_2).f4).length c172_4]] (by rfl) rfl rfl (by (try simp only [List.map_toArray,List.map_cons,List.map_nil]);first | done | rfl | (simp only [List.length_drop,List.length_take];rfl)) ?_
          with_reducible refine (qAG.calls k2 ((qAO l0_0 x5_2).f0) ((qAO l0_0 x5_2).f1) ((qAO l0_0 x5_2).f2) _ _ ((qAO l0_0 x5_2).f3) _ _ ((qAO l0_0 x5_2).f4) ((qAO l1_0 x5_2).f0) ((qAO l1_0 x5_2).f1) ((qAO l1_0 x5_2).f2) _ _ ((qAO l1_0 x5_2).f3) _ _ ((qAO l1_0 x5_2).f4) true _ ?side1 ?side2 ?side3 ?side4 ?side5 ?side6 ?side7 ?side8 A21.out).mono ?_
          (case side1=>repeat (first | exact (Kd.qAS HR171_3.out HB.out) | (with_reducible refine Kd.qAs ?_ _) | (with_reducible refine Kd.qBA ?_ _) | (with_reducible refine Kd.qBW ?_)))
          (case side2=>exact HC171_3.out)
          (case side3=>repeat (first | exact (Kd.qAS HR171_4.out HB.out) | (with_reducible refine Kd.qAs ?_ _) | (with_reducible refine Kd.qBA ?_ _) | (with_reducible refine Kd.qBW ?_)))
          (case side4=>exact HC171_4.out)
          (case side5=>repeat (first | exact (Kd.qAS HR172_3.out HB.out) | (with_reducible refine Kd.qAs ?_ _) | (with_reducible refine Kd.qBA ?_ _) | (with_reducible refine Kd.qBW ?_)))
          (case side6=>exact HC172_3.out)
          (case side7=>repeat (first | exact (Kd.qAS HR172_4.out HB.out) | (with_reducible refine Kd.qAs ?_ _) | (with_reducible refine Kd.qBA ?_ _) | (with_reducible refine Kd.qBW ?_)))
          (case side8=>exact HC172_4.out)
          rintro e w26 ⟨rfl,hb⟩
          refine ⟨_,rfl, ?_⟩
          have n0_:=qAA.mk (qAL (g:=gb169) (o:=.cells #[.slice (some ad171) l0_0.length c0_0,.slice A0_1 l0_1.length c0_1,.slice A0_2 l0_2.length c0_2] 27 (0,0)) (by (with_reducible repeat (first | refine qAY ?_ _ | refine qAJ ?_ | refine qAK ?_ _));exact BK169.out) hb)
          have n1_:=qAA.mk (qAL (g:=gb170) (o:=.cells #[.slice (some ad172) l1_0.length c1_0,.slice A1_1 l1_1.length c1_1,.slice A1_2 l1_2.length c1_2] 27 (0,0)) (by (with_reducible repeat (first | refine qAY ?_ _ | refine qAJ ?_ | refine qAK ?_ _));exact BK170.out) hb)
          have n2_:=qAA.mk (qAV (by repeat (first | (with_reducible first | exact HB.out | apply qAH | apply qAI | apply qAN | refine qAQ ?_ GE169.out | refine qAQ ?_ GE170.out) | exact HB.out)) hb)
          clear BK169
          clear BK170
          clear HB
          have BK169:=n0_
          have BK170:=n1_
          have HB:=n2_
          clear n0_ n1_ n2_
          (try clear hb)
          (try clear hb2)
          (try clear hk)
          (try clear hi)
          refine hK.out _ _ ⟨(qAB BK169.out 0).trans rfl,(qAB BK169.out 1).trans rfl,(qAB BK169.out 2).trans rfl,(qAB BK170.out 0).trans rfl,(qAB BK170.out 1).trans rfl,(qAB BK170.out 2).trans rfl,((HB.out.cell (qs4 w _ hw171_0)).trans hw171_0),((HB.out.cell (qs4 w _ hw171_1)).trans hw171_1),((HB.out.cell (qs4 w _ hw171_2)).trans hw171_2),((HB.out.cell (qs4 w _ hw171_3)).trans hw171_3),((HB.out.cell (qs4 w _ hw171_4)).trans hw171_4),((HB.out.cell (qs4 w _ hw172_0)).trans hw172_0),((HB.out.cell (qs4 w _ hw172_1)).trans hw172_1),((HB.out.cell (qs4 w _ hw172_2)).trans hw172_2),((HB.out.cell (qs4 w _ hw172_3)).trans hw172_3),((HB.out.cell (qs4 w _ hw172_4)).trans hw172_4)⟩ (fun hHeld => ?_)
          clear hK K
          refine qAi (a' := ?_) ?_ ?_
          rotate_left
          ·show Act.put _ (some 51) _=_
           simp only [Act.put,qs1,qs2,qs3,qAR,qAT]
           rfl
          refine qAz (i:=11) (N:=some 6) (v := ?_) (a' := ?_) #[qT,qT,qT,qT,qT,qT,qT,qT,qT,qT,qT,qT] rfl rfl (qAl HT_.out (by kernel_rfl)) (fun _ _ _ h=>h) (Or.inl ⟨by rfl, ?_⟩) ?_ ?_
          rotate_left
          ·intro w'
           go_simp
           with_reducible rfl
          rotate_left
          ·simp only [Act.put,qs1,qs2,qs3,qAR,qAT]
           rfl
          refine qA6 (qCN HT_.out (by kernel_rfl)) ?_
          try go_wp2
          go_roundg k2
          case measure=>have:=HJ2.out;have:=HK2.out;omega
          case rel=>exact ⟨(wrap64 (x5_2+1)),(by first | rfl | (simp;done) | (simp [*];done)),H',⟨by have:=HJ2.out;have:=HK2.out;omega⟩,⟨by (with_reducible repeat (first | refine qAY ?_ _ | refine qAJ ?_ | refine qAK ?_ _));exact BK169.out⟩,⟨by (with_reducible repeat (first | refine qAY ?_ _ | refine qAJ ?_ | refine qAK ?_ _));exact BK170.out⟩,⟨by repeat (first | (with_reducible first | exact HB.out | apply qAH | apply qAI | apply qAN | refine qAQ ?_ GE169.out | refine qAQ ?_ GE170.out) | exact HB.out)⟩⟩
         ·replace c22:=Bool.eq_false_iff.mpr c22
          subst c22
          have H1:(some false)=some r:=by rw [if_neg (show ¬ (false=true) by decide)] at H;exact H
          clear H
          have H:=H1
          clear H1
          obtain rfl:=Option.some.inj H
          simp only [Option.some.injEq,Prod.mk.injEq] at H
          obtain ⟨rfl⟩:=H
          have hnb27:=NB169_170.out
          have hnc27:=NB170_169.out
          have hcz28_0:wr.cell? ⟨gb169,0,none⟩=some (.slice A0_0 l0_0.length c0_0):=(qAB BK169.out 0).trans rfl
          have hcz28_1:wr.cell? ⟨gb169,1,none⟩=some (.slice A0_1 l0_1.length c0_1):=(qAB BK169.out 1).trans rfl
          have hcz28_2:wr.cell? ⟨gb169,2,none⟩=some (.slice A0_2 l0_2.length c0_2):=(qAB BK169.out 2).trans rfl
          have hfz28_0:=qAC BK169.out 0
          have hfz28_1:=qAC BK169.out 1
          have hfz28_2:=qAC BK169.out 2
          try go_wp2
          have n0_:=qAA.mk (qAJ BK169.out)
          have n1_:=qAA.mk (qAJ BK170.out)
          have n2_:=qAA.mk (qAN HB.out)
          clear BK169
          clear BK170
          clear HB
          have BK169:=n0_
          have BK170:=n1_
          have HB:=n2_
          clear n0_ n1_ n2_
          have p171:0≤(x5_2:Int):=of_decide_eq_true (by first | (with_reducible assumption) | assumption)
          have q171:x5_2 < (l0_0.length:Int):=of_decide_eq_true (by first | (with_reducible assumption) | assumption)
          obtain ⟨ad171,A171_3,c171_3,A171_4,c171_4,e171,hx171_0,hx171_1,hx171_2,hx171_3,hx171_4,hl171_3,hi171_3,hl171_4,hi171_4⟩:=qCa HR0_0.out x5_2 p171 q171
          have hw171_4:=hx171_4
          have hw171_3:=hx171_3
          have hw171_2:=hx171_2
          have hw171_1:=hx171_1
          have hw171_0:=hx171_0
          cases e171
          replace hx171_0:=(HB.out.cell (qs4 w _ hx171_0)).trans hx171_0
          replace hx171_1:=(HB.out.cell (qs4 w _ hx171_1)).trans hx171_1
          replace hx171_2:=(HB.out.cell (qs4 w _ hx171_2)).trans hx171_2
          replace hx171_3:=(HB.out.cell (qs4 w _ hx171_3)).trans hx171_3
          replace hx171_4:=(HB.out.cell (qs4 w _ hx171_4)).trans hx171_4
          have HR171_3:=qAA.mk hi171_3
          have HC171_3:=qAA.mk hl171_3
          clear hi171_3 hl171_3
          have HR171_4:=qAA.mk hi171_4
          have HC171_4:=qAA.mk hl171_4
          clear hi171_4 hl171_4
          replace p171:=eq_true p171
          replace q171:=eq_true q171
          have p172:0≤(x5_2:Int):=of_decide_eq_true (by first | (with_reducible assumption) | assumption)
          have q172:x5_2 < (l1_0.length:Int):=of_decide_eq_true (by first | (with_reducible assumption) | assumption)
          obtain ⟨ad172,A172_3,c172_3,A172_4,c172_4,e172,hx172_0,hx172_1,hx172_2,hx172_3,hx172_4,hl172_3,hi172_3,hl172_4,hi172_4⟩:=qCa HR1_0.out x5_2 p172 q172
          have hw172_4:=hx172_4
          have hw172_3:=hx172_3
          have hw172_2:=hx172_2
          have hw172_1:=hx172_1
          have hw172_0:=hx172_0
          cases e172
          replace hx172_0:=(HB.out.cell (qs4 w _ hx172_0)).trans hx172_0
          replace hx172_1:=(HB.out.cell (qs4 w _ hx172_1)).trans hx172_1
          replace hx172_2:=(HB.out.cell (qs4 w _ hx172_2)).trans hx172_2
          replace hx172_3:=(HB.out.cell (qs4 w _ hx172_3)).trans hx172_3
          replace hx172_4:=(HB.out.cell (qs4 w _ hx172_4)).trans hx172_4
          have HR172_3:=qAA.mk hi172_3
          have HC172_3:=qAA.mk hl172_3
          clear hi172_3 hl172_3
          have HR172_4:=qAA.mk hi172_4
          have HC172_4:=qAA.mk hl172_4
          clear hi172_4 hl172_4
          replace p172:=eq_true p172
          replace q172:=eq_true q172
          refine qAn (n:=12) (S:=fun w'=>w'.cell? ⟨gb169,0,none⟩=some (.slice (some ad171) l0_0.length c0_0)∧w'.cell? ⟨gb169,1,none⟩=some (.slice A0_1 l0_1.length c0_1)∧w'.cell? ⟨gb169,2,none⟩=some (.slice A0_2 l0_2.length c0_2)∧w'.cell? ⟨gb170,0,none⟩=some (.slice (some ad172) l1_0.length c1_0)∧w'.cell? ⟨gb170,1,none⟩=some (.slice A1_1 l1_1.length c1_1)∧w'.cell? ⟨gb170,2,none⟩=some (.slice A1_2 l1_2.length c1_2)∧w'.cell? (ad171.add ((x5_2).toNat * 5))=some (.int .i64 ((qAO l0_0 x5_2).f0))∧w'.cell? ⟨(ad171.add ((x5_2).toNat * 5)).block,(ad171.add ((x5_2).toNat * 5)).off+1,none⟩=some (.int .i64 ((qAO l0_0 x5_2).f1))∧w'.cell? ⟨(ad171.add ((x5_2).toNat * 5)).block,(ad171.add ((x5_2).toNat * 5)).off+2,none⟩=some (.string ((qAO l0_0 x5_2).f2))∧w'.cell? ⟨(ad171.add ((x5_2).toNat * 5)).block,(ad171.add ((x5_2).toNat * 5)).off+3,none⟩=some (.slice A171_3 ((qAO l0_0 x5_2).f3).length c171_3)∧w'.cell? ⟨(ad171.add ((x5_2).toNat * 5)).block,(ad171.add ((x5_2).toNat * 5)).off+4,none⟩=some (.slice A171_4 ((qAO l0_0 x5_2).f4).length c171_4)∧w'.cell? (ad172.add ((x5_2).toNat * 5))=some (.int .i64 ((qAO l1_0 x5_2).f0))∧w'.cell? ⟨(ad172.add ((x5_2).toNat * 5)).block,(ad172.add ((x5_2).toNat * 5)).off+1,none⟩=some (.int .i64 ((qAO l1_0 x5_2).f1))∧w'.cell? ⟨(ad172.add ((x5_2).toNat * 5)).block,(ad172.add ((x5_2).toNat * 5)).off+2,none⟩=some (.string ((qAO l1_0 x5_2).f2))∧w'.cell? ⟨(ad172.add ((x5_2).toNat * 5)).block,(ad172.add ((x5_2).toNat * 5)).off+3,none⟩=some (.slice A172_3 ((qAO l1_0 x5_2).f3).length c172_3)∧w'.cell? ⟨(ad172.add ((x5_2).toNat * 5)).block,(ad172.add ((x5_2).toNat * 5)).off+4,none⟩=some (.slice A172_4 ((qAO l1_0 x5_2).f4).length c172_4)) (ds:=[]) #[qF,qF,qF,qF,qF,qF,qF,qF,qF,qF,qF,qF] (by kernel_rfl) rfl rfl ⟨(qAB BK169.out 0).trans rfl,(qAB BK169.out 1).trans rfl,(qAB BK169.out 2).trans rfl,(qAB BK170.out 0).trans rfl,(qAB BK170.out 1).trans rfl,(qAB BK170.out 2).trans rfl,((HB.out.cell (qs4 w _ hw171_0)).trans hw171_0),((HB.out.cell (qs4 w _ hw171_1)).trans hw171_1),((HB.out.cell (qs4 w _ hw171_2)).trans hw171_2),((HB.out.cell (qs4 w _ hw171_3)).trans hw171_3),((HB.out.cell (qs4 w _ hw171_4)).trans hw171_4),((HB.out.cell (qs4 w _ hw172_0)).trans hw172_0),((HB.out.cell (qs4 w _ hw172_1)).trans hw172_1),((HB.out.cell (qs4 w _ hw172_2)).trans hw172_2),((HB.out.cell (qs4 w _ hw172_3)).trans hw172_3),((HB.out.cell (qs4 w _ hw172_4)).trans hw172_4)⟩ (fun hHeld => ?_);refine qBq qAD.tab6 qAD.bits6 (fun HT_ HW_ => ?_)
          generalize wr.drew=w29 at BK169 BK170 HB HR171_3 HR171_4 HR172_3 HR172_4 hx171_0 hx171_1 hx171_2 hx171_3 hx171_4 hx172_0 hx172_1 hx172_2 hx172_3 hx172_4 hHeld ⊢
          refine qAz (i:=0) (N:=some 41) (v := ?_) (a' := ?_) #[qT,qF,qF,qF,qF,qF,qF,qF,qF,qF,qF,qF] rfl rfl (qAl HT_.out (by kernel_rfl)) (fun _ _ _ h=>h) (Or.inl ⟨by rfl, ?_⟩) ?_ ?_
          rotate_left
          ·intro w'
           go_simp
           with_reducible rfl
          rotate_left
          ·simp only [Act.put,qs1,qs2,qs3,qAR,qAT]
           rfl
          refine qAz (i:=2) (N:=some 43) (v := ?_) (a' := ?_) #[qT,qF,qT,qF,qF,qF,qF,qF,qF,qF,qF,qF] rfl rfl (qAl HT_.out (by kernel_rfl)) (fun _ _ _ h=>h) (Or.inl ⟨by rfl, ?_⟩) ?_ ?_
          rotate_left
          ·intro w'
           go_simp
           with_reducible rfl
          rotate_left
          ·simp only [Act.put,qs1,qs2,qs3,qAR,qAT]
           rfl
          refine qAz (i:=5) (N:=some 46) (v := ?_) (a' := ?_) #[qT,qF,qT,qF,qF,qT,qF,qF,qF,qF,qF,qF] rfl rfl (qAl HT_.out (by kernel_rfl)) (fun _ _ _ h=>h) (Or.inl ⟨by rfl, ?_⟩) ?_ ?_
          rotate_left
          ·intro w'
           go_simp
           with_reducible rfl
          rotate_left
          ·simp only [Act.put,qs1,qs2,qs3,qAR,qAT]
           rfl
          refine qAz (i:=7) (N:=some 48) (v := ?_) (a' := ?_) #[qT,qF,qT,qF,qF,qT,qF,qT,qF,qF,qF,qF] rfl rfl (qAl HT_.out (by kernel_rfl)) (fun _ _ _ h=>h) (Or.inl ⟨by rfl, ?_⟩) ?_ ?_
          rotate_left
          ·intro w'
           go_simp
           with_reducible rfl
          rotate_left
          ·simp only [Act.put,qs1,qs2,qs3,qAR,qAT]
           rfl
          refine qBU (i:=1) (N:=some 42) (v := ?_) (a' := ?_) #[qT,qT,qT,qF,qF,qT,qF,qT,qF,qF,qF,qF] rfl rfl (qAo HT_.out HW_.out (by kernel_rfl)) (fun _ _ _ h=>h) (Or.inl ⟨by rfl, ?_⟩) hHeld ?_ ?_
          rotate_left
          ·rintro w' ⟨s0,s1,s2,s3,s4,s5,s6,s7,s8,s9,s10,s11,s12,s13,s14,s15⟩
           go_simp
           with_reducible rfl
          rotate_left
          ·simp only [Act.put,qs1,qs2,qs3,qAR,qAT]
           rfl
          refine qAz (i:=3) (N:=some 44) (v := ?_) (a' := ?_) #[qT,qT,qT,qT,qF,qT,qF,qT,qF,qF,qF,qF] rfl rfl (qAl HT_.out (by kernel_rfl)) (fun _ _ _ h=>h) (Or.inl ⟨by rfl, ?_⟩) ?_ ?_
          rotate_left
          ·intro w'
           go_simp
           with_reducible rfl
          rotate_left
          ·simp only [Act.put,qs1,qs2,qs3,qAR,qAT]
           rfl
          refine qBU (i:=4) (N:=some 45) (v := ?_) (a' := ?_) #[qT,qT,qT,qT,qT,qT,qF,qT,qF,qF,qF,qF] rfl rfl (qAo HT_.out HW_.out (by kernel_rfl)) (fun _ _ _ h=>h) (Or.inl ⟨by rfl, ?_⟩) hHeld ?_ ?_
          rotate_left
          ·rintro w' ⟨s0,s1,s2,s3,s4,s5,s6,s7,s8,s9,s10,s11,s12,s13,s14,s15⟩
           go_simp
           with_reducible rfl
          rotate_left
          ·simp only [Act.put,qs1,qs2,qs3,qAR,qAT]
           rfl
          refine qBU (i:=6) (N:=some 47) (v := ?_) (a' := ?_) #[qT,qT,qT,qT,qT,qT,qT,qT,qF,qF,qF,qF] rfl rfl (qAo HT_.out HW_.out (by kernel_rfl)) (fun _ _ _ h=>h) (Or.inl ⟨by rfl, ?_⟩) hHeld ?_ ?_
          rotate_left
          ·rintro w' ⟨s0,s1,s2,s3,s4,s5,s6,s7,s8,s9,s10,s11,s12,s13,s14,s15⟩
           go_simp
           with_reducible rfl
          rotate_left
          ·simp only [Act.put,qs1,qs2,qs3,qAR,qAT]
           rfl
          refine qAz (i:=8) (N:=some 49) (v := ?_) (a' := ?_) #[qT,qT,qT,qT,qT,qT,qT,qT,qT,qF,qF,qF] rfl rfl (qAl HT_.out (by kernel_rfl)) (fun _ _ _ h=>h) (Or.inl ⟨by rfl, ?_⟩) ?_ ?_
          rotate_left
          ·intro w'
           go_simp
           with_reducible rfl
          rotate_left
          ·simp only [Act.put,qs1,qs2,qs3,qAR,qAT]
           rfl
          refine qBU (i:=9) (N:=some 50) (v := ?_) (a' := ?_) #[qT,qT,qT,qT,qT,qT,qT,qT,qT,qT,qF,qF] rfl rfl (qAo HT_.out HW_.out (by kernel_rfl)) (fun _ _ _ h=>h) (Or.inl ⟨by rfl, ?_⟩) hHeld ?_ ?_
          rotate_left
          ·rintro w' ⟨s0,s1,s2,s3,s4,s5,s6,s7,s8,s9,s10,s11,s12,s13,s14,s15⟩
           go_simp
           with_reducible rfl
          rotate_left
          ·simp only [Act.put,qs1,qs2,qs3,qAR,qAT]
           rfl
          refine one_ (i:=10) (N:=some 51) #[qT,qT,qT,qT,qT,qT,qT,qT,qT,qT,qT,qF] rfl rfl (one_of HT_.out (by kernel_rfl)) (by decide) (fun K hK => ?_)
          refine qBJ Try.func33 (by kernel_rfl) rfl #[.agg #[.int .i64 ((qAO l0_0 x5_2).f0),.int .i64 ((qAO l0_0 x5_2).f1),.string ((qAO l0_0 x5_2).f2),.slice A171_3 ((qAO l0_0 x5_2).f3).length c171_3,.slice A171_4 ((qAO l0_0 x5_2).f4).length c171_4],.agg #[.int .i64 ((qAO l1_0 x5_2).f0),.int .i64 ((qAO l1_0 x5_2).f1),.string ((qAO l1_0 x5_2).f2),.slice A172_3 ((qAO l1_0 x5_2).f3).length c172_3,.slice A172_4 ((qAO l1_0 x5_2).f4).length c172_4]] (by rfl) rfl rfl (by (try simp only [List.map_toArray,List.map_cons,List.map_nil]);first | done | rfl | (simp only [List.length_drop,List.length_take];rfl)) ?_
          with_reducible refine (qAG.calls k2 ((qAO l0_0 x5_2).f0) ((qAO l0_0 x5_2).f1) ((qAO l0_0 x5_2).f2) _ _ ((qAO l0_0 x5_2).f3) _ _ ((qAO l0_0 x5_2).f4) ((qAO l1_0 x5_2).f0) ((qAO l1_0 x5_2).f1) ((qAO l1_0 x5_2).f2) _ _ ((qAO l1_0 x5_2).f3) _ _ ((qAO l1_0 x5_2).f4) false _ ?side1 ?side2 ?side3 ?side4 ?side5 ?side6 ?side7 ?side8 A21.out).mono ?_
          (case side1=>repeat (first | exact (Kd.qAS HR171_3.out HB.out) | (with_reducible refine Kd.qAs ?_ _) | (with_reducible refine Kd.qBA ?_ _) | (with_reducible refine Kd.qBW ?_)))
          (case side2=>exact HC171_3.out)
          (case side3=>repeat (first | exact (Kd.qAS HR171_4.out HB.out) | (with_reducible refine Kd.qAs ?_ _) | (with_reducible refine Kd.qBA ?_ _) | (with_reducible refine Kd.qBW ?_)))
          (case side4=>exact HC171_4.out)
          (case side5=>repeat (first | exact (Kd.qAS HR172_3.out HB.out) | (with_reducible refine Kd.qAs ?_ _) | (with_reducible refine Kd.qBA ?_ _) | (with_reducible refine Kd.qBW ?_)))
          (case side6=>exact HC172_3.out)
          (case side7=>repeat (first | exact (Kd.qAS HR172_4.out HB.out) | (with_reducible refine Kd.qAs ?_ _) | (with_reducible refine Kd.qBA ?_ _) | (with_reducible refine Kd.qBW ?_)))
          (case side8=>exact HC172_4.out)
          rintro e w30 ⟨rfl,hb⟩
          refine ⟨_,rfl, ?_⟩
          have n0_:=qAA.mk (qAL (g:=gb169) (o:=.cells #[.slice (some ad171) l0_0.length c0_0,.slice A0_1 l0_1.length c0_1,.slice A0_2 l0_2.length c0_2] 27 (0,0)) (by (with_reducible repeat (first | refine qAY ?_ _ | refine qAJ ?_ | refine qAK ?_ _));exact BK169.out) hb)
          have n1_:=qAA.mk (qAL (g:=gb170) (o:=.cells #[.slice (some ad172) l1_0.length c1_0,.slice A1_1 l1_1.length c1_1,.slice A1_2 l1_2.length c1_2] 27 (0,0)) (by (with_reducible repeat (first | refine qAY ?_ _ | refine qAJ ?_ | refine qAK ?_ _));exact BK170.out) hb)
          have n2_:=qAA.mk (qAV (by repeat (first | (with_reducible first | exact HB.out | apply qAH | apply qAI | apply qAN | refine qAQ ?_ GE169.out | refine qAQ ?_ GE170.out) | exact HB.out)) hb)
          clear BK169
          clear BK170
          clear HB
          have BK169:=n0_
          have BK170:=n1_
          have HB:=n2_
          clear n0_ n1_ n2_
          (try clear hb)
          (try clear hb2)
          (try clear hk)
          (try clear hi)
          refine hK.out _ _ ⟨(qAB BK169.out 0).trans rfl,(qAB BK169.out 1).trans rfl,(qAB BK169.out 2).trans rfl,(qAB BK170.out 0).trans rfl,(qAB BK170.out 1).trans rfl,(qAB BK170.out 2).trans rfl,((HB.out.cell (qs4 w _ hw171_0)).trans hw171_0),((HB.out.cell (qs4 w _ hw171_1)).trans hw171_1),((HB.out.cell (qs4 w _ hw171_2)).trans hw171_2),((HB.out.cell (qs4 w _ hw171_3)).trans hw171_3),((HB.out.cell (qs4 w _ hw171_4)).trans hw171_4),((HB.out.cell (qs4 w _ hw172_0)).trans hw172_0),((HB.out.cell (qs4 w _ hw172_1)).trans hw172_1),((HB.out.cell (qs4 w _ hw172_2)).trans hw172_2),((HB.out.cell (qs4 w _ hw172_3)).trans hw172_3),((HB.out.cell (qs4 w _ hw172_4)).trans hw172_4)⟩ (fun hHeld => ?_)
          clear hK K
          refine qAi (a' := ?_) ?_ ?_
          rotate_left
          ·show Act.put _ (some 51) _=_
           simp only [Act.put,qs1,qs2,qs3,qAR,qAT]
           rfl
          refine qAz (i:=11) (N:=some 6) (v := ?_) (a' := ?_) #[qT,qT,qT,qT,qT,qT,qT,qT,qT,qT,qT,qT] rfl rfl (qAl HT_.out (by kernel_rfl)) (fun _ _ _ h=>h) (Or.inl ⟨by rfl, ?_⟩) ?_ ?_
          rotate_left
          ·intro w'
           go_simp
           with_reducible rfl
          rotate_left
          ·simp only [Act.put,qs1,qs2,qs3,qAR,qAT]
           rfl
          refine qA6 (qCN HT_.out (by kernel_rfl)) ?_
          try go_wp2
          go_ret
          exact ⟨by first | rfl | (simp [qAu,qAt] <;> rfl) | (simp [*,qAu,qAt] <;> rfl),by repeat (first | (with_reducible first | exact HB.out | apply qAH | apply qAI | apply qAN | refine qAQ ?_ GE169.out | refine qAQ ?_ GE170.out) | exact HB.out)⟩
        ·rw [if_neg c20] at H
         exact absurd H (by simp)
       ·rw [if_neg c19] at H
        exact absurd H (by simp)
      ·rw [if_neg c18] at H
       have c18b0:decide (x5_2 < (l0_0.length:Int))=false:=decide_eq_false c18
       clear c18
       have H':=qAA.mk H
       clear H
       have hnb31:=NB169_170.out
       have hnc31:=NB170_169.out
       have hcz32_0:wr.cell? ⟨gb169,0,none⟩=some (.slice A0_0 l0_0.length c0_0):=(qAB BK169.out 0).trans rfl
       have hcz32_1:wr.cell? ⟨gb169,1,none⟩=some (.slice A0_1 l0_1.length c0_1):=(qAB BK169.out 1).trans rfl
       have hcz32_2:wr.cell? ⟨gb169,2,none⟩=some (.slice A0_2 l0_2.length c0_2):=(qAB BK169.out 2).trans rfl
       have hfz32_0:=qAC BK169.out 0
       have hfz32_1:=qAC BK169.out 1
       have hfz32_2:=qAC BK169.out 2
       go_wp2
       go_loopg [7] k2 (fun kq v7 w'=>∃ (x7_3:Int),v7=.int .i64 x7_3∧qAA (qAD.l1 kq x7_3 l0_0 l0_1 l0_2 l1_0 l1_1 l1_2=some r)∧qAA (kq≤k2)∧qAA (w'.heap[gb169]?=some (.cells #[(.slice A0_0 l0_0.length c0_0),(.slice A0_1 l0_1.length c0_1),(.slice A0_2 l0_2.length c0_2)] 27 (0,0)))∧qAA (w'.heap[gb170]?=some (.cells #[(.slice A1_0 l1_0.length c1_0),(.slice A1_1 l1_1.length c1_1),(.slice A1_2 l1_2.length c1_2)] 27 (0,0)))∧qAA (Below w.heap.size w w'))
       case atStart=>exact ⟨(0),(by first | rfl | (simp;done) | (simp [*];done)),H',⟨Nat.le_refl _⟩,⟨by (with_reducible repeat (first | refine qAY ?_ _ | refine qAJ ?_ | refine qAK ?_ _));exact BK169.out⟩,⟨by (with_reducible repeat (first | refine qAY ?_ _ | refine qAJ ?_ | refine qAK ?_ _));exact BK170.out⟩,⟨by repeat (first | (with_reducible first | exact HB.out | apply qAH | apply qAI | apply qAN | refine qAQ ?_ GE169.out | refine qAQ ?_ GE170.out) | exact HB.out)⟩⟩
       case round =>
        clear H'
        try clear c1
        try clear p1
        try clear q1
        try clear hx1
        try clear c2
        try clear p2
        try clear c3
        try clear c6
        try clear c6b0
        try clear c6b1
        try clear c6b2
        try clear p6
        try clear c7
        try clear c7b0
        try clear c7b1
        try clear c7b2
        try clear c8
        try clear c11
        try clear c13
        try clear c14
        try clear c17
        try clear p17
        try clear q17
        try clear hx17
        try clear c18
        try clear c18b0
        try clear c19
        try clear c19b0
        try clear c20
        try clear c20b0
        try clear c22
        try clear c23
        try clear c27
        try clear c31
        try clear hcz10_0
        try clear hcz10_1
        try clear hcz10_2
        try clear hcz12_0
        try clear hcz12_1
        try clear hcz12_2
        try clear hcz13_0
        try clear hcz13_1
        try clear hcz13_2
        try clear hcz15_0
        try clear hcz15_1
        try clear hcz15_2
        try clear hcz16_0
        try clear hcz16_1
        try clear hcz16_2
        try clear hcz24_0
        try clear hcz24_1
        try clear hcz24_2
        try clear hcz28_0
        try clear hcz28_1
        try clear hcz28_2
        try clear hcz32_0
        try clear hcz32_1
        try clear hcz32_2
        try clear hcz9_0
        try clear hcz9_1
        try clear hcz9_2
        try clear hfz10_0
        try clear hfz10_1
        try clear hfz10_2
        try clear hfz12_0
        try clear hfz12_1
        try clear hfz12_2
        try clear hfz13_0
        try clear hfz13_1
        try clear hfz13_2
        try clear hfz15_0
        try clear hfz15_1
        try clear hfz15_2
        try clear hfz16_0
        try clear hfz16_1
        try clear hfz16_2
        try clear hfz24_0
        try clear hfz24_1
        try clear hfz24_2
        try clear hfz28_0
        try clear hfz28_1
        try clear hfz28_2
        try clear hfz32_0
        try clear hfz32_1
        try clear hfz32_2
        try clear hfz9_0
        try clear hfz9_1
        try clear hfz9_2
        try clear hx171_0
        try clear hx171_1
        try clear hx171_2
        try clear hx171_3
        try clear hx171_4
        try clear hx172_0
        try clear hx172_1
        try clear hx172_2
        try clear hx172_3
        try clear hx172_4
        try clear p171
        try clear p172
        try clear p2
        try clear q171
        try clear q172
        obtain ⟨x7_3,rfl,HA,HK3,BK169,BK170,HB⟩:=hrel
        cases gk with
        | zero=>exact absurd HA.out (by simp [qAD.l1])
        | succ k3 =>
         have H:=HA.out
         clear HA
         simp only [qAD.l1] at H
         by_cases c33:x7_3 < (l0_1.length:Int)
         ·rw [if_pos c33] at H
          have c33b0:decide (x7_3 < (l0_1.length:Int))=true:=decide_eq_true c33
          clear c33
          by_cases c34:0≤x7_3
          ·rw [if_pos c34] at H
           have c34b0:decide (0≤x7_3)=true:=decide_eq_true c34
           clear c34
           by_cases c35:x7_3 < (l1_1.length:Int)
           ·rw [if_pos c35] at H
            have c35b0:decide (x7_3 < (l1_1.length:Int))=true:=decide_eq_true c35
            clear c35
            by_cases c36:(!(((qAp l0_1 x7_3).f0) == ((qAp l1_1 x7_3).f0)) || (!(((qAp l0_1 x7_3).f1) == ((qAp l1_1 x7_3).f1)) || (!(((qAp l0_1 x7_3).f2) == ((qAp l1_1 x7_3).f2)) || (!((((qAp l0_1 x7_3).f3).toList) == (((qAp l1_1 x7_3).f3).toList))))))=true
            ·rw [if_pos c36] at H
             have c36b0:(!(((qAp l0_1 x7_3).f0) == ((qAp l1_1 x7_3).f0)) || (!(((qAp l0_1 x7_3).f1) == ((qAp l1_1 x7_3).f1)) || (!(((qAp l0_1 x7_3).f2) == ((qAp l1_1 x7_3).f2)) || (!((((qAp l0_1 x7_3).f3).toList) == (((qAp l1_1 x7_3).f3).toList))))))=true:=c36
             clear c36
             obtain rfl:=Option.some.inj H
             simp only [Option.some.injEq,Prod.mk.injEq] at H
             obtain ⟨rfl⟩:=H
             have hnb37:=NB169_170.out
             have hnc37:=NB170_169.out
             have hcz38_0:wr.cell? ⟨gb169,0,none⟩=some (.slice A0_0 l0_0.length c0_0):=(qAB BK169.out 0).trans rfl
             have hcz38_1:wr.cell? ⟨gb169,1,none⟩=some (.slice A0_1 l0_1.length c0_1):=(qAB BK169.out 1).trans rfl
             have hcz38_2:wr.cell? ⟨gb169,2,none⟩=some (.slice A0_2 l0_2.length c0_2):=(qAB BK169.out 2).trans rfl
             have hfz38_0:=qAC BK169.out 0
             have hfz38_1:=qAC BK169.out 1
             have hfz38_2:=qAC BK169.out 2
             try go_wp2
             have n0_:=qAA.mk (qAJ BK169.out)
             have n1_:=qAA.mk (qAJ BK170.out)
             have n2_:=qAA.mk (qAN HB.out)
             clear BK169
             clear BK170
             clear HB
             have BK169:=n0_
             have BK170:=n1_
             have HB:=n2_
             clear n0_ n1_ n2_
             have p174:0≤(x7_3:Int):=of_decide_eq_true (by first | (with_reducible assumption) | assumption)
             have q174:x7_3 < (l0_1.length:Int):=of_decide_eq_true (by first | (with_reducible assumption) | assumption)
             obtain ⟨ad174,e174,hx174_0,hx174_1,hx174_2,hx174_3⟩:=at_T52 HR0_1.out x7_3 p174 q174
             have hw174_3:=hx174_3
             have hw174_2:=hx174_2
             have hw174_1:=hx174_1
             have hw174_0:=hx174_0
             cases e174
             replace hx174_0:=(HB.out.cell (qs4 w _ hx174_0)).trans hx174_0
             replace hx174_1:=(HB.out.cell (qs4 w _ hx174_1)).trans hx174_1
             replace hx174_2:=(HB.out.cell (qs4 w _ hx174_2)).trans hx174_2
             replace hx174_3:=(HB.out.cell (qs4 w _ hx174_3)).trans hx174_3
             replace p174:=eq_true p174
             replace q174:=eq_true q174
             have p175:0≤(x7_3:Int):=of_decide_eq_true (by first | (with_reducible assumption) | assumption)
             have q175:x7_3 < (l1_1.length:Int):=of_decide_eq_true (by first | (with_reducible assumption) | assumption)
             obtain ⟨ad175,e175,hx175_0,hx175_1,hx175_2,hx175_3⟩:=at_T52 HR1_1.out x7_3 p175 q175
             have hw175_3:=hx175_3
             have hw175_2:=hx175_2
             have hw175_1:=hx175_1
             have hw175_0:=hx175_0
             cases e175
             replace hx175_0:=(HB.out.cell (qs4 w _ hx175_0)).trans hx175_0
             replace hx175_1:=(HB.out.cell (qs4 w _ hx175_1)).trans hx175_1
             replace hx175_2:=(HB.out.cell (qs4 w _ hx175_2)).trans hx175_2
             replace hx175_3:=(HB.out.cell (qs4 w _ hx175_3)).trans hx175_3
             replace p175:=eq_true p175
             replace q175:=eq_true q175
             refine qAn (n:=11) (S:=fun w'=>w'.cell? ⟨gb169,0,none⟩=some (.slice A0_0 l0_0.length c0_0)∧w'.cell? ⟨gb169,1,none⟩=some (.slice (some ad174) l0_1.length c0_1)∧w'.cell? ⟨gb169,2,none⟩=some (.slice A0_2 l0_2.length c0_2)∧w'.cell? ⟨gb170,0,none⟩=some (.slice A1_0 l1_0.length c1_0)∧w'.cell? ⟨gb170,1,none⟩=some (.slice (some ad175) l1_1.length c1_1)∧w'.cell? ⟨gb170,2,none⟩=some (.slice A1_2 l1_2.length c1_2)∧w'.cell? (ad174.add ((x7_3).toNat * 4))=some (.int .i64 ((qAp l0_1 x7_3).f0))∧w'.cell? ⟨(ad174.add ((x7_3).toNat * 4)).block,(ad174.add ((x7_3).toNat * 4)).off+1,none⟩=some (.int .i64 ((qAp l0_1 x7_3).f1))∧w'.cell? ⟨(ad174.add ((x7_3).toNat * 4)).block,(ad174.add ((x7_3).toNat * 4)).off+2,none⟩=some (.int .i64 ((qAp l0_1 x7_3).f2))∧w'.cell? ⟨(ad174.add ((x7_3).toNat * 4)).block,(ad174.add ((x7_3).toNat * 4)).off+3,none⟩=some (.string ((qAp l0_1 x7_3).f3))∧w'.cell? (ad175.add ((x7_3).toNat * 4))=some (.int .i64 ((qAp l1_1 x7_3).f0))∧w'.cell? ⟨(ad175.add ((x7_3).toNat * 4)).block,(ad175.add ((x7_3).toNat * 4)).off+1,none⟩=some (.int .i64 ((qAp l1_1 x7_3).f1))∧w'.cell? ⟨(ad175.add ((x7_3).toNat * 4)).block,(ad175.add ((x7_3).toNat * 4)).off+2,none⟩=some (.int .i64 ((qAp l1_1 x7_3).f2))∧w'.cell? ⟨(ad175.add ((x7_3).toNat * 4)).block,(ad175.add ((x7_3).toNat * 4)).off+3,none⟩=some (.string ((qAp l1_1 x7_3).f3))) (ds:=[]) #[qF,qF,qF,qF,qF,qF,qF,qF,qF,qF,qF] (by kernel_rfl) rfl rfl ⟨(qAB BK169.out 0).trans rfl,(qAB BK169.out 1).trans rfl,(qAB BK169.out 2).trans rfl,(qAB BK170.out 0).trans rfl,(qAB BK170.out 1).trans rfl,(qAB BK170.out 2).trans rfl,((HB.out.cell (qs4 w _ hw174_0)).trans hw174_0),((HB.out.cell (qs4 w _ hw174_1)).trans hw174_1),((HB.out.cell (qs4 w _ hw174_2)).trans hw174_2),((HB.out.cell (qs4 w _ hw174_3)).trans hw174_3),((HB.out.cell (qs4 w _ hw175_0)).trans hw175_0),((HB.out.cell (qs4 w _ hw175_1)).trans hw175_1),((HB.out.cell (qs4 w _ hw175_2)).trans hw175_2),((HB.out.cell (qs4 w _ hw175_3)).trans hw175_3)⟩ (fun hHeld => ?_);refine qBq qAD.tab12 qAD.bits12 (fun HT_ HW_ => ?_)
             generalize wr.drew=w39 at BK169 BK170 HB hx174_0 hx174_1 hx174_2 hx174_3 hx175_0 hx175_1 hx175_2 hx175_3 hHeld ⊢
             refine qAz (i:=0) (N:=some 61) (v := ?_) (a' := ?_) #[qT,qF,qF,qF,qF,qF,qF,qF,qF,qF,qF] rfl rfl (qAl HT_.out (by kernel_rfl)) (fun _ _ _ h=>h) (Or.inl ⟨by rfl, ?_⟩) ?_ ?_
             rotate_left
             ·intro w'
              go_simp
              with_reducible rfl
             rotate_left
             ·simp only [Act.put,qs1,qs2,qs3,qAR,qAT]
              rfl
             refine qAz (i:=2) (N:=some 63) (v := ?_) (a' := ?_) #[qT,qF,qT,qF,qF,qF,qF,qF,qF,qF,qF] rfl rfl (qAl HT_.out (by kernel_rfl)) (fun _ _ _ h=>h) (Or.inl ⟨by rfl, ?_⟩) ?_ ?_
             rotate_left
             ·intro w'
              go_simp
              with_reducible rfl
             rotate_left
             ·simp only [Act.put,qs1,qs2,qs3,qAR,qAT]
              rfl
             refine qAz (i:=5) (N:=some 66) (v := ?_) (a' := ?_) #[qT,qF,qT,qF,qF,qT,qF,qF,qF,qF,qF] rfl rfl (qAl HT_.out (by kernel_rfl)) (fun _ _ _ h=>h) (Or.inl ⟨by rfl, ?_⟩) ?_ ?_
             rotate_left
             ·intro w'
              go_simp
              with_reducible rfl
             rotate_left
             ·simp only [Act.put,qs1,qs2,qs3,qAR,qAT]
              rfl
             refine qAz (i:=7) (N:=some 68) (v := ?_) (a' := ?_) #[qT,qF,qT,qF,qF,qT,qF,qT,qF,qF,qF] rfl rfl (qAl HT_.out (by kernel_rfl)) (fun _ _ _ h=>h) (Or.inl ⟨by rfl, ?_⟩) ?_ ?_
             rotate_left
             ·intro w'
              go_simp
              with_reducible rfl
             rotate_left
             ·simp only [Act.put,qs1,qs2,qs3,qAR,qAT]
              rfl
             refine qBU (i:=1) (N:=some 62) (v := ?_) (a' := ?_) #[qT,qT,qT,qF,qF,qT,qF,qT,qF,qF,qF] rfl rfl (qAo HT_.out HW_.out (by kernel_rfl)) (fun _ _ _ h=>h) (Or.inl ⟨by rfl, ?_⟩) hHeld ?_ ?_
             rotate_left
             ·rintro w' ⟨s0,s1,s2,s3,s4,s5,s6,s7,s8,s9,s10,s11,s12,s13⟩
              go_simp
              with_reducible rfl
             rotate_left
             ·simp only [Act.put,qs1,qs2,qs3,qAR,qAT]
              rfl
             refine qAz (i:=3) (N:=some 64) (v := ?_) (a' := ?_) #[qT,qT,qT,qT,qF,qT,qF,qT,qF,qF,qF] rfl rfl (qAl HT_.out (by kernel_rfl)) (fun _ _ _ h=>h) (Or.inl ⟨by rfl, ?_⟩) ?_ ?_
             rotate_left
             ·intro w'
              go_simp
              with_reducible rfl
             rotate_left
             ·simp only [Act.put,qs1,qs2,qs3,qAR,qAT]
              rfl
             refine qBU (i:=4) (N:=some 65) (v := ?_) (a' := ?_) #[qT,qT,qT,qT,qT,qT,qF,qT,qF,qF,qF] rfl rfl (qAo HT_.out HW_.out (by kernel_rfl)) (fun _ _ _ h=>h) (Or.inl ⟨by rfl, ?_⟩) hHeld ?_ ?_
             rotate_left
             ·rintro w' ⟨s0,s1,s2,s3,s4,s5,s6,s7,s8,s9,s10,s11,s12,s13⟩
              go_simp
              with_reducible rfl
             rotate_left
             ·simp only [Act.put,qs1,qs2,qs3,qAR,qAT]
              rfl
             refine qBU (i:=6) (N:=some 67) (v := ?_) (a' := ?_) #[qT,qT,qT,qT,qT,qT,qT,qT,qF,qF,qF] rfl rfl (qAo HT_.out HW_.out (by kernel_rfl)) (fun _ _ _ h=>h) (Or.inl ⟨by rfl, ?_⟩) hHeld ?_ ?_
             rotate_left
             ·rintro w' ⟨s0,s1,s2,s3,s4,s5,s6,s7,s8,s9,s10,s11,s12,s13⟩
              go_simp
              with_reducible rfl
             rotate_left
             ·simp only [Act.put,qs1,qs2,qs3,qAR,qAT]
              rfl
             refine qAz (i:=8) (N:=some 69) (v := ?_) (a' := ?_) #[qT,qT,qT,qT,qT,qT,qT,qT,qT,qF,qF] rfl rfl (qAl HT_.out (by kernel_rfl)) (fun _ _ _ h=>h) (Or.inl ⟨by rfl, ?_⟩) ?_ ?_
             rotate_left
             ·intro w'
              go_simp
              with_reducible rfl
             rotate_left
             ·simp only [Act.put,qs1,qs2,qs3,qAR,qAT]
              rfl
             refine qBU (i:=9) (N:=some 70) (v := ?_) (a' := ?_) #[qT,qT,qT,qT,qT,qT,qT,qT,qT,qT,qF] rfl rfl (qAo HT_.out HW_.out (by kernel_rfl)) (fun _ _ _ h=>h) (Or.inl ⟨by rfl, ?_⟩) hHeld ?_ ?_
             rotate_left
             ·rintro w' ⟨s0,s1,s2,s3,s4,s5,s6,s7,s8,s9,s10,s11,s12,s13⟩
              go_simp
              with_reducible rfl
             rotate_left
             ·simp only [Act.put,qs1,qs2,qs3,qAR,qAT]
              rfl
             refine qAz (i:=10) (N:=some 71) (v := ?_) (a' := ?_) #[qT,qT,qT,qT,qT,qT,qT,qT,qT,qT,qT] rfl rfl (qAl HT_.out (by kernel_rfl)) (fun _ _ _ h=>h) (Or.inl ⟨by rfl, ?_⟩) ?_ ?_
             rotate_left
             ·intro w'
              go_simp
              with_reducible rfl
             rotate_left
             ·simp only [Act.put,qs1,qs2,qs3,qAR,qAT]
              rfl
             refine qA6 (qCN HT_.out (by kernel_rfl)) ?_
             try go_wp2
             go_ret
             exact ⟨by first | rfl | (simp [qAu,qAt] <;> rfl) | (simp [*,qAu,qAt] <;> rfl),by repeat (first | (with_reducible first | exact HB.out | apply qAH | apply qAI | apply qAN | refine qAQ ?_ GE169.out | refine qAQ ?_ GE170.out) | exact HB.out)⟩
            ·rw [if_neg c36] at H
             have c36b0:(!(((qAp l0_1 x7_3).f0) == ((qAp l1_1 x7_3).f0)) || (!(((qAp l0_1 x7_3).f1) == ((qAp l1_1 x7_3).f1)) || (!(((qAp l0_1 x7_3).f2) == ((qAp l1_1 x7_3).f2)) || (!((((qAp l0_1 x7_3).f3).toList) == (((qAp l1_1 x7_3).f3).toList))))))=false:=by simpa using c36
             clear c36
             have H':=qAA.mk H
             clear H
             have hnb40:=NB169_170.out
             have hnc40:=NB170_169.out
             have hcz41_0:wr.cell? ⟨gb169,0,none⟩=some (.slice A0_0 l0_0.length c0_0):=(qAB BK169.out 0).trans rfl
             have hcz41_1:wr.cell? ⟨gb169,1,none⟩=some (.slice A0_1 l0_1.length c0_1):=(qAB BK169.out 1).trans rfl
             have hcz41_2:wr.cell? ⟨gb169,2,none⟩=some (.slice A0_2 l0_2.length c0_2):=(qAB BK169.out 2).trans rfl
             have hfz41_0:=qAC BK169.out 0
             have hfz41_1:=qAC BK169.out 1
             have hfz41_2:=qAC BK169.out 2
             try go_wp2
             have n0_:=qAA.mk (qAJ BK169.out)
             have n1_:=qAA.mk (qAJ BK170.out)
             have n2_:=qAA.mk (qAN HB.out)
             clear BK169
             clear BK170
             clear HB
             have BK169:=n0_
             have BK170:=n1_
             have HB:=n2_
             clear n0_ n1_ n2_
             have p174:0≤(x7_3:Int):=of_decide_eq_true (by first | (with_reducible assumption) | assumption)
             have q174:x7_3 < (l0_1.length:Int):=of_decide_eq_true (by first | (with_reducible assumption) | assumption)
             obtain ⟨ad174,e174,hx174_0,hx174_1,hx174_2,hx174_3⟩:=at_T52 HR0_1.out x7_3 p174 q174
             have hw174_3:=hx174_3
             have hw174_2:=hx174_2
             have hw174_1:=hx174_1
             have hw174_0:=hx174_0
             cases e174
             replace hx174_0:=(HB.out.cell (qs4 w _ hx174_0)).trans hx174_0
             replace hx174_1:=(HB.out.cell (qs4 w _ hx174_1)).trans hx174_1
             replace hx174_2:=(HB.out.cell (qs4 w _ hx174_2)).trans hx174_2
             replace hx174_3:=(HB.out.cell (qs4 w _ hx174_3)).trans hx174_3
             replace p174:=eq_true p174
             replace q174:=eq_true q174
             have p175:0≤(x7_3:Int):=of_decide_eq_true (by first | (with_reducible assumption) | assumption)
             have q175:x7_3 < (l1_1.length:Int):=of_decide_eq_true (by first | (with_reducible assumption) | assumption)
             obtain ⟨ad175,e175,hx175_0,hx175_1,hx175_2,hx175_3⟩:=at_T52 HR1_1.out x7_3 p175 q175
             have hw175_3:=hx175_3
             have hw175_2:=hx175_2
             have hw175_1:=hx175_1
             have hw175_0:=hx175_0
             cases e175
             replace hx175_0:=(HB.out.cell (qs4 w _ hx175_0)).trans hx175_0
             replace hx175_1:=(HB.out.cell (qs4 w _ hx175_1)).trans hx175_1
             replace hx175_2:=(HB.out.cell (qs4 w _ hx175_2)).trans hx175_2
             replace hx175_3:=(HB.out.cell (qs4 w _ hx175_3)).trans hx175_3
             replace p175:=eq_true p175
             replace q175:=eq_true q175
             refine qAn (n:=11) (S:=fun w'=>w'.cell? ⟨gb169,0,none⟩=some (.slice A0_0 l0_0.length c0_0)∧w'.cell? ⟨gb169,1,none⟩=some (.slice (some ad174) l0_1.length c0_1)∧w'.cell? ⟨gb169,2,none⟩=some (.slice A0_2 l0_2.length c0_2)∧w'.cell? ⟨gb170,0,none⟩=some (.slice A1_0 l1_0.length c1_0)∧w'.cell? ⟨gb170,1,none⟩=some (.slice (some ad175) l1_1.length c1_1)∧w'.cell? ⟨gb170,2,none⟩=some (.slice A1_2 l1_2.length c1_2)∧w'.cell? (ad174.add ((x7_3).toNat * 4))=some (.int .i64 ((qAp l0_1 x7_3).f0))∧w'.cell? ⟨(ad174.add ((x7_3).toNat * 4)).block,(ad174.add ((x7_3).toNat * 4)).off+1,none⟩=some (.int .i64 ((qAp l0_1 x7_3).f1))∧w'.cell? ⟨(ad174.add ((x7_3).toNat * 4)).block,(ad174.add ((x7_3).toNat * 4)).off+2,none⟩=some (.int .i64 ((qAp l0_1 x7_3).f2))∧w'.cell? ⟨(ad174.add ((x7_3).toNat * 4)).block,(ad174.add ((x7_3).toNat * 4)).off+3,none⟩=some (.string ((qAp l0_1 x7_3).f3))∧w'.cell? (ad175.add ((x7_3).toNat * 4))=some (.int .i64 ((qAp l1_1 x7_3).f0))∧w'.cell? ⟨(ad175.add ((x7_3).toNat * 4)).block,(ad175.add ((x7_3).toNat * 4)).off+1,none⟩=some (.int .i64 ((qAp l1_1 x7_3).f1))∧w'.cell? ⟨(ad175.add ((x7_3).toNat * 4)).block,(ad175.add ((x7_3).toNat * 4)).off+2,none⟩=some (.int .i64 ((qAp l1_1 x7_3).f2))∧w'.cell? ⟨(ad175.add ((x7_3).toNat * 4)).block,(ad175.add ((x7_3).toNat * 4)).off+3,none⟩=some (.string ((qAp l1_1 x7_3).f3))) (ds:=[]) #[qF,qF,qF,qF,qF,qF,qF,qF,qF,qF,qF] (by kernel_rfl) rfl rfl ⟨(qAB BK169.out 0).trans rfl,(qAB BK169.out 1).trans rfl,(qAB BK169.out 2).trans rfl,(qAB BK170.out 0).trans rfl,(qAB BK170.out 1).trans rfl,(qAB BK170.out 2).trans rfl,((HB.out.cell (qs4 w _ hw174_0)).trans hw174_0),((HB.out.cell (qs4 w _ hw174_1)).trans hw174_1),((HB.out.cell (qs4 w _ hw174_2)).trans hw174_2),((HB.out.cell (qs4 w _ hw174_3)).trans hw174_3),((HB.out.cell (qs4 w _ hw175_0)).trans hw175_0),((HB.out.cell (qs4 w _ hw175_1)).trans hw175_1),((HB.out.cell (qs4 w _ hw175_2)).trans hw175_2),((HB.out.cell (qs4 w _ hw175_3)).trans hw175_3)⟩ (fun hHeld => ?_);refine qBq qAD.tab12 qAD.bits12 (fun HT_ HW_ => ?_)
             generalize wr.drew=w42 at BK169 BK170 HB hx174_0 hx174_1 hx174_2 hx174_3 hx175_0 hx175_1 hx175_2 hx175_3 hHeld ⊢
             refine qAz (i:=0) (N:=some 61) (v := ?_) (a' := ?_) #[qT,qF,qF,qF,qF,qF,qF,qF,qF,qF,qF] rfl rfl (qAl HT_.out (by kernel_rfl)) (fun _ _ _ h=>h) (Or.inl ⟨by rfl, ?_⟩) ?_ ?_
             rotate_left
             ·intro w'
              go_simp
              with_reducible rfl
             rotate_left
             ·simp only [Act.put,qs1,qs2,qs3,qAR,qAT]
              rfl
             refine qAz (i:=2) (N:=some 63) (v := ?_) (a' := ?_) #[qT,qF,qT,qF,qF,qF,qF,qF,qF,qF,qF] rfl rfl (qAl HT_.out (by kernel_rfl)) (fun _ _ _ h=>h) (Or.inl ⟨by rfl, ?_⟩) ?_ ?_
             rotate_left
             ·intro w'
              go_simp
              with_reducible rfl
             rotate_left
             ·simp only [Act.put,qs1,qs2,qs3,qAR,qAT]
              rfl
             refine qAz (i:=5) (N:=some 66) (v := ?_) (a' := ?_) #[qT,qF,qT,qF,qF,qT,qF,qF,qF,qF,qF] rfl rfl (qAl HT_.out (by kernel_rfl)) (fun _ _ _ h=>h) (Or.inl ⟨by rfl, ?_⟩) ?_ ?_
             rotate_left
             ·intro w'
              go_simp
              with_reducible rfl
             rotate_left
             ·simp only [Act.put,qs1,qs2,qs3,qAR,qAT]
              rfl
             refine qAz (i:=7) (N:=some 68) (v := ?_) (a' := ?_) #[qT,qF,qT,qF,qF,qT,qF,qT,qF,qF,qF] rfl rfl (qAl HT_.out (by kernel_rfl)) (fun _ _ _ h=>h) (Or.inl ⟨by rfl, ?_⟩) ?_ ?_
             rotate_left
             ·intro w'
              go_simp
              with_reducible rfl
             rotate_left
             ·simp only [Act.put,qs1,qs2,qs3,qAR,qAT]
              rfl
             refine qBU (i:=1) (N:=some 62) (v := ?_) (a' := ?_) #[qT,qT,qT,qF,qF,qT,qF,qT,qF,qF,qF] rfl rfl (qAo HT_.out HW_.out (by kernel_rfl)) (fun _ _ _ h=>h) (Or.inl ⟨by rfl, ?_⟩) hHeld ?_ ?_
             rotate_left
             ·rintro w' ⟨s0,s1,s2,s3,s4,s5,s6,s7,s8,s9,s10,s11,s12,s13⟩
              go_simp
              with_reducible rfl
             rotate_left
             ·simp only [Act.put,qs1,qs2,qs3,qAR,qAT]
              rfl
             refine qAz (i:=3) (N:=some 64) (v := ?_) (a' := ?_) #[qT,qT,qT,qT,qF,qT,qF,qT,qF,qF,qF] rfl rfl (qAl HT_.out (by kernel_rfl)) (fun _ _ _ h=>h) (Or.inl ⟨by rfl, ?_⟩) ?_ ?_
             rotate_left
             ·intro w'
              go_simp
              with_reducible rfl
             rotate_left
             ·simp only [Act.put,qs1,qs2,qs3,qAR,qAT]
              rfl
             refine qBU (i:=4) (N:=some 65) (v := ?_) (a' := ?_) #[qT,qT,qT,qT,qT,qT,qF,qT,qF,qF,qF] rfl rfl (qAo HT_.out HW_.out (by kernel_rfl)) (fun _ _ _ h=>h) (Or.inl ⟨by rfl, ?_⟩) hHeld ?_ ?_
             rotate_left
             ·rintro w' ⟨s0,s1,s2,s3,s4,s5,s6,s7,s8,s9,s10,s11,s12,s13⟩
              go_simp
              with_reducible rfl
             rotate_left
             ·simp only [Act.put,qs1,qs2,qs3,qAR,qAT]
              rfl
             refine qBU (i:=6) (N:=some 67) (v := ?_) (a' := ?_) #[qT,qT,qT,qT,qT,qT,qT,qT,qF,qF,qF] rfl rfl (qAo HT_.out HW_.out (by kernel_rfl)) (fun _ _ _ h=>h) (Or.inl ⟨by rfl, ?_⟩) hHeld ?_ ?_
             rotate_left
             ·rintro w' ⟨s0,s1,s2,s3,s4,s5,s6,s7,s8,s9,s10,s11,s12,s13⟩
              go_simp
              with_reducible rfl
             rotate_left
             ·simp only [Act.put,qs1,qs2,qs3,qAR,qAT]
              rfl
             refine qAz (i:=8) (N:=some 69) (v := ?_) (a' := ?_) #[qT,qT,qT,qT,qT,qT,qT,qT,qT,qF,qF] rfl rfl (qAl HT_.out (by kernel_rfl)) (fun _ _ _ h=>h) (Or.inl ⟨by rfl, ?_⟩) ?_ ?_
             rotate_left
             ·intro w'
              go_simp
              with_reducible rfl
             rotate_left
             ·simp only [Act.put,qs1,qs2,qs3,qAR,qAT]
              rfl
             refine qBU (i:=9) (N:=some 70) (v := ?_) (a' := ?_) #[qT,qT,qT,qT,qT,qT,qT,qT,qT,qT,qF] rfl rfl (qAo HT_.out HW_.out (by kernel_rfl)) (fun _ _ _ h=>h) (Or.inl ⟨by rfl, ?_⟩) hHeld ?_ ?_
             rotate_left
             ·rintro w' ⟨s0,s1,s2,s3,s4,s5,s6,s7,s8,s9,s10,s11,s12,s13⟩
              go_simp
              with_reducible rfl
             rotate_left
             ·simp only [Act.put,qs1,qs2,qs3,qAR,qAT]
              rfl
             refine qAz (i:=10) (N:=some 71) (v := ?_) (a' := ?_) #[qT,qT,qT,qT,qT,qT,qT,qT,qT,qT,qT] rfl rfl (qAl HT_.out (by kernel_rfl)) (fun _ _ _ h=>h) (Or.inl ⟨by rfl, ?_⟩) ?_ ?_
             rotate_left
             ·intro w'
              go_simp
              with_reducible rfl
             rotate_left
             ·simp only [Act.put,qs1,qs2,qs3,qAR,qAT]
              rfl
             refine qA6 (qCN HT_.out (by kernel_rfl)) ?_
             try go_wp2
             go_roundg k3
             case measure=>have:=HJ2.out;have:=HK2.out;have:=HK3.out;omega
             case rel=>exact ⟨(wrap64 (x7_3+1)),(by first | rfl | (simp;done) | (simp [*];done)),H',⟨by have:=HJ2.out;have:=HK2.out;have:=HK3.out;omega⟩,⟨by (with_reducible repeat (first | refine qAY ?_ _ | refine qAJ ?_ | refine qAK ?_ _));exact BK169.out⟩,⟨by (with_reducible repeat (first | refine qAY ?_ _ | refine qAJ ?_ | refine qAK ?_ _));exact BK170.out⟩,⟨by repeat (first | (with_reducible first | exact HB.out | apply qAH | apply qAI | apply qAN | refine qAQ ?_ GE169.out | refine qAQ ?_ GE170.out) | exact HB.out)⟩⟩
           ·rw [if_neg c35] at H
            exact absurd H (by simp)
          ·rw [if_neg c34] at H
           exact absurd H (by simp)
         ·rw [if_neg c33] at H
          have c33b0:decide (x7_3 < (l0_1.length:Int))=false:=decide_eq_false c33
          clear c33
          have H':=qAA.mk H
          clear H
          have hnb43:=NB169_170.out
          have hnc43:=NB170_169.out
          have hcz44_0:wr.cell? ⟨gb169,0,none⟩=some (.slice A0_0 l0_0.length c0_0):=(qAB BK169.out 0).trans rfl
          have hcz44_1:wr.cell? ⟨gb169,1,none⟩=some (.slice A0_1 l0_1.length c0_1):=(qAB BK169.out 1).trans rfl
          have hcz44_2:wr.cell? ⟨gb169,2,none⟩=some (.slice A0_2 l0_2.length c0_2):=(qAB BK169.out 2).trans rfl
          have hfz44_0:=qAC BK169.out 0
          have hfz44_1:=qAC BK169.out 1
          have hfz44_2:=qAC BK169.out 2
          go_wp2
          go_loopg [8] k3 (fun kq v8 w'=>∃ (x8_4:Int),v8=.int .i64 x8_4∧qAA (qAD.l2 kq x8_4 l0_0 l0_1 l0_2 l1_0 l1_1 l1_2=some r)∧qAA (kq≤k3)∧qAA (w'.heap[gb169]?=some (.cells #[(.slice A0_0 l0_0.length c0_0),(.slice A0_1 l0_1.length c0_1),(.slice A0_2 l0_2.length c0_2)] 27 (0,0)))∧qAA (w'.heap[gb170]?=some (.cells #[(.slice A1_0 l1_0.length c1_0),(.slice A1_1 l1_1.length c1_1),(.slice A1_2 l1_2.length c1_2)] 27 (0,0)))∧qAA (Below w.heap.size w w'))
          case atStart=>exact ⟨(0),(by first | rfl | (simp;done) | (simp [*];done)),H',⟨Nat.le_refl _⟩,⟨by (with_reducible repeat (first | refine qAY ?_ _ | refine qAJ ?_ | refine qAK ?_ _));exact BK169.out⟩,⟨by (with_reducible repeat (first | refine qAY ?_ _ | refine qAJ ?_ | refine qAK ?_ _));exact BK170.out⟩,⟨by repeat (first | (with_reducible first | exact HB.out | apply qAH | apply qAI | apply qAN | refine qAQ ?_ GE169.out | refine qAQ ?_ GE170.out) | exact HB.out)⟩⟩
          case round =>
           clear H'
           try clear c1
           try clear p1
           try clear q1
           try clear hx1
           try clear c2
           try clear p2
           try clear c3
           try clear c4
           try clear c6
           try clear c6b0
           try clear c6b1
           try clear c6b2
           try clear p6
           try clear c7
           try clear c7b0
           try clear c7b1
           try clear c7b2
           try clear c8
           try clear c11
           try clear c13
           try clear c14
           try clear c17
           try clear p17
           try clear q17
           try clear hx17
           try clear c18
           try clear c18b0
           try clear c19
           try clear c19b0
           try clear c20
           try clear c20b0
           try clear c22
           try clear c23
           try clear c27
           try clear c31
           try clear c33
           try clear c33b0
           try clear c34
           try clear c34b0
           try clear c35
           try clear c35b0
           try clear c36
           try clear c36b0
           try clear c37
           try clear c40
           try clear c43
           try clear hcz10_0
           try clear hcz10_1
           try clear hcz10_2
           try clear hcz12_0
           try clear hcz12_1
           try clear hcz12_2
           try clear hcz13_0
           try clear hcz13_1
           try clear hcz13_2
           try clear hcz15_0
           try clear hcz15_1
           try clear hcz15_2
           try clear hcz16_0
           try clear hcz16_1
           try clear hcz16_2
           try clear hcz24_0
           try clear hcz24_1
           try clear hcz24_2
           try clear hcz28_0
           try clear hcz28_1
           try clear hcz28_2
           try clear hcz32_0
           try clear hcz32_1
           try clear hcz32_2
           try clear hcz38_0
           try clear hcz38_1
           try clear hcz38_2
           try clear hcz41_0
           try clear hcz41_1
           try clear hcz41_2
           try clear hcz44_0
           try clear hcz44_1
           try clear hcz44_2
           try clear hcz9_0
           try clear hcz9_1
           try clear hcz9_2
           try clear hfz10_0
           try clear hfz10_1
           try clear hfz10_2
           try clear hfz12_0
           try clear hfz12_1
           try clear hfz12_2
           try clear hfz13_0
           try clear hfz13_1
           try clear hfz13_2
           try clear hfz15_0
           try clear hfz15_1
           try clear hfz15_2
           try clear hfz16_0
           try clear hfz16_1
           try clear hfz16_2
           try clear hfz24_0
           try clear hfz24_1
           try clear hfz24_2
           try clear hfz28_0
           try clear hfz28_1
           try clear hfz28_2
           try clear hfz32_0
           try clear hfz32_1
           try clear hfz32_2
           try clear hfz38_0
           try clear hfz38_1
           try clear hfz38_2
           try clear hfz41_0
           try clear hfz41_1
           try clear hfz41_2
           try clear hfz44_0
           try clear hfz44_1
           try clear hfz44_2
           try clear hfz9_0
           try clear hfz9_1
           try clear hfz9_2
           try clear hx171_0
           try clear hx171_1
           try clear hx171_2
           try clear hx171_3
           try clear hx171_4
           try clear hx172_0
           try clear hx172_1
           try clear hx172_2
           try clear hx172_3
           try clear hx172_4
           try clear hx174_0
           try clear hx174_1
           try clear hx174_2
           try clear hx174_3
           try clear hx175_0
           try clear hx175_1
           try clear hx175_2
           try clear hx175_3
           try clear p1
           try clear p17
           try clear p171
           try clear p172
           try clear p174
           try clear p175
           try clear p2
           try clear p6
           try clear q1
           try clear q17
           try clear q171
           try clear q172
           try clear q174
           try clear q175
           obtain ⟨x8_4,rfl,HA,HK4,BK169,BK170,HB⟩:=hrel
           cases gk with
           | zero=>exact absurd HA.out (by simp [qAD.l2])
           | succ k4 =>
            have H:=HA.out
            clear HA
            simp only [qAD.l2] at H
            by_cases c45:x8_4 < (l0_2.length:Int)
            ·rw [if_pos c45] at H
             have c45b0:decide (x8_4 < (l0_2.length:Int))=true:=decide_eq_true c45
             clear c45
             by_cases c46:0≤x8_4
             ·rw [if_pos c46] at H
              have c46b0:decide (0≤x8_4)=true:=decide_eq_true c46
              clear c46
              by_cases c47:x8_4 < (l1_2.length:Int)
              ·rw [if_pos c47] at H
               have c47b0:decide (x8_4 < (l1_2.length:Int))=true:=decide_eq_true c47
               clear c47
               by_cases c48:(!((((qAy l0_2 x8_4).f0).toList) == (((qAy l1_2 x8_4).f0).toList)) || (!(((qAy l0_2 x8_4).f1) == ((qAy l1_2 x8_4).f1))))=true
               ·rw [if_pos c48] at H
                have c48b0:(!((((qAy l0_2 x8_4).f0).toList) == (((qAy l1_2 x8_4).f0).toList)) || (!(((qAy l0_2 x8_4).f1) == ((qAy l1_2 x8_4).f1))))=true:=c48
                clear c48
                obtain rfl:=Option.some.inj H
                simp only [Option.some.injEq,Prod.mk.injEq] at H
                obtain ⟨rfl⟩:=H
                have hnb49:=NB169_170.out
                have hnc49:=NB170_169.out
                have hcz50_0:wr.cell? ⟨gb169,0,none⟩=some (.slice A0_0 l0_0.length c0_0):=(qAB BK169.out 0).trans rfl
                have hcz50_1:wr.cell? ⟨gb169,1,none⟩=some (.slice A0_1 l0_1.length c0_1):=(qAB BK169.out 1).trans rfl
                have hcz50_2:wr.cell? ⟨gb169,2,none⟩=some (.slice A0_2 l0_2.length c0_2):=(qAB BK169.out 2).trans rfl
                have hfz50_0:=qAC BK169.out 0
                have hfz50_1:=qAC BK169.out 1
                have hfz50_2:=qAC BK169.out 2
                try go_wp2
                have n0_:=qAA.mk (qAJ BK169.out)
                have n1_:=qAA.mk (qAJ BK170.out)
                have n2_:=qAA.mk (qAN HB.out)
                clear BK169
                clear BK170
                clear HB
                have BK169:=n0_
                have BK170:=n1_
                have HB:=n2_
                clear n0_ n1_ n2_
                have p176:0≤(x8_4:Int):=of_decide_eq_true (by first | (with_reducible assumption) | assumption)
                have q176:x8_4 < (l0_2.length:Int):=of_decide_eq_true (by first | (with_reducible assumption) | assumption)
                obtain ⟨ad176,e176,hx176_0,hx176_1⟩:=at_T56 HR0_2.out x8_4 p176 q176
                have hw176_1:=hx176_1
                have hw176_0:=hx176_0
                cases e176
                replace hx176_0:=(HB.out.cell (qs4 w _ hx176_0)).trans hx176_0
                replace hx176_1:=(HB.out.cell (qs4 w _ hx176_1)).trans hx176_1
                replace p176:=eq_true p176
                replace q176:=eq_true q176
                have p177:0≤(x8_4:Int):=of_decide_eq_true (by first | (with_reducible assumption) | assumption)
                have q177:x8_4 < (l1_2.length:Int):=of_decide_eq_true (by first | (with_reducible assumption) | assumption)
                obtain ⟨ad177,e177,hx177_0,hx177_1⟩:=at_T56 HR1_2.out x8_4 p177 q177
                have hw177_1:=hx177_1
                have hw177_0:=hx177_0
                cases e177
                replace hx177_0:=(HB.out.cell (qs4 w _ hx177_0)).trans hx177_0
                replace hx177_1:=(HB.out.cell (qs4 w _ hx177_1)).trans hx177_1
                replace p177:=eq_true p177
                replace q177:=eq_true q177
                refine qAn (n:=11) (S:=fun w'=>w'.cell? ⟨gb169,0,none⟩=some (.slice A0_0 l0_0.length c0_0)∧w'.cell? ⟨gb169,1,none⟩=some (.slice A0_1 l0_1.length c0_1)∧w'.cell? ⟨gb169,2,none⟩=some (.slice (some ad176) l0_2.length c0_2)∧w'.cell? ⟨gb170,0,none⟩=some (.slice A1_0 l1_0.length c1_0)∧w'.cell? ⟨gb170,1,none⟩=some (.slice A1_1 l1_1.length c1_1)∧w'.cell? ⟨gb170,2,none⟩=some (.slice (some ad177) l1_2.length c1_2)∧w'.cell? (ad176.add ((x8_4).toNat * 2))=some (.string ((qAy l0_2 x8_4).f0))∧w'.cell? ⟨(ad176.add ((x8_4).toNat * 2)).block,(ad176.add ((x8_4).toNat * 2)).off+1,none⟩=some (.int .i64 ((qAy l0_2 x8_4).f1))∧w'.cell? (ad177.add ((x8_4).toNat * 2))=some (.string ((qAy l1_2 x8_4).f0))∧w'.cell? ⟨(ad177.add ((x8_4).toNat * 2)).block,(ad177.add ((x8_4).toNat * 2)).off+1,none⟩=some (.int .i64 ((qAy l1_2 x8_4).f1))) (ds:=[]) #[qF,qF,qF,qF,qF,qF,qF,qF,qF,qF,qF] (by kernel_rfl) rfl rfl ⟨(qAB BK169.out 0).trans rfl,(qAB BK169.out 1).trans rfl,(qAB BK169.out 2).trans rfl,(qAB BK170.out 0).trans rfl,(qAB BK170.out 1).trans rfl,(qAB BK170.out 2).trans rfl,((HB.out.cell (qs4 w _ hw176_0)).trans hw176_0),((HB.out.cell (qs4 w _ hw176_1)).trans hw176_1),((HB.out.cell (qs4 w _ hw177_0)).trans hw177_0),((HB.out.cell (qs4 w _ hw177_1)).trans hw177_1)⟩ (fun hHeld => ?_);refine qBq qAD.tab17 qAD.bits17 (fun HT_ HW_ => ?_)
                generalize wr.drew=w51 at BK169 BK170 HB hx176_0 hx176_1 hx177_0 hx177_1 hHeld ⊢
                refine qAz (i:=0) (N:=some 79) (v := ?_) (a' := ?_) #[qT,qF,qF,qF,qF,qF,qF,qF,qF,qF,qF] rfl rfl (qAl HT_.out (by kernel_rfl)) (fun _ _ _ h=>h) (Or.inl ⟨by rfl, ?_⟩) ?_ ?_
                rotate_left
                ·intro w'
                 go_simp
                 with_reducible rfl
                rotate_left
                ·simp only [Act.put,qs1,qs2,qs3,qAR,qAT]
                 rfl
                refine qAz (i:=2) (N:=some 81) (v := ?_) (a' := ?_) #[qT,qF,qT,qF,qF,qF,qF,qF,qF,qF,qF] rfl rfl (qAl HT_.out (by kernel_rfl)) (fun _ _ _ h=>h) (Or.inl ⟨by rfl, ?_⟩) ?_ ?_
                rotate_left
                ·intro w'
                 go_simp
                 with_reducible rfl
                rotate_left
                ·simp only [Act.put,qs1,qs2,qs3,qAR,qAT]
                 rfl
                refine qAz (i:=5) (N:=some 84) (v := ?_) (a' := ?_) #[qT,qF,qT,qF,qF,qT,qF,qF,qF,qF,qF] rfl rfl (qAl HT_.out (by kernel_rfl)) (fun _ _ _ h=>h) (Or.inl ⟨by rfl, ?_⟩) ?_ ?_
                rotate_left
                ·intro w'
                 go_simp
                 with_reducible rfl
                rotate_left
                ·simp only [Act.put,qs1,qs2,qs3,qAR,qAT]
                 rfl
                refine qAz (i:=7) (N:=some 86) (v := ?_) (a' := ?_) #[qT,qF,qT,qF,qF,qT,qF,qT,qF,qF,qF] rfl rfl (qAl HT_.out (by kernel_rfl)) (fun _ _ _ h=>h) (Or.inl ⟨by rfl, ?_⟩) ?_ ?_
                rotate_left
                ·intro w'
                 go_simp
                 with_reducible rfl
                rotate_left
                ·simp only [Act.put,qs1,qs2,qs3,qAR,qAT]
                 rfl
                refine qBU (i:=1) (N:=some 80) (v := ?_) (a' := ?_) #[qT,qT,qT,qF,qF,qT,qF,qT,qF,qF,qF] rfl rfl (qAo HT_.out HW_.out (by kernel_rfl)) (fun _ _ _ h=>h) (Or.inl ⟨by rfl, ?_⟩) hHeld ?_ ?_
                rotate_left
                ·rintro w' ⟨s0,s1,s2,s3,s4,s5,s6,s7,s8,s9⟩
                 go_simp
                 with_reducible rfl
                rotate_left
                ·simp only [Act.put,qs1,qs2,qs3,qAR,qAT]
                 rfl
                refine qAz (i:=3) (N:=some 82) (v := ?_) (a' := ?_) #[qT,qT,qT,qT,qF,qT,qF,qT,qF,qF,qF] rfl rfl (qAl HT_.out (by kernel_rfl)) (fun _ _ _ h=>h) (Or.inl ⟨by rfl, ?_⟩) ?_ ?_
                rotate_left
                ·intro w'
                 go_simp
                 with_reducible rfl
                rotate_left
                ·simp only [Act.put,qs1,qs2,qs3,qAR,qAT]
                 rfl
                refine qBU (i:=4) (N:=some 83) (v := ?_) (a' := ?_) #[qT,qT,qT,qT,qT,qT,qF,qT,qF,qF,qF] rfl rfl (qAo HT_.out HW_.out (by kernel_rfl)) (fun _ _ _ h=>h) (Or.inl ⟨by rfl, ?_⟩) hHeld ?_ ?_
                rotate_left
                ·rintro w' ⟨s0,s1,s2,s3,s4,s5,s6,s7,s8,s9⟩
                 go_simp
                 with_reducible rfl
                rotate_left
                ·simp only [Act.put,qs1,qs2,qs3,qAR,qAT]
                 rfl
                refine qBU (i:=6) (N:=some 85) (v := ?_) (a' := ?_) #[qT,qT,qT,qT,qT,qT,qT,qT,qF,qF,qF] rfl rfl (qAo HT_.out HW_.out (by kernel_rfl)) (fun _ _ _ h=>h) (Or.inl ⟨by rfl, ?_⟩) hHeld ?_ ?_
                rotate_left
                ·rintro w' ⟨s0,s1,s2,s3,s4,s5,s6,s7,s8,s9⟩
                 go_simp
                 with_reducible rfl
                rotate_left
                ·simp only [Act.put,qs1,qs2,qs3,qAR,qAT]
                 rfl
                refine qAz (i:=8) (N:=some 87) (v := ?_) (a' := ?_) #[qT,qT,qT,qT,qT,qT,qT,qT,qT,qF,qF] rfl rfl (qAl HT_.out (by kernel_rfl)) (fun _ _ _ h=>h) (Or.inl ⟨by rfl, ?_⟩) ?_ ?_
                rotate_left
                ·intro w'
                 go_simp
                 with_reducible rfl
                rotate_left
                ·simp only [Act.put,qs1,qs2,qs3,qAR,qAT]
                 rfl
                refine qBU (i:=9) (N:=some 88) (v := ?_) (a' := ?_) #[qT,qT,qT,qT,qT,qT,qT,qT,qT,qT,qF] rfl rfl (qAo HT_.out HW_.out (by kernel_rfl)) (fun _ _ _ h=>h) (Or.inl ⟨by rfl, ?_⟩) hHeld ?_ ?_
                rotate_left
                ·rintro w' ⟨s0,s1,s2,s3,s4,s5,s6,s7,s8,s9⟩
                 go_simp
                 with_reducible rfl
                rotate_left
                ·simp only [Act.put,qs1,qs2,qs3,qAR,qAT]
                 rfl
                refine qAz (i:=10) (N:=some 89) (v := ?_) (a' := ?_) #[qT,qT,qT,qT,qT,qT,qT,qT,qT,qT,qT] rfl rfl (qAl HT_.out (by kernel_rfl)) (fun _ _ _ h=>h) (Or.inl ⟨by rfl, ?_⟩) ?_ ?_
                rotate_left
                ·intro w'
                 go_simp
                 with_reducible rfl
                rotate_left
                ·simp only [Act.put,qs1,qs2,qs3,qAR,qAT]
                 rfl
                refine qA6 (qCN HT_.out (by kernel_rfl)) ?_
                try go_wp2
                go_ret
                exact ⟨by first | rfl | (simp [qAu,qAt] <;> rfl) | (simp [*,qAu,qAt] <;> rfl),by repeat (first | (with_reducible first | exact HB.out | apply qAH | apply qAI | apply qAN | refine qAQ ?_ GE169.out | refine qAQ ?_ GE170.out) | exact HB.out)⟩
               ·rw [if_neg c48] at H
                have c48b0:(!((((qAy l0_2 x8_4).f0).toList) == (((qAy l1_2 x8_4).f0).toList)) || (!(((qAy l0_2 x8_4).f1) == ((qAy l1_2 x8_4).f1))))=false:=by simpa using c48
                clear c48
                have H':=qAA.mk H
                clear H
                have hnb52:=NB169_170.out
                have hnc52:=NB170_169.out
                have hcz53_0:wr.cell? ⟨gb169,0,none⟩=some (.slice A0_0 l0_0.length c0_0):=(qAB BK169.out 0).trans rfl
                have hcz53_1:wr.cell? ⟨gb169,1,none⟩=some (.slice A0_1 l0_1.length c0_1):=(qAB BK169.out 1).trans rfl
                have hcz53_2:wr.cell? ⟨gb169,2,none⟩=some (.slice A0_2 l0_2.length c0_2):=(qAB BK169.out 2).trans rfl
                have hfz53_0:=qAC BK169.out 0
                have hfz53_1:=qAC BK169.out 1
                have hfz53_2:=qAC BK169.out 2
                try go_wp2
                have n0_:=qAA.mk (qAJ BK169.out)
                have n1_:=qAA.mk (qAJ BK170.out)
                have n2_:=qAA.mk (qAN HB.out)
                clear BK169
                clear BK170
                clear HB
                have BK169:=n0_
                have BK170:=n1_
                have HB:=n2_
                clear n0_ n1_ n2_
                have p176:0≤(x8_4:Int):=of_decide_eq_true (by first | (with_reducible assumption) | assumption)
                have q176:x8_4 < (l0_2.length:Int):=of_decide_eq_true (by first | (with_reducible assumption) | assumption)
                obtain ⟨ad176,e176,hx176_0,hx176_1⟩:=at_T56 HR0_2.out x8_4 p176 q176
                have hw176_1:=hx176_1
                have hw176_0:=hx176_0
                cases e176
                replace hx176_0:=(HB.out.cell (qs4 w _ hx176_0)).trans hx176_0
                replace hx176_1:=(HB.out.cell (qs4 w _ hx176_1)).trans hx176_1
                replace p176:=eq_true p176
                replace q176:=eq_true q176
                have p177:0≤(x8_4:Int):=of_decide_eq_true (by first | (with_reducible assumption) | assumption)
                have q177:x8_4 < (l1_2.length:Int):=of_decide_eq_true (by first | (with_reducible assumption) | assumption)
                obtain ⟨ad177,e177,hx177_0,hx177_1⟩:=at_T56 HR1_2.out x8_4 p177 q177
                have hw177_1:=hx177_1
                have hw177_0:=hx177_0
                cases e177
                replace hx177_0:=(HB.out.cell (qs4 w _ hx177_0)).trans hx177_0
                replace hx177_1:=(HB.out.cell (qs4 w _ hx177_1)).trans hx177_1
                replace p177:=eq_true p177
                replace q177:=eq_true q177
                refine qAn (n:=11) (S:=fun w'=>w'.cell? ⟨gb169,0,none⟩=some (.slice A0_0 l0_0.length c0_0)∧w'.cell? ⟨gb169,1,none⟩=some (.slice A0_1 l0_1.length c0_1)∧w'.cell? ⟨gb169,2,none⟩=some (.slice (some ad176) l0_2.length c0_2)∧w'.cell? ⟨gb170,0,none⟩=some (.slice A1_0 l1_0.length c1_0)∧w'.cell? ⟨gb170,1,none⟩=some (.slice A1_1 l1_1.length c1_1)∧w'.cell? ⟨gb170,2,none⟩=some (.slice (some ad177) l1_2.length c1_2)∧w'.cell? (ad176.add ((x8_4).toNat * 2))=some (.string ((qAy l0_2 x8_4).f0))∧w'.cell? ⟨(ad176.add ((x8_4).toNat * 2)).block,(ad176.add ((x8_4).toNat * 2)).off+1,none⟩=some (.int .i64 ((qAy l0_2 x8_4).f1))∧w'.cell? (ad177.add ((x8_4).toNat * 2))=some (.string ((qAy l1_2 x8_4).f0))∧w'.cell? ⟨(ad177.add ((x8_4).toNat * 2)).block,(ad177.add ((x8_4).toNat * 2)).off+1,none⟩=some (.int .i64 ((qAy l1_2 x8_4).f1))) (ds:=[]) #[qF,qF,qF,qF,qF,qF,qF,qF,qF,qF,qF] (by kernel_rfl) rfl rfl ⟨(qAB BK169.out 0).trans rfl,(qAB BK169.out 1).trans rfl,(qAB BK169.out 2).trans rfl,(qAB BK170.out 0).trans rfl,(qAB BK170.out 1).trans rfl,(qAB BK170.out 2).trans rfl,((HB.out.cell (qs4 w _ hw176_0)).trans hw176_0),((HB.out.cell (qs4 w _ hw176_1)).trans hw176_1),((HB.out.cell (qs4 w _ hw177_0)).trans hw177_0),((HB.out.cell (qs4 w _ hw177_1)).trans hw177_1)⟩ (fun hHeld => ?_);refine qBq qAD.tab17 qAD.bits17 (fun HT_ HW_ => ?_)
                generalize wr.drew=w54 at BK169 BK170 HB hx176_0 hx176_1 hx177_0 hx177_1 hHeld ⊢
                refine qAz (i:=0) (N:=some 79) (v := ?_) (a' := ?_) #[qT,qF,qF,qF,qF,qF,qF,qF,qF,qF,qF] rfl rfl (qAl HT_.out (by kernel_rfl)) (fun _ _ _ h=>h) (Or.inl ⟨by rfl, ?_⟩) ?_ ?_
                rotate_left
                ·intro w'
                 go_simp
                 with_reducible rfl
                rotate_left
                ·simp only [Act.put,qs1,qs2,qs3,qAR,qAT]
                 rfl
                refine qAz (i:=2) (N:=some 81) (v := ?_) (a' := ?_) #[qT,qF,qT,qF,qF,qF,qF,qF,qF,qF,qF] rfl rfl (qAl HT_.out (by kernel_rfl)) (fun _ _ _ h=>h) (Or.inl ⟨by rfl, ?_⟩) ?_ ?_
                rotate_left
                ·intro w'
                 go_simp
                 with_reducible rfl
                rotate_left
                ·simp only [Act.put,qs1,qs2,qs3,qAR,qAT]
                 rfl
                refine qAz (i:=5) (N:=some 84) (v := ?_) (a' := ?_) #[qT,qF,qT,qF,qF,qT,qF,qF,qF,qF,qF] rfl rfl (qAl HT_.out (by kernel_rfl)) (fun _ _ _ h=>h) (Or.inl ⟨by rfl, ?_⟩) ?_ ?_
                rotate_left
                ·intro w'
                 go_simp
                 with_reducible rfl
                rotate_left
                ·simp only [Act.put,qs1,qs2,qs3,qAR,qAT]
                 rfl
                refine qAz (i:=7) (N:=some 86) (v := ?_) (a' := ?_) #[qT,qF,qT,qF,qF,qT,qF,qT,qF,qF,qF] rfl rfl (qAl HT_.out (by kernel_rfl)) (fun _ _ _ h=>h) (Or.inl ⟨by rfl, ?_⟩) ?_ ?_
                rotate_left
                ·intro w'
                 go_simp
                 with_reducible rfl
                rotate_left
                ·simp only [Act.put,qs1,qs2,qs3,qAR,qAT]
                 rfl
                refine qBU (i:=1) (N:=some 80) (v := ?_) (a' := ?_) #[qT,qT,qT,qF,qF,qT,qF,qT,qF,qF,qF] rfl rfl (qAo HT_.out HW_.out (by kernel_rfl)) (fun _ _ _ h=>h) (Or.inl ⟨by rfl, ?_⟩) hHeld ?_ ?_
                rotate_left
                ·rintro w' ⟨s0,s1,s2,s3,s4,s5,s6,s7,s8,s9⟩
                 go_simp
                 with_reducible rfl
                rotate_left
                ·simp only [Act.put,qs1,qs2,qs3,qAR,qAT]
                 rfl
                refine qAz (i:=3) (N:=some 82) (v := ?_) (a' := ?_) #[qT,qT,qT,qT,qF,qT,qF,qT,qF,qF,qF] rfl rfl (qAl HT_.out (by kernel_rfl)) (fun _ _ _ h=>h) (Or.inl ⟨by rfl, ?_⟩) ?_ ?_
                rotate_left
                ·intro w'
                 go_simp
                 with_reducible rfl
                rotate_left
                ·simp only [Act.put,qs1,qs2,qs3,qAR,qAT]
                 rfl
                refine qBU (i:=4) (N:=some 83) (v := ?_) (a' := ?_) #[qT,qT,qT,qT,qT,qT,qF,qT,qF,qF,qF] rfl rfl (qAo HT_.out HW_.out (by kernel_rfl)) (fun _ _ _ h=>h) (Or.inl ⟨by rfl, ?_⟩) hHeld ?_ ?_
                rotate_left
                ·rintro w' ⟨s0,s1,s2,s3,s4,s5,s6,s7,s8,s9⟩
                 go_simp
                 with_reducible rfl
                rotate_left
                ·simp only [Act.put,qs1,qs2,qs3,qAR,qAT]
                 rfl
                refine qBU (i:=6) (N:=some 85) (v := ?_) (a' := ?_) #[qT,qT,qT,qT,qT,qT,qT,qT,qF,qF,qF] rfl rfl (qAo HT_.out HW_.out (by kernel_rfl)) (fun _ _ _ h=>h) (Or.inl ⟨by rfl, ?_⟩) hHeld ?_ ?_
                rotate_left
                ·rintro w' ⟨s0,s1,s2,s3,s4,s5,s6,s7,s8,s9⟩
                 go_simp
                 with_reducible rfl
                rotate_left
                ·simp only [Act.put,qs1,qs2,qs3,qAR,qAT]
                 rfl
                refine qAz (i:=8) (N:=some 87) (v := ?_) (a' := ?_) #[qT,qT,qT,qT,qT,qT,qT,qT,qT,qF,qF] rfl rfl (qAl HT_.out (by kernel_rfl)) (fun _ _ _ h=>h) (Or.inl ⟨by rfl, ?_⟩) ?_ ?_
                rotate_left
                ·intro w'
                 go_simp
                 with_reducible rfl
                rotate_left
                ·simp only [Act.put,qs1,qs2,qs3,qAR,qAT]
                 rfl
                refine qBU (i:=9) (N:=some 88) (v := ?_) (a' := ?_) #[qT,qT,qT,qT,qT,qT,qT,qT,qT,qT,qF] rfl rfl (qAo HT_.out HW_.out (by kernel_rfl)) (fun _ _ _ h=>h) (Or.inl ⟨by rfl, ?_⟩) hHeld ?_ ?_
                rotate_left
                ·rintro w' ⟨s0,s1,s2,s3,s4,s5,s6,s7,s8,s9⟩
                 go_simp
                 with_reducible rfl
                rotate_left
                ·simp only [Act.put,qs1,qs2,qs3,qAR,qAT]
                 rfl
                refine qAz (i:=10) (N:=some 89) (v := ?_) (a' := ?_) #[qT,qT,qT,qT,qT,qT,qT,qT,qT,qT,qT] rfl rfl (qAl HT_.out (by kernel_rfl)) (fun _ _ _ h=>h) (Or.inl ⟨by rfl, ?_⟩) ?_ ?_
                rotate_left
                ·intro w'
                 go_simp
                 with_reducible rfl
                rotate_left
                ·simp only [Act.put,qs1,qs2,qs3,qAR,qAT]
                 rfl
                refine qA6 (qCN HT_.out (by kernel_rfl)) ?_
                try go_wp2
                go_roundg k4
                case measure=>have:=HJ2.out;have:=HK2.out;have:=HK3.out;have:=HK4.out;omega
                case rel=>exact ⟨(wrap64 (x8_4+1)),(by first | rfl | (simp;done) | (simp [*];done)),H',⟨by have:=HJ2.out;have:=HK2.out;have:=HK3.out;have:=HK4.out;omega⟩,⟨by (with_reducible repeat (first | refine qAY ?_ _ | refine qAJ ?_ | refine qAK ?_ _));exact BK169.out⟩,⟨by (with_reducible repeat (first | refine qAY ?_ _ | refine qAJ ?_ | refine qAK ?_ _));exact BK170.out⟩,⟨by repeat (first | (with_reducible first | exact HB.out | apply qAH | apply qAI | apply qAN | refine qAQ ?_ GE169.out | refine qAQ ?_ GE170.out) | exact HB.out)⟩⟩
              ·rw [if_neg c47] at H
               exact absurd H (by simp)
             ·rw [if_neg c46] at H
              exact absurd H (by simp)
            ·rw [if_neg c45] at H
             have c45b0:decide (x8_4 < (l0_2.length:Int))=false:=decide_eq_false c45
             clear c45
             obtain rfl:=Option.some.inj H
             simp only [Option.some.injEq,Prod.mk.injEq] at H
             obtain ⟨rfl⟩:=H
             have hnb55:=NB169_170.out
             have hnc55:=NB170_169.out
             have hcz56_0:wr.cell? ⟨gb169,0,none⟩=some (.slice A0_0 l0_0.length c0_0):=(qAB BK169.out 0).trans rfl
             have hcz56_1:wr.cell? ⟨gb169,1,none⟩=some (.slice A0_1 l0_1.length c0_1):=(qAB BK169.out 1).trans rfl
             have hcz56_2:wr.cell? ⟨gb169,2,none⟩=some (.slice A0_2 l0_2.length c0_2):=(qAB BK169.out 2).trans rfl
             have hfz56_0:=qAC BK169.out 0
             have hfz56_1:=qAC BK169.out 1
             have hfz56_2:=qAC BK169.out 2
             go_wp2
             go_ret
             exact ⟨by first | rfl | (simp [qAu,qAt] <;> rfl) | (simp [*,qAu,qAt] <;> rfl),by repeat (first | (with_reducible first | exact HB.out | apply qAH | apply qAI | apply qAN | refine qAQ ?_ GE169.out | refine qAQ ?_ GE170.out) | exact HB.out)⟩
end Go.Proofs.Ytmehfnikecmiiaa.X
