import Derived.Test.YtmehfnikecmiiaaZModuleBackUpto3
set_option linter.unusedVariables false
set_option linter.unusedSimpArgs false
namespace Go.Proofs.Ytmehfnikecmiiaa.X
open Go.RowKit Go.Proofs.YtmehfnikecmiiaaW.PrintWords Go.Proofs.YtmehfnikecmiiaaW.PrintLast Go.Proofs.YtmehfnikecmiiaaW.PrintMore Go.Proofs.YtmehfnikecmiiaaW
attribute [local go_sem] qBF qBE qBY qBX qA9 qA8 qBI qBH
mutual
def qAG.j0:Nat→Bool→Int→Int→ByteArray→List (S48)→List ByteArray→Int→Int→ByteArray→List (S48)→List ByteArray→Option (Bool)
 | 0,_,_,_,_,_,_,_,_,_,_,_=>none
 | k+1,x44,x163000,x163001,x163002,x163003,x163004,x164000,x164001,x164002,x164003,x164004=>if x44=true then (some false) else (qAG.l0 k 0 x163000 x163001 x163002 x163003 x163004 x164000 x164001 x164002 x164003 x164004)
def qAG.l0:Nat→Int→Int→Int→ByteArray→List (S48)→List ByteArray→Int→Int→ByteArray→List (S48)→List ByteArray→Option (Bool)
 | 0,_,_,_,_,_,_,_,_,_,_,_=>none
 | k+1,x5,x163000,x163001,x163002,x163003,x163004,x164000,x164001,x164002,x164003,x164004=>if x5 < (x163004.length:Int) then (if 0≤x5 then (if x5 < (x164004.length:Int) then (if (rdOf ByteArray.empty x163004 x5).toList=(rdOf ByteArray.empty x164004 x5).toList then (qAG.l0 k (wrap64 (x5+1)) x163000 x163001 x163002 x163003 x163004 x164000 x164001 x164002 x164003 x164004) else (some false)) else (none)) else (none)) else (qAG.l1 k 0 x163000 x163001 x163002 x163003 x163004 x164000 x164001 x164002 x164003 x164004)
def qAG.l1:Nat→Int→Int→Int→ByteArray→List (S48)→List ByteArray→Int→Int→ByteArray→List (S48)→List ByteArray→Option (Bool)
 | 0,_,_,_,_,_,_,_,_,_,_,_=>none
 | k+1,x6,x163000,x163001,x163002,x163003,x163004,x164000,x164001,x164002,x164003,x164004=>if x6 < (x163003.length:Int) then (if 0≤x6 then (if x6 < (x164003.length:Int) then ((qAG.f k ((qAO x163003 x6).f0) ((qAO x163003 x6).f1) ((qAO x163003 x6).f2) ((qAO x163003 x6).f3) ((qAO x163003 x6).f4) ((qAO x164003 x6).f0) ((qAO x164003 x6).f1) ((qAO x164003 x6).f2) ((qAO x164003 x6).f3) ((qAO x164003 x6).f4)).bind fun t168=>(if t168=true then (qAG.l1 k (wrap64 (x6+1)) x163000 x163001 x163002 x163003 x163004 x164000 x164001 x164002 x164003 x164004) else (some false))) else (none)) else (none)) else (some true)
def qAG.f:Nat→Int→Int→ByteArray→List (S48)→List ByteArray→Int→Int→ByteArray→List (S48)→List ByteArray→Option (Bool)
 | 0,_,_,_,_,_,_,_,_,_,_=>none
 | k+1,a0_0,a0_1,a0_2,l0_3,l0_4,a1_0,a1_1,a1_2,l1_3,l1_4=>if a0_0=a1_0 then (if a0_1=a1_1 then (if a0_2.toList=a1_2.toList then (if (l0_3.length:Int)=(l1_3.length:Int) then (qAG.j0 k ((l0_4.length:Int) != (l1_4.length:Int)) a0_0 a0_1 a0_2 l0_3 l0_4 a1_0 a1_1 a1_2 l1_3 l1_4) else (qAG.j0 k true a0_0 a0_1 a0_2 l0_3 l0_4 a1_0 a1_1 a1_2 l1_3 l1_4)) else (qAG.j0 k true a0_0 a0_1 a0_2 l0_3 l0_4 a1_0 a1_1 a1_2 l1_3 l1_4)) else (qAG.j0 k true a0_0 a0_1 a0_2 l0_3 l0_4 a1_0 a1_1 a1_2 l1_3 l1_4)) else (qAG.j0 k true a0_0 a0_1 a0_2 l0_3 l0_4 a1_0 a1_1 a1_2 l1_3 l1_4)
end
def qAG.T6:Bool × List (List Nat × List Nat):=(true,[([],[]),([0],[0]),([],[]),([1,2],[1,2]),([3],[3]),([],[]),([5],[5]),([],[]),([6,7],[6,7]),([8],[8]),([4,9],[4,9])])
def qAG.B6:List Nat:=[0,1,0,7,15,0,32,0,224,480,1023]
theorem qAG.tab6:rtab .any (opsOf Try.f33 6)=qAG.T6:=by kernel_rfl
theorem qAG.bits6:qCS qAG.T6.2 qAG.B6=true:=by kernel_rfl
def qAG.T11:Bool × List (List Nat × List Nat):=(true,[([],[]),([0],[0]),([],[]),([1,2],[1,2]),([3],[3]),([],[]),([5],[5]),([],[]),([6,7],[6,7]),([8],[8]),([4,9],[4,9]),([10,10,0,1,2,3,4,5,6,7,8,9,10],[10])])
def qAG.B11:List Nat:=[0,1,0,7,15,0,32,0,224,480,1023,2047]
theorem qAG.tab11:rtab .any (opsOf Try.f33 11)=qAG.T11:=by kernel_rfl
theorem qAG.bits11:qCS qAG.T11.2 qAG.B11=true:=by kernel_rfl
set_option maxHeartbeats 8000000 in
set_option maxRecDepth 100000 in
theorem qAG.calls (k:Nat):∀ (a0_0:Int) (a0_1:Int) (a0_2:ByteArray) (A0_3:Option Addr) (c0_3:Nat) (l0_3:List (S48)) (A0_4:Option Addr) (c0_4:Nat) (l0_4:List ByteArray) (a1_0:Int) (a1_1:Int) (a1_2:ByteArray) (A1_3:Option Addr) (c1_3:Nat) (l1_3:List (S48)) (A1_4:Option Addr) (c1_4:Nat) (l1_4:List ByteArray) (r:Bool) (w:World) (hr0_3:Kd.C k48 w A0_3 l0_3.length l0_3) (hc0_3:l0_3.length≤c0_3) (hr0_4:Kd.C Kd.string w A0_4 l0_4.length l0_4) (hc0_4:l0_4.length≤c0_4) (hr1_3:Kd.C k48 w A1_3 l1_3.length l1_3) (hc1_3:l1_3.length≤c1_3) (hr1_4:Kd.C Kd.string w A1_4 l1_4.length l1_4) (hc1_4:l1_4.length≤c1_4) (h:qAG.f k a0_0 a0_1 a0_2 l0_3 l0_4 a1_0 a1_1 a1_2 l1_3 l1_4=some r),
  Calls Try.prog 33 #[.agg #[.int .i64 a0_0,.int .i64 a0_1,.string a0_2,.slice A0_3 l0_3.length c0_3,.slice A0_4 l0_4.length c0_4],.agg #[.int .i64 a1_0,.int .i64 a1_1,.string a1_2,.slice A1_3 l1_3.length c1_3,.slice A1_4 l1_4.length c1_4]] w fun e w'=>e=.returned (.bool r)∧Below w.heap.size w w':=by
 induction k using Nat.strongRecOn with
 | _ k ih =>
 intro a0_0 a0_1 a0_2 A0_3 c0_3 l0_3 A0_4 c0_4 l0_4 a1_0 a1_1 a1_2 A1_3 c1_3 l1_3 A1_4 c1_4 l1_4 r w hr0_3 hc0_3 hr0_4 hc0_4 hr1_3 hc1_3 hr1_4 hc1_4 h
 cases k with
 | zero=>exact absurd h (by simp [qAG.f])
 | succ k =>
 simp only [qAG.f] at h
 have hu48:=Try.underlying48
 have HR0_3:=qAA.mk hr0_3
 have HC0_3:=qAA.mk hc0_3
 clear hr0_3 hc0_3
 have HR0_4:=qAA.mk hr0_4
 have HC0_4:=qAA.mk hc0_4
 clear hr0_4 hc0_4
 have HR1_3:=qAA.mk hr1_3
 have HC1_3:=qAA.mk hc1_3
 clear hr1_3 hc1_3
 have HR1_4:=qAA.mk hr1_4
 have HC1_4:=qAA.mk hc1_4
 clear hr1_4 hc1_4
 have HB:=qAA.mk (Below.refl w.heap.size w)
 have H:(if a0_0=a1_0 then (if a0_1=a1_1 then (if a0_2.toList=a1_2.toList then (if (l0_3.length:Int)=(l1_3.length:Int) then (qAG.j0 k ((l0_4.length:Int) != (l1_4.length:Int)) a0_0 a0_1 a0_2 l0_3 l0_4 a1_0 a1_1 a1_2 l1_3 l1_4) else (qAG.j0 k true a0_0 a0_1 a0_2 l0_3 l0_4 a1_0 a1_1 a1_2 l1_3 l1_4)) else (qAG.j0 k true a0_0 a0_1 a0_2 l0_3 l0_4 a1_0 a1_1 a1_2 l1_3 l1_4)) else (qAG.j0 k true a0_0 a0_1 a0_2 l0_3 l0_4 a1_0 a1_1 a1_2 l1_3 l1_4)) else (qAG.j0 k true a0_0 a0_1 a0_2 l0_3 l0_4 a1_0 a1_1 a1_2 l1_3 l1_4))=some r:=h
 clear h
 have HC3:=qAA.mk H
 clear H
 go_enter Try.func33,Try.ntmps33
 go_upto_region 1 with (first | ((with_reducible refine qAr (N:=2) rfl ?_);(try (refine gate_guard (by rfl) ?_;dsimp only));refine qAk ?hg (N:=2) ?hd (cs:=#[.int .i64 a0_0,.int .i64 a0_1,.string a0_2,.slice A0_3 l0_3.length c0_3,.slice A0_4 l0_4.length c0_4]) (t:=48) ?hr ?_;(case hd=>rfl);(case hg=>rfl);(case hr=>first | (go_simp;done) | (go_simp;rfl));intro gb162 hg w4 hbox hb;have n0_:=qAA.mk (qAV (by repeat (first | (with_reducible first | exact HB.out | apply qAH | apply qAI | apply qAN) | exact HB.out)) hb);have n1_:=qAA.mk (hbox);have n2_:=qAA.mk ((by rw [hg];exact (qAw (by repeat (first | (with_reducible first | exact HB.out | apply qAH | apply qAI | apply qAN) | exact HB.out))):w.heap.size≤gb162));have n3_:=qAA.mk ((by rw [hg];exact (qAw (by repeat (first | (with_reducible first | exact HB.out | apply qAH | apply qAI | apply qAN) | exact HB.out))):w.heap.size≤gb162));clear HB;have HB:=n0_;have BK162:=n1_;have GW162:=n2_;have GE162:=n3_;clear n0_ n1_ n2_ n3_;clear hb hbox hg) | ((with_reducible refine qAr (N:=3) rfl ?_);(try (refine gate_guard (by rfl) ?_;dsimp only));refine qAk ?hg (N:=3) ?hd (cs:=#[.int .i64 a1_0,.int .i64 a1_1,.string a1_2,.slice A1_3 l1_3.length c1_3,.slice A1_4 l1_4.length c1_4]) (t:=48) ?hr ?_;(case hd=>rfl);(case hg=>rfl);(case hr=>first | (go_simp;done) | (go_simp;rfl));intro gb163 hg w5 hbox hb;have n0_:=qAA.mk (qAL (g:=gb162) (o:=.cells #[.int .i64 a0_0,.int .i64 a0_1,.string a0_2,.slice A0_3 l0_3.length c0_3,.slice A0_4 l0_4.length c0_4] 48 (0,0)) (by (with_reducible repeat (first | refine qAY ?_ _ | refine qAJ ?_ | refine qAK ?_ _));exact BK162.out) hb);have n1_:=qAA.mk (qAV (by repeat (first | (with_reducible first | exact HB.out | apply qAH | apply qAI | apply qAN | refine qAQ ?_ GE162.out) | exact HB.out)) hb);have n2_:=qAA.mk (hbox);have n3_:=qAA.mk ((by rw [hg];exact (qAw (by repeat (first | (with_reducible first | exact HB.out | apply qAH | apply qAI | apply qAN | refine qAQ ?_ GE162.out) | exact HB.out))):w.heap.size≤gb163));have n4_:=qAA.mk ((by rw [hg];exact (qAw (by repeat (first | (with_reducible first | exact HB.out | apply qAH | apply qAI | apply qAN | refine qAQ ?_ GE162.out) | exact HB.out))):w.heap.size≤gb163));have n5_:=qAA.mk ((by rw [hg];exact Nat.ne_of_lt (qAX (g:=gb162) (o:=.cells #[.int .i64 a0_0,.int .i64 a0_1,.string a0_2,.slice A0_3 l0_3.length c0_3,.slice A0_4 l0_4.length c0_4] 48 (0,0)) (by (with_reducible repeat (first | refine qAY ?_ _ | refine qAJ ?_ | refine qAK ?_ _));exact BK162.out)):gb162 ≠ gb163));have n6_:=qAA.mk ((by rw [hg];exact Nat.ne_of_gt (qAX (g:=gb162) (o:=.cells #[.int .i64 a0_0,.int .i64 a0_1,.string a0_2,.slice A0_3 l0_3.length c0_3,.slice A0_4 l0_4.length c0_4] 48 (0,0)) (by (with_reducible repeat (first | refine qAY ?_ _ | refine qAJ ?_ | refine qAK ?_ _));exact BK162.out)):gb163 ≠ gb162));clear BK162;clear HB;have BK162:=n0_;have HB:=n1_;have BK163:=n2_;have GW163:=n3_;have GE163:=n4_;have NB162_163:=n5_;have NB163_162:=n6_;clear n0_ n1_ n2_ n3_ n4_ n5_ n6_;clear hb hbox hg))
 (try simp only [Act.put,qs1,qs2,qs3])
 go_cut [44] (fun v44 wc=>∃ (kq:Nat) (x44_2:Bool),v44=.bool x44_2∧qAA (qAG.j0 kq x44_2 a0_0 a0_1 a0_2 l0_3 l0_4 a1_0 a1_1 a1_2 l1_3 l1_4=some r)∧qAA (kq≤k)∧qAA (wc.heap[gb162]?=some (.cells #[.int .i64 a0_0,.int .i64 a0_1,.string a0_2,(.slice A0_3 l0_3.length c0_3),(.slice A0_4 l0_4.length c0_4)] 48 (0,0)))∧qAA (wc.heap[gb163]?=some (.cells #[.int .i64 a1_0,.int .i64 a1_1,.string a1_2,(.slice A1_3 l1_3.length c1_3),(.slice A1_4 l1_4.length c1_4)] 48 (0,0)))∧qAA (Below w.heap.size w wc))
 case first =>
  have H:=HC3.out
  clear HC3
  by_cases c6:a0_0=a1_0
  ·rw [if_pos c6] at H
   have c6b0:(a0_0 == a1_0)=true:=beq_iff_eq.mpr c6
   have c6b1:(a0_0 != a1_0)=false:=bne_eq_false_iff_eq.mpr c6
   clear c6
   (first | rw [c6b0] | (simp only [qAR,qAT];rw [c6b0]) | rw [c6b1] | (simp only [qAR,qAT];rw [c6b1]) | skip)
   by_cases c7:a0_1=a1_1
   ·rw [if_pos c7] at H
    have c7b0:(a0_1 == a1_1)=true:=beq_iff_eq.mpr c7
    have c7b1:(a0_1 != a1_1)=false:=bne_eq_false_iff_eq.mpr c7
    clear c7
    by_cases c8:a0_2.toList=a1_2.toList
    ·rw [if_pos c8] at H
     have c8b0:(a0_2.toList == a1_2.toList)=true:=beq_iff_eq.mpr c8
     have c8b1:(a0_2.toList != a1_2.toList)=false:=bne_eq_false_iff_eq.mpr c8
     clear c8
     by_cases c9:(l0_3.length:Int)=(l1_3.length:Int)
     ·rw [if_pos c9] at H
      have c9b0:((l0_3.length:Int) == (l1_3.length:Int))=true:=beq_iff_eq.mpr c9
      have c9b1:((l0_3.length:Int) != (l1_3.length:Int))=false:=bne_eq_false_iff_eq.mpr c9
      have c9b2:(l0_3.length == l1_3.length)=true:=by first | simpa using c9 | (simp at c9 ⊢;omega)
      clear c9
      have H':=qAA.mk H
      clear H
      have hnb10:=NB162_163.out
      have hnc10:=NB163_162.out
      have hcz11_0:w5.cell? ⟨gb162,0,none⟩=some (.int .i64 a0_0):=(qAB BK162.out 0).trans rfl
      have hcz11_1:w5.cell? ⟨gb162,1,none⟩=some (.int .i64 a0_1):=(qAB BK162.out 1).trans rfl
      have hcz11_2:w5.cell? ⟨gb162,2,none⟩=some (.string a0_2):=(qAB BK162.out 2).trans rfl
      have hcz11_3:w5.cell? ⟨gb162,3,none⟩=some (.slice A0_3 l0_3.length c0_3):=(qAB BK162.out 3).trans rfl
      have hcz11_4:w5.cell? ⟨gb162,4,none⟩=some (.slice A0_4 l0_4.length c0_4):=(qAB BK162.out 4).trans rfl
      have hfz11_0:=qAC BK162.out 0
      have hfz11_1:=qAC BK162.out 1
      have hfz11_2:=qAC BK162.out 2
      have hfz11_3:=qAC BK162.out 3
      have hfz11_4:=qAC BK162.out 4
      have hcz12_0:w5.cell? ⟨gb163,0,none⟩=some (.int .i64 a1_0):=(qAB BK163.out 0).trans rfl
      have hcz12_1:w5.cell? ⟨gb163,1,none⟩=some (.int .i64 a1_1):=(qAB BK163.out 1).trans rfl
      have hcz12_2:w5.cell? ⟨gb163,2,none⟩=some (.string a1_2):=(qAB BK163.out 2).trans rfl
      have hcz12_3:w5.cell? ⟨gb163,3,none⟩=some (.slice A1_3 l1_3.length c1_3):=(qAB BK163.out 3).trans rfl
      have hcz12_4:w5.cell? ⟨gb163,4,none⟩=some (.slice A1_4 l1_4.length c1_4):=(qAB BK163.out 4).trans rfl
      have hfz12_0:=qAC BK163.out 0
      have hfz12_1:=qAC BK163.out 1
      have hfz12_2:=qAC BK163.out 2
      have hfz12_3:=qAC BK163.out 3
      have hfz12_4:=qAC BK163.out 4
      go_wp2
      go_meet
      case rel=>exact ⟨_,(((l0_4.length:Int) != (l1_4.length:Int))),(by first | rfl | (simp;done) | (simp [*];done)),H',⟨by first | omega | exact Nat.le_refl _⟩,⟨by (with_reducible repeat (first | refine qAY ?_ _ | refine qAJ ?_ | refine qAK ?_ _));exact BK162.out⟩,⟨by (with_reducible repeat (first | refine qAY ?_ _ | refine qAJ ?_ | refine qAK ?_ _));exact BK163.out⟩,⟨by repeat (first | (with_reducible first | exact HB.out | apply qAH | apply qAI | apply qAN | refine qAQ ?_ GE162.out | refine qAQ ?_ GE163.out) | exact HB.out)⟩⟩
     ·rw [if_neg c9] at H
      have c9b0:((l0_3.length:Int) == (l1_3.length:Int))=false:=beq_eq_false_iff_ne.mpr c9
      have c9b1:((l0_3.length:Int) != (l1_3.length:Int))=true:=bne_iff_ne.mpr c9
      have c9b2:(l0_3.length == l1_3.length)=false:=by first | simpa using c9 | (simp at c9 ⊢;omega)
      have H':=qAA.mk H
      clear H
      have hnb13:=NB162_163.out
      have hnc13:=NB163_162.out
      have hcz14_0:w5.cell? ⟨gb162,0,none⟩=some (.int .i64 a0_0):=(qAB BK162.out 0).trans rfl
      have hcz14_1:w5.cell? ⟨gb162,1,none⟩=some (.int .i64 a0_1):=(qAB BK162.out 1).trans rfl
      have hcz14_2:w5.cell? ⟨gb162,2,none⟩=some (.string a0_2):=(qAB BK162.out 2).trans rfl
      have hcz14_3:w5.cell? ⟨gb162,3,none⟩=some (.slice A0_3 l0_3.length c0_3):=(qAB BK162.out 3).trans rfl
      have hcz14_4:w5.cell? ⟨gb162,4,none⟩=some (.slice A0_4 l0_4.length c0_4):=(qAB BK162.out 4).trans rfl
      have hfz14_0:=qAC BK162.out 0
      have hfz14_1:=qAC BK162.out 1
      have hfz14_2:=qAC BK162.out 2
      have hfz14_3:=qAC BK162.out 3
      have hfz14_4:=qAC BK162.out 4
      have hcz15_0:w5.cell? ⟨gb163,0,none⟩=some (.int .i64 a1_0):=(qAB BK163.out 0).trans rfl
      have hcz15_1:w5.cell? ⟨gb163,1,none⟩=some (.int .i64 a1_1):=(qAB BK163.out 1).trans rfl
      have hcz15_2:w5.cell? ⟨gb163,2,none⟩=some (.string a1_2):=(qAB BK163.out 2).trans rfl
      have hcz15_3:w5.cell? ⟨gb163,3,none⟩=some (.slice A1_3 l1_3.length c1_3):=(qAB BK163.out 3).trans rfl
      have hcz15_4:w5.cell? ⟨gb163,4,none⟩=some (.slice A1_4 l1_4.length c1_4):=(qAB BK163.out 4).trans rfl
      have hfz15_0:=qAC BK163.out 0
      have hfz15_1:=qAC BK163.out 1
      have hfz15_2:=qAC BK163.out 2
      have hfz15_3:=qAC BK163.out 3
      have hfz15_4:=qAC BK163.out 4
      go_wp2
      go_meet
      case rel=>exact ⟨_,(true),(by first | rfl | (simp;done) | (simp [*];done)),H',⟨by first | omega | exact Nat.le_refl _⟩,⟨by (with_reducible repeat (first | refine qAY ?_ _ | refine qAJ ?_ | refine qAK ?_ _));exact BK162.out⟩,⟨by (with_reducible repeat (first | refine qAY ?_ _ | refine qAJ ?_ | refine qAK ?_ _));exact BK163.out⟩,⟨by repeat (first | (with_reducible first | exact HB.out | apply qAH | apply qAI | apply qAN | refine qAQ ?_ GE162.out | refine qAQ ?_ GE163.out) | exact HB.out)⟩⟩
    ·rw [if_neg c8] at H
     have c8b0:(a0_2.toList == a1_2.toList)=false:=beq_eq_false_iff_ne.mpr c8
     have c8b1:(a0_2.toList != a1_2.toList)=true:=bne_iff_ne.mpr c8
     have H':=qAA.mk H
     clear H
     have hnb16:=NB162_163.out
     have hnc16:=NB163_162.out
     have hcz17_0:w5.cell? ⟨gb162,0,none⟩=some (.int .i64 a0_0):=(qAB BK162.out 0).trans rfl
     have hcz17_1:w5.cell? ⟨gb162,1,none⟩=some (.int .i64 a0_1):=(qAB BK162.out 1).trans rfl
     have hcz17_2:w5.cell? ⟨gb162,2,none⟩=some (.string a0_2):=(qAB BK162.out 2).trans rfl
     have hcz17_3:w5.cell? ⟨gb162,3,none⟩=some (.slice A0_3 l0_3.length c0_3):=(qAB BK162.out 3).trans rfl
     have hcz17_4:w5.cell? ⟨gb162,4,none⟩=some (.slice A0_4 l0_4.length c0_4):=(qAB BK162.out 4).trans rfl
     have hfz17_0:=qAC BK162.out 0
     have hfz17_1:=qAC BK162.out 1
     have hfz17_2:=qAC BK162.out 2
     have hfz17_3:=qAC BK162.out 3
     have hfz17_4:=qAC BK162.out 4
     have hcz18_0:w5.cell? ⟨gb163,0,none⟩=some (.int .i64 a1_0):=(qAB BK163.out 0).trans rfl
     have hcz18_1:w5.cell? ⟨gb163,1,none⟩=some (.int .i64 a1_1):=(qAB BK163.out 1).trans rfl
     have hcz18_2:w5.cell? ⟨gb163,2,none⟩=some (.string a1_2):=(qAB BK163.out 2).trans rfl
     have hcz18_3:w5.cell? ⟨gb163,3,none⟩=some (.slice A1_3 l1_3.length c1_3):=(qAB BK163.out 3).trans rfl
     have hcz18_4:w5.cell? ⟨gb163,4,none⟩=some (.slice A1_4 l1_4.length c1_4):=(qAB BK163.out 4).trans rfl
     have hfz18_0:=qAC BK163.out 0
     have hfz18_1:=qAC BK163.out 1
     have hfz18_2:=qAC BK163.out 2
     have hfz18_3:=qAC BK163.out 3
     have hfz18_4:=qAC BK163.out 4
     go_wp2
     go_meet
     case rel=>exact ⟨_,(true),(by first | rfl | (simp;done) | (simp [*];done)),H',⟨by first | omega | exact Nat.le_refl _⟩,⟨by (with_reducible repeat (first | refine qAY ?_ _ | refine qAJ ?_ | refine qAK ?_ _));exact BK162.out⟩,⟨by (with_reducible repeat (first | refine qAY ?_ _ | refine qAJ ?_ | refine qAK ?_ _));exact BK163.out⟩,⟨by repeat (first | (with_reducible first | exact HB.out | apply qAH | apply qAI | apply qAN | refine qAQ ?_ GE162.out | refine qAQ ?_ GE163.out) | exact HB.out)⟩⟩
   ·rw [if_neg c7] at H
    have c7b0:(a0_1 == a1_1)=false:=beq_eq_false_iff_ne.mpr c7
    have c7b1:(a0_1 != a1_1)=true:=bne_iff_ne.mpr c7
    have H':=qAA.mk H
    clear H
    have hnb19:=NB162_163.out
    have hnc19:=NB163_162.out
    have hcz20_0:w5.cell? ⟨gb162,0,none⟩=some (.int .i64 a0_0):=(qAB BK162.out 0).trans rfl
    have hcz20_1:w5.cell? ⟨gb162,1,none⟩=some (.int .i64 a0_1):=(qAB BK162.out 1).trans rfl
    have hcz20_2:w5.cell? ⟨gb162,2,none⟩=some (.string a0_2):=(qAB BK162.out 2).trans rfl
    have hcz20_3:w5.cell? ⟨gb162,3,none⟩=some (.slice A0_3 l0_3.length c0_3):=(qAB BK162.out 3).trans rfl
    have hcz20_4:w5.cell? ⟨gb162,4,none⟩=some (.slice A0_4 l0_4.length c0_4):=(qAB BK162.out 4).trans rfl
    have hfz20_0:=qAC BK162.out 0
    have hfz20_1:=qAC BK162.out 1
    have hfz20_2:=qAC BK162.out 2
    have hfz20_3:=qAC BK162.out 3
    have hfz20_4:=qAC BK162.out 4
    have hcz21_0:w5.cell? ⟨gb163,0,none⟩=some (.int .i64 a1_0):=(qAB BK163.out 0).trans rfl
    have hcz21_1:w5.cell? ⟨gb163,1,none⟩=some (.int .i64 a1_1):=(qAB BK163.out 1).trans rfl
    have hcz21_2:w5.cell? ⟨gb163,2,none⟩=some (.string a1_2):=(qAB BK163.out 2).trans rfl
    have hcz21_3:w5.cell? ⟨gb163,3,none⟩=some (.slice A1_3 l1_3.length c1_3):=(qAB BK163.out 3).trans rfl
    have hcz21_4:w5.cell? ⟨gb163,4,none⟩=some (.slice A1_4 l1_4.length c1_4):=(qAB BK163.out 4).trans rfl
    have hfz21_0:=qAC BK163.out 0
    have hfz21_1:=qAC BK163.out 1
    have hfz21_2:=qAC BK163.out 2
    have hfz21_3:=qAC BK163.out 3
    have hfz21_4:=qAC BK163.out 4
    go_wp2
    go_meet
    case rel=>exact ⟨_,(true),(by first | rfl | (simp;done) | (simp [*];done)),H',⟨by first | omega | exact Nat.le_refl _⟩,⟨by (with_reducible repeat (first | refine qAY ?_ _ | refine qAJ ?_ | refine qAK ?_ _));exact BK162.out⟩,⟨by (with_reducible repeat (first | refine qAY ?_ _ | refine qAJ ?_ | refine qAK ?_ _));exact BK163.out⟩,⟨by repeat (first | (with_reducible first | exact HB.out | apply qAH | apply qAI | apply qAN | refine qAQ ?_ GE162.out | refine qAQ ?_ GE163.out) | exact HB.out)⟩⟩
  ·rw [if_neg c6] at H
   have c6b0:(a0_0 == a1_0)=false:=beq_eq_false_iff_ne.mpr c6
   have c6b1:(a0_0 != a1_0)=true:=bne_iff_ne.mpr c6
   (first | rw [c6b0] | (simp only [qAR,qAT];rw [c6b0]) | rw [c6b1] | (simp only [qAR,qAT];rw [c6b1]) | skip)
   have H':=qAA.mk H
   clear H
   have hnb22:=NB162_163.out
   have hnc22:=NB163_162.out
   have hcz23_0:w5.cell? ⟨gb162,0,none⟩=some (.int .i64 a0_0):=(qAB BK162.out 0).trans rfl
   have hcz23_1:w5.cell? ⟨gb162,1,none⟩=some (.int .i64 a0_1):=(qAB BK162.out 1).trans rfl
   have hcz23_2:w5.cell? ⟨gb162,2,none⟩=some (.string a0_2):=(qAB BK162.out 2).trans rfl
   have hcz23_3:w5.cell? ⟨gb162,3,none⟩=some (.slice A0_3 l0_3.length c0_3):=(qAB BK162.out 3).trans rfl
   have hcz23_4:w5.cell? ⟨gb162,4,none⟩=some (.slice A0_4 l0_4.length c0_4):=(qAB BK162.out 4).trans rfl
   have hfz23_0:=qAC BK162.out 0
   have hfz23_1:=qAC BK162.out 1
   have hfz23_2:=qAC BK162.out 2
   have hfz23_3:=qAC BK162.out 3
   have hfz23_4:=qAC BK162.out 4
   have hcz24_0:w5.cell? ⟨gb163,0,none⟩=some (.int .i64 a1_0):=(qAB BK163.out 0).trans rfl
   have hcz24_1:w5.cell? ⟨gb163,1,none⟩=some (.int .i64 a1_1):=(qAB BK163.out 1).trans rfl
   have hcz24_2:w5.cell? ⟨gb163,2,none⟩=some (.string a1_2):=(qAB BK163.out 2).trans rfl
   have hcz24_3:w5.cell? ⟨gb163,3,none⟩=some (.slice A1_3 l1_3.length c1_3):=(qAB BK163.out 3).trans rfl
   have hcz24_4:w5.cell? ⟨gb163,4,none⟩=some (.slice A1_4 l1_4.length c1_4):=(qAB BK163.out 4).trans rfl
   have hfz24_0:=qAC BK163.out 0
   have hfz24_1:=qAC BK163.out 1
   have hfz24_2:=qAC BK163.out 2
   have hfz24_3:=qAC BK163.out 3
   have hfz24_4:=qAC BK163.out 4
   go_wp2
   go_meet
   case rel=>exact ⟨_,(true),(by first | rfl | (simp;done) | (simp [*];done)),H',⟨by first | omega | exact Nat.le_refl _⟩,⟨by (with_reducible repeat (first | refine qAY ?_ _ | refine qAJ ?_ | refine qAK ?_ _));exact BK162.out⟩,⟨by (with_reducible repeat (first | refine qAY ?_ _ | refine qAJ ?_ | refine qAK ?_ _));exact BK163.out⟩,⟨by repeat (first | (with_reducible first | exact HB.out | apply qAH | apply qAI | apply qAN | refine qAQ ?_ GE162.out | refine qAQ ?_ GE163.out) | exact HB.out)⟩⟩
 case rest =>
  clear HC3
  try clear c1
  try clear c2
  try clear p2
  try clear c3
  try clear c6
  try clear c6b0
  try clear c6b1
  try clear c7
  try clear c7b0
  try clear c7b1
  try clear c8
  try clear c8b0
  try clear c8b1
  try clear c9
  try clear c9b0
  try clear c9b1
  try clear c9b2
  try clear c10
  try clear c13
  try clear c16
  try clear c19
  try clear c22
  try clear hcz11_0
  try clear hcz11_1
  try clear hcz11_2
  try clear hcz11_3
  try clear hcz11_4
  try clear hcz12_0
  try clear hcz12_1
  try clear hcz12_2
  try clear hcz12_3
  try clear hcz12_4
  try clear hcz14_0
  try clear hcz14_1
  try clear hcz14_2
  try clear hcz14_3
  try clear hcz14_4
  try clear hcz15_0
  try clear hcz15_1
  try clear hcz15_2
  try clear hcz15_3
  try clear hcz15_4
  try clear hcz17_0
  try clear hcz17_1
  try clear hcz17_2
  try clear hcz17_3
  try clear hcz17_4
  try clear hcz18_0
  try clear hcz18_1
  try clear hcz18_2
  try clear hcz18_3
  try clear hcz18_4
  try clear hcz20_0
  try clear hcz20_1
  try clear hcz20_2
  try clear hcz20_3
  try clear hcz20_4
  try clear hcz21_0
  try clear hcz21_1
  try clear hcz21_2
  try clear hcz21_3
  try clear hcz21_4
  try clear hcz23_0
  try clear hcz23_1
  try clear hcz23_2
  try clear hcz23_3
  try clear hcz23_4
  try clear hcz24_0
  try clear hcz24_1
  try clear hcz24_2
  try clear hcz24_3
  try clear hcz24_4
  try clear hfz11_0
  try clear hfz11_1
  try clear hfz11_2
  try clear hfz11_3
  try clear hfz11_4
  try clear hfz12_0
  try clear hfz12_1
  try clear hfz12_2
  try clear hfz12_3
  try clear hfz12_4
  try clear hfz14_0
  try clear hfz14_1
  try clear hfz14_2
  try clear hfz14_3
  try clear hfz14_4
  try clear hfz15_0
  try clear hfz15_1
  try clear hfz15_2
  try clear hfz15_3
  try clear hfz15_4
  try clear hfz17_0
  try clear hfz17_1
  try clear hfz17_2
  try clear hfz17_3
  try clear hfz17_4
  try clear hfz18_0
  try clear hfz18_1
  try clear hfz18_2
  try clear hfz18_3
  try clear hfz18_4
  try clear hfz20_0
  try clear hfz20_1
  try clear hfz20_2
  try clear hfz20_3
  try clear hfz20_4
  try clear hfz21_0
  try clear hfz21_1
  try clear hfz21_2
  try clear hfz21_3
  try clear hfz21_4
  try clear hfz23_0
  try clear hfz23_1
  try clear hfz23_2
  try clear hfz23_3
  try clear hfz23_4
  try clear hfz24_0
  try clear hfz24_1
  try clear hfz24_2
  try clear hfz24_3
  try clear hfz24_4
  obtain ⟨kq,x44_2,rfl,HA,HJ2,BK162,BK163,HB⟩:=hcut
  cases kq with
  | zero=>exact absurd HA.out (by simp [qAG.j0])
  | succ kj2 =>
   have H:=HA.out
   clear HA
   simp only [qAG.j0] at H
   by_cases c25:x44_2=true
   ·subst c25
    have H1:(some false)=some r:=by rw [if_pos rfl] at H;exact H
    clear H
    have H:=H1
    clear H1
    obtain rfl:=Option.some.inj H
    simp only [Option.some.injEq,Prod.mk.injEq] at H
    obtain ⟨rfl⟩:=H
    go_wp2
    go_ret
    exact ⟨by first | rfl | (simp [qAu,qAt] <;> rfl) | (simp [*,qAu,qAt] <;> rfl),by repeat (first | (with_reducible first | exact HB.out | apply qAH | apply qAI | apply qAN | refine qAQ ?_ GE162.out | refine qAQ ?_ GE163.out) | exact HB.out)⟩
   ·replace c25:=Bool.eq_false_iff.mpr c25
    subst c25
    have H1:(qAG.l0 kj2 0 a0_0 a0_1 a0_2 l0_3 l0_4 a1_0 a1_1 a1_2 l1_3 l1_4)=some r:=by rw [if_neg (show ¬ (false=true) by decide)] at H;exact H
    clear H
    have H:=H1
    clear H1
    have H':=qAA.mk H
    clear H
    go_wp2
    go_loopg [5] kj2 (fun kq v5 w'=>∃ (x5_2:Int),v5=.int .i64 x5_2∧qAA (qAG.l0 kq x5_2 a0_0 a0_1 a0_2 l0_3 l0_4 a1_0 a1_1 a1_2 l1_3 l1_4=some r)∧qAA (kq≤kj2)∧qAA (w'.heap[gb162]?=some (.cells #[.int .i64 a0_0,.int .i64 a0_1,.string a0_2,(.slice A0_3 l0_3.length c0_3),(.slice A0_4 l0_4.length c0_4)] 48 (0,0)))∧qAA (w'.heap[gb163]?=some (.cells #[.int .i64 a1_0,.int .i64 a1_1,.string a1_2,(.slice A1_3 l1_3.length c1_3),(.slice A1_4 l1_4.length c1_4)] 48 (0,0)))∧qAA (Below w.heap.size w w'))
    case atStart=>exact ⟨(0),(by first | rfl | (simp;done) | (simp [*];done)),H',⟨Nat.le_refl _⟩,⟨by (with_reducible repeat (first | refine qAY ?_ _ | refine qAJ ?_ | refine qAK ?_ _));exact BK162.out⟩,⟨by (with_reducible repeat (first | refine qAY ?_ _ | refine qAJ ?_ | refine qAK ?_ _));exact BK163.out⟩,⟨by repeat (first | (with_reducible first | exact HB.out | apply qAH | apply qAI | apply qAN | refine qAQ ?_ GE162.out | refine qAQ ?_ GE163.out) | exact HB.out)⟩⟩
    case round =>
     clear H'
     try clear c1
     try clear c2
     try clear p2
     try clear c3
     try clear c6
     try clear c6b0
     try clear c6b1
     try clear c7
     try clear c7b0
     try clear c7b1
     try clear c8
     try clear c8b0
     try clear c8b1
     try clear c9
     try clear c9b0
     try clear c9b1
     try clear c9b2
     try clear c10
     try clear c13
     try clear c16
     try clear c19
     try clear c22
     try clear c25
     try clear hcz11_0
     try clear hcz11_1
     try clear hcz11_2
     try clear hcz11_3
     try clear hcz11_4
     try clear hcz12_0
     try clear hcz12_1
     try clear hcz12_2
     try clear hcz12_3
     try clear hcz12_4
     try clear hcz14_0
     try clear hcz14_1
     try clear hcz14_2
     try clear hcz14_3
     try clear hcz14_4
     try clear hcz15_0
     try clear hcz15_1
     try clear hcz15_2
     try clear hcz15_3
     try clear hcz15_4
     try clear hcz17_0
     try clear hcz17_1
     try clear hcz17_2
     try clear hcz17_3
     try clear hcz17_4
     try clear hcz18_0
     try clear hcz18_1
     try clear hcz18_2
     try clear hcz18_3
     try clear hcz18_4
     try clear hcz20_0
     try clear hcz20_1
     try clear hcz20_2
     try clear hcz20_3
     try clear hcz20_4
     try clear hcz21_0
     try clear hcz21_1
     try clear hcz21_2
     try clear hcz21_3
     try clear hcz21_4
     try clear hcz23_0
     try clear hcz23_1
     try clear hcz23_2
     try clear hcz23_3
     try clear hcz23_4
     try clear hcz24_0
     try clear hcz24_1
     try clear hcz24_2
     try clear hcz24_3
     try clear hcz24_4
     try clear hfz11_0
     try clear hfz11_1
     try clear hfz11_2
     try clear hfz11_3
     try clear hfz11_4
     try clear hfz12_0
     try clear hfz12_1
     try clear hfz12_2
     try clear hfz12_3
     try clear hfz12_4
     try clear hfz14_0
     try clear hfz14_1
     try clear hfz14_2
     try clear hfz14_3
     try clear hfz14_4
     try clear hfz15_0
     try clear hfz15_1
     try clear hfz15_2
     try clear hfz15_3
     try clear hfz15_4
     try clear hfz17_0
     try clear hfz17_1
     try clear hfz17_2
     try clear hfz17_3
     try clear hfz17_4
     try clear hfz18_0
     try clear hfz18_1
     try clear hfz18_2
     try clear hfz18_3
     try clear hfz18_4
     try clear hfz20_0
     try clear hfz20_1
     try clear hfz20_2
     try clear hfz20_3
     try clear hfz20_4
     try clear hfz21_0
     try clear hfz21_1
     try clear hfz21_2
     try clear hfz21_3
     try clear hfz21_4
     try clear hfz23_0
     try clear hfz23_1
     try clear hfz23_2
     try clear hfz23_3
     try clear hfz23_4
     try clear hfz24_0
     try clear hfz24_1
     try clear hfz24_2
     try clear hfz24_3
     try clear hfz24_4
     try clear p2
     obtain ⟨x5_2,rfl,HA,HK2,BK162,BK163,HB⟩:=hrel
     cases gk with
     | zero=>exact absurd HA.out (by simp [qAG.l0])
     | succ k2 =>
      have H:=HA.out
      clear HA
      simp only [qAG.l0] at H
      by_cases c26:x5_2 < (l0_4.length:Int)
      ·rw [if_pos c26] at H
       have c26b0:decide (x5_2 < (l0_4.length:Int))=true:=decide_eq_true c26
       clear c26
       by_cases c27:0≤x5_2
       ·rw [if_pos c27] at H
        have c27b0:decide (0≤x5_2)=true:=decide_eq_true c27
        clear c27
        by_cases c28:x5_2 < (l1_4.length:Int)
        ·rw [if_pos c28] at H
         have c28b0:decide (x5_2 < (l1_4.length:Int))=true:=decide_eq_true c28
         clear c28
         by_cases c29:(rdOf ByteArray.empty l0_4 x5_2).toList=(rdOf ByteArray.empty l1_4 x5_2).toList
         ·rw [if_pos c29] at H
          have c29b0:((rdOf ByteArray.empty l0_4 x5_2).toList == (rdOf ByteArray.empty l1_4 x5_2).toList)=true:=beq_iff_eq.mpr c29
          have c29b1:((rdOf ByteArray.empty l0_4 x5_2).toList != (rdOf ByteArray.empty l1_4 x5_2).toList)=false:=bne_eq_false_iff_eq.mpr c29
          clear c29
          have H':=qAA.mk H
          clear H
          have hnb30:=NB162_163.out
          have hnc30:=NB163_162.out
          have hcz31_0:wr.cell? ⟨gb162,0,none⟩=some (.int .i64 a0_0):=(qAB BK162.out 0).trans rfl
          have hcz31_1:wr.cell? ⟨gb162,1,none⟩=some (.int .i64 a0_1):=(qAB BK162.out 1).trans rfl
          have hcz31_2:wr.cell? ⟨gb162,2,none⟩=some (.string a0_2):=(qAB BK162.out 2).trans rfl
          have hcz31_3:wr.cell? ⟨gb162,3,none⟩=some (.slice A0_3 l0_3.length c0_3):=(qAB BK162.out 3).trans rfl
          have hcz31_4:wr.cell? ⟨gb162,4,none⟩=some (.slice A0_4 l0_4.length c0_4):=(qAB BK162.out 4).trans rfl
          have hfz31_0:=qAC BK162.out 0
          have hfz31_1:=qAC BK162.out 1
          have hfz31_2:=qAC BK162.out 2
          have hfz31_3:=qAC BK162.out 3
          have hfz31_4:=qAC BK162.out 4
          try go_wp2
          have n0_:=qAA.mk (qAJ BK162.out)
          have n1_:=qAA.mk (qAJ BK163.out)
          have n2_:=qAA.mk (qAN HB.out)
          clear BK162
          clear BK163
          clear HB
          have BK162:=n0_
          have BK163:=n1_
          have HB:=n2_
          clear n0_ n1_ n2_
          have p164:0≤(x5_2:Int):=of_decide_eq_true (by first | (with_reducible assumption) | assumption)
          have q164:x5_2 < (l0_4.length:Int):=of_decide_eq_true (by first | (with_reducible assumption) | assumption)
          obtain ⟨ad164,e164,hx164_0⟩:=Kd.qBz HR0_4.out x5_2 p164 q164
          have hw164_0:=hx164_0
          cases e164
          replace hx164_0:=(HB.out.cell (qs4 w _ hx164_0)).trans hx164_0
          replace p164:=eq_true p164
          replace q164:=eq_true q164
          have p165:0≤(x5_2:Int):=of_decide_eq_true (by first | (with_reducible assumption) | assumption)
          have q165:x5_2 < (l1_4.length:Int):=of_decide_eq_true (by first | (with_reducible assumption) | assumption)
          obtain ⟨ad165,e165,hx165_0⟩:=Kd.qBz HR1_4.out x5_2 p165 q165
          have hw165_0:=hx165_0
          cases e165
          replace hx165_0:=(HB.out.cell (qs4 w _ hx165_0)).trans hx165_0
          replace p165:=eq_true p165
          replace q165:=eq_true q165
          refine qAn (n:=11) (S:=fun w'=>w'.cell? ⟨gb162,0,none⟩=some (.int .i64 a0_0)∧w'.cell? ⟨gb162,1,none⟩=some (.int .i64 a0_1)∧w'.cell? ⟨gb162,2,none⟩=some (.string a0_2)∧w'.cell? ⟨gb162,3,none⟩=some (.slice A0_3 l0_3.length c0_3)∧w'.cell? ⟨gb162,4,none⟩=some (.slice (some ad164) l0_4.length c0_4)∧w'.cell? ⟨gb163,0,none⟩=some (.int .i64 a1_0)∧w'.cell? ⟨gb163,1,none⟩=some (.int .i64 a1_1)∧w'.cell? ⟨gb163,2,none⟩=some (.string a1_2)∧w'.cell? ⟨gb163,3,none⟩=some (.slice A1_3 l1_3.length c1_3)∧w'.cell? ⟨gb163,4,none⟩=some (.slice (some ad165) l1_4.length c1_4)∧w'.cell? (ad164.add (x5_2).toNat)=some (.string (rdOf ByteArray.empty l0_4 x5_2))∧w'.cell? (ad165.add (x5_2).toNat)=some (.string (rdOf ByteArray.empty l1_4 x5_2))) (ds:=[]) #[qF,qF,qF,qF,qF,qF,qF,qF,qF,qF,qF] (by kernel_rfl) rfl rfl ⟨(qAB BK162.out 0).trans rfl,(qAB BK162.out 1).trans rfl,(qAB BK162.out 2).trans rfl,(qAB BK162.out 3).trans rfl,(qAB BK162.out 4).trans rfl,(qAB BK163.out 0).trans rfl,(qAB BK163.out 1).trans rfl,(qAB BK163.out 2).trans rfl,(qAB BK163.out 3).trans rfl,(qAB BK163.out 4).trans rfl,((HB.out.cell (qs4 w _ hw164_0)).trans hw164_0),((HB.out.cell (qs4 w _ hw165_0)).trans hw165_0)⟩ (fun hHeld => ?_);refine qBq qAG.tab6 qAG.bits6 (fun HT_ HW_ => ?_)
          generalize wr.drew=w32 at BK162 BK163 HB hx164_0 hx165_0 hHeld ⊢
          refine qAz (i:=0) (N:=some 52) (v := ?_) (a' := ?_) #[qT,qF,qF,qF,qF,qF,qF,qF,qF,qF,qF] rfl rfl (qAl HT_.out (by kernel_rfl)) (fun _ _ _ h=>h) (Or.inl ⟨by rfl, ?_⟩) ?_ ?_
          rotate_left
          ·intro w'
           go_simp
           with_reducible rfl
          rotate_left
          ·simp only [Act.put,qs1,qs2,qs3,qAR,qAT]
           rfl
          refine qAz (i:=2) (N:=some 54) (v := ?_) (a' := ?_) #[qT,qF,qT,qF,qF,qF,qF,qF,qF,qF,qF] rfl rfl (qAl HT_.out (by kernel_rfl)) (fun _ _ _ h=>h) (Or.inl ⟨by rfl, ?_⟩) ?_ ?_
          rotate_left
          ·intro w'
           go_simp
           with_reducible rfl
          rotate_left
          ·simp only [Act.put,qs1,qs2,qs3,qAR,qAT]
           rfl
          refine qAz (i:=5) (N:=some 57) (v := ?_) (a' := ?_) #[qT,qF,qT,qF,qF,qT,qF,qF,qF,qF,qF] rfl rfl (qAl HT_.out (by kernel_rfl)) (fun _ _ _ h=>h) (Or.inl ⟨by rfl, ?_⟩) ?_ ?_
          rotate_left
          ·intro w'
           go_simp
           with_reducible rfl
          rotate_left
          ·simp only [Act.put,qs1,qs2,qs3,qAR,qAT]
           rfl
          refine qAz (i:=7) (N:=some 59) (v := ?_) (a' := ?_) #[qT,qF,qT,qF,qF,qT,qF,qT,qF,qF,qF] rfl rfl (qAl HT_.out (by kernel_rfl)) (fun _ _ _ h=>h) (Or.inl ⟨by rfl, ?_⟩) ?_ ?_
          rotate_left
          ·intro w'
           go_simp
           with_reducible rfl
          rotate_left
          ·simp only [Act.put,qs1,qs2,qs3,qAR,qAT]
           rfl
          refine qBU (i:=1) (N:=some 53) (v := ?_) (a' := ?_) #[qT,qT,qT,qF,qF,qT,qF,qT,qF,qF,qF] rfl rfl (qAo HT_.out HW_.out (by kernel_rfl)) (fun _ _ _ h=>h) (Or.inl ⟨by rfl, ?_⟩) hHeld ?_ ?_
          rotate_left
          ·rintro w' ⟨s0,s1,s2,s3,s4,s5,s6,s7,s8,s9,s10,s11⟩
           go_simp
           with_reducible rfl
          rotate_left
          ·simp only [Act.put,qs1,qs2,qs3,qAR,qAT]
           rfl
          refine qAz (i:=3) (N:=some 55) (v := ?_) (a' := ?_) #[qT,qT,qT,qT,qF,qT,qF,qT,qF,qF,qF] rfl rfl (qAl HT_.out (by kernel_rfl)) (fun _ _ _ h=>h) (Or.inl ⟨by rfl, ?_⟩) ?_ ?_
          rotate_left
          ·intro w'
           go_simp
           with_reducible rfl
          rotate_left
          ·simp only [Act.put,qs1,qs2,qs3,qAR,qAT]
           rfl
          refine qBU (i:=4) (N:=some 56) (v := ?_) (a' := ?_) #[qT,qT,qT,qT,qT,qT,qF,qT,qF,qF,qF] rfl rfl (qAo HT_.out HW_.out (by kernel_rfl)) (fun _ _ _ h=>h) (Or.inl ⟨by rfl, ?_⟩) hHeld ?_ ?_
          rotate_left
          ·rintro w' ⟨s0,s1,s2,s3,s4,s5,s6,s7,s8,s9,s10,s11⟩
           go_simp
           with_reducible rfl
          rotate_left
          ·simp only [Act.put,qs1,qs2,qs3,qAR,qAT]
           rfl
          refine qBU (i:=6) (N:=some 58) (v := ?_) (a' := ?_) #[qT,qT,qT,qT,qT,qT,qT,qT,qF,qF,qF] rfl rfl (qAo HT_.out HW_.out (by kernel_rfl)) (fun _ _ _ h=>h) (Or.inl ⟨by rfl, ?_⟩) hHeld ?_ ?_
          rotate_left
          ·rintro w' ⟨s0,s1,s2,s3,s4,s5,s6,s7,s8,s9,s10,s11⟩
           go_simp
           with_reducible rfl
          rotate_left
          ·simp only [Act.put,qs1,qs2,qs3,qAR,qAT]
           rfl
          refine qAz (i:=8) (N:=some 60) (v := ?_) (a' := ?_) #[qT,qT,qT,qT,qT,qT,qT,qT,qT,qF,qF] rfl rfl (qAl HT_.out (by kernel_rfl)) (fun _ _ _ h=>h) (Or.inl ⟨by rfl, ?_⟩) ?_ ?_
          rotate_left
          ·intro w'
           go_simp
           with_reducible rfl
          rotate_left
          ·simp only [Act.put,qs1,qs2,qs3,qAR,qAT]
           rfl
          refine qBU (i:=9) (N:=some 61) (v := ?_) (a' := ?_) #[qT,qT,qT,qT,qT,qT,qT,qT,qT,qT,qF] rfl rfl (qAo HT_.out HW_.out (by kernel_rfl)) (fun _ _ _ h=>h) (Or.inl ⟨by rfl, ?_⟩) hHeld ?_ ?_
          rotate_left
          ·rintro w' ⟨s0,s1,s2,s3,s4,s5,s6,s7,s8,s9,s10,s11⟩
           go_simp
           with_reducible rfl
          rotate_left
          ·simp only [Act.put,qs1,qs2,qs3,qAR,qAT]
           rfl
          refine qAz (i:=10) (N:=some 62) (v := ?_) (a' := ?_) #[qT,qT,qT,qT,qT,qT,qT,qT,qT,qT,qT] rfl rfl (qAl HT_.out (by kernel_rfl)) (fun _ _ _ h=>h) (Or.inl ⟨by rfl, ?_⟩) ?_ ?_
          rotate_left
          ·intro w'
           go_simp
           with_reducible rfl
          rotate_left
          ·simp only [Act.put,qs1,qs2,qs3,qAR,qAT]
           rfl
          refine qA6 (qCN HT_.out (by kernel_rfl)) ?_
          try go_wp2
          go_roundg k2
          case measure=>have:=HJ2.out;have:=HK2.out;omega
          case rel=>exact ⟨(wrap64 (x5_2+1)),(by first | rfl | (simp;done) | (simp [*];done)),H',⟨by have:=HJ2.out;have:=HK2.out;omega⟩,⟨by (with_reducible repeat (first | refine qAY ?_ _ | refine qAJ ?_ | refine qAK ?_ _));exact BK162.out⟩,⟨by (with_reducible repeat (first | refine qAY ?_ _ | refine qAJ ?_ | refine qAK ?_ _));exact BK163.out⟩,⟨by repeat (first | (with_reducible first | exact HB.out | apply qAH | apply qAI | apply qAN | refine qAQ ?_ GE162.out | refine qAQ ?_ GE163.out) | exact HB.out)⟩⟩
         ·rw [if_neg c29] at H
          have c29b0:((rdOf ByteArray.empty l0_4 x5_2).toList == (rdOf ByteArray.empty l1_4 x5_2).toList)=false:=beq_eq_false_iff_ne.mpr c29
          have c29b1:((rdOf ByteArray.empty l0_4 x5_2).toList != (rdOf ByteArray.empty l1_4 x5_2).toList)=true:=bne_iff_ne.mpr c29
          obtain rfl:=Option.some.inj H
          simp only [Option.some.injEq,Prod.mk.injEq] at H
          obtain ⟨rfl⟩:=H
          have hnb33:=NB162_163.out
          have hnc33:=NB163_162.out
          have hcz34_0:wr.cell? ⟨gb162,0,none⟩=some (.int .i64 a0_0):=(qAB BK162.out 0).trans rfl
          have hcz34_1:wr.cell? ⟨gb162,1,none⟩=some (.int .i64 a0_1):=(qAB BK162.out 1).trans rfl
          have hcz34_2:wr.cell? ⟨gb162,2,none⟩=some (.string a0_2):=(qAB BK162.out 2).trans rfl
          have hcz34_3:wr.cell? ⟨gb162,3,none⟩=some (.slice A0_3 l0_3.length c0_3):=(qAB BK162.out 3).trans rfl
          have hcz34_4:wr.cell? ⟨gb162,4,none⟩=some (.slice A0_4 l0_4.length c0_4):=(qAB BK162.out 4).trans rfl
          have hfz34_0:=qAC BK162.out 0
          have hfz34_1:=qAC BK162.out 1
          have hfz34_2:=qAC BK162.out 2
          have hfz34_3:=qAC BK162.out 3
          have hfz34_4:=qAC BK162.out 4
          try go_wp2
          have n0_:=qAA.mk (qAJ BK162.out)
          have n1_:=qAA.mk (qAJ BK163.out)
          have n2_:=qAA.mk (qAN HB.out)
          clear BK162
          clear BK163
          clear HB
          have BK162:=n0_
          have BK163:=n1_
          have HB:=n2_
          clear n0_ n1_ n2_
          have p164:0≤(x5_2:Int):=of_decide_eq_true (by first | (with_reducible assumption) | assumption)
          have q164:x5_2 < (l0_4.length:Int):=of_decide_eq_true (by first | (with_reducible assumption) | assumption)
          obtain ⟨ad164,e164,hx164_0⟩:=Kd.qBz HR0_4.out x5_2 p164 q164
          have hw164_0:=hx164_0
          cases e164
          replace hx164_0:=(HB.out.cell (qs4 w _ hx164_0)).trans hx164_0
          replace p164:=eq_true p164
          replace q164:=eq_true q164
          have p165:0≤(x5_2:Int):=of_decide_eq_true (by first | (with_reducible assumption) | assumption)
          have q165:x5_2 < (l1_4.length:Int):=of_decide_eq_true (by first | (with_reducible assumption) | assumption)
          obtain ⟨ad165,e165,hx165_0⟩:=Kd.qBz HR1_4.out x5_2 p165 q165
          have hw165_0:=hx165_0
          cases e165
          replace hx165_0:=(HB.out.cell (qs4 w _ hx165_0)).trans hx165_0
          replace p165:=eq_true p165
          replace q165:=eq_true q165
          refine qAn (n:=11) (S:=fun w'=>w'.cell? ⟨gb162,0,none⟩=some (.int .i64 a0_0)∧w'.cell? ⟨gb162,1,none⟩=some (.int .i64 a0_1)∧w'.cell? ⟨gb162,2,none⟩=some (.string a0_2)∧w'.cell? ⟨gb162,3,none⟩=some (.slice A0_3 l0_3.length c0_3)∧w'.cell? ⟨gb162,4,none⟩=some (.slice (some ad164) l0_4.length c0_4)∧w'.cell? ⟨gb163,0,none⟩=some (.int .i64 a1_0)∧w'.cell? ⟨gb163,1,none⟩=some (.int .i64 a1_1)∧w'.cell? ⟨gb163,2,none⟩=some (.string a1_2)∧w'.cell? ⟨gb163,3,none⟩=some (.slice A1_3 l1_3.length c1_3)∧w'.cell? ⟨gb163,4,none⟩=some (.slice (some ad165) l1_4.length c1_4)∧w'.cell? (ad164.add (x5_2).toNat)=some (.string (rdOf ByteArray.empty l0_4 x5_2))∧w'.cell? (ad165.add (x5_2).toNat)=some (.string (rdOf ByteArray.empty l1_4 x5_2))) (ds:=[]) #[qF,qF,qF,qF,qF,qF,qF,qF,qF,qF,qF] (by kernel_rfl) rfl rfl ⟨(qAB BK162.out 0).trans rfl,(qAB BK162.out 1).trans rfl,(qAB BK162.out 2).trans rfl,(qAB BK162.out 3).trans rfl,(qAB BK162.out 4).trans rfl,(qAB BK163.out 0).trans rfl,(qAB BK163.out 1).trans rfl,(qAB BK163.out 2).trans rfl,(qAB BK163.out 3).trans rfl,(qAB BK163.out 4).trans rfl,((HB.out.cell (qs4 w _ hw164_0)).trans hw164_0),((HB.out.cell (qs4 w _ hw165_0)).trans hw165_0)⟩ (fun hHeld => ?_);refine qBq qAG.tab6 qAG.bits6 (fun HT_ HW_ => ?_)
          generalize wr.drew=w35 at BK162 BK163 HB hx164_0 hx165_0 hHeld ⊢
          refine qAz (i:=0) (N:=some 52) (v := ?_) (a' := ?_) #[qT,qF,qF,qF,qF,qF,qF,qF,qF,qF,qF] rfl rfl (qAl HT_.out (by kernel_rfl)) (fun _ _ _ h=>h) (Or.inl ⟨by rfl, ?_⟩) ?_ ?_
          rotate_left
          ·intro w'
           go_simp
           with_reducible rfl
          rotate_left
          ·simp only [Act.put,qs1,qs2,qs3,qAR,qAT]
           rfl
          refine qAz (i:=2) (N:=some 54) (v := ?_) (a' := ?_) #[qT,qF,qT,qF,qF,qF,qF,qF,qF,qF,qF] rfl rfl (qAl HT_.out (by kernel_rfl)) (fun _ _ _ h=>h) (Or.inl ⟨by rfl, ?_⟩) ?_ ?_
          rotate_left
          ·intro w'
           go_simp
           with_reducible rfl
          rotate_left
          ·simp only [Act.put,qs1,qs2,qs3,qAR,qAT]
           rfl
          refine qAz (i:=5) (N:=some 57) (v := ?_) (a' := ?_) #[qT,qF,qT,qF,qF,qT,qF,qF,qF,qF,qF] rfl rfl (qAl HT_.out (by kernel_rfl)) (fun _ _ _ h=>h) (Or.inl ⟨by rfl, ?_⟩) ?_ ?_
          rotate_left
          ·intro w'
           go_simp
           with_reducible rfl
          rotate_left
          ·simp only [Act.put,qs1,qs2,qs3,qAR,qAT]
           rfl
          refine qAz (i:=7) (N:=some 59) (v := ?_) (a' := ?_) #[qT,qF,qT,qF,qF,qT,qF,qT,qF,qF,qF] rfl rfl (qAl HT_.out (by kernel_rfl)) (fun _ _ _ h=>h) (Or.inl ⟨by rfl, ?_⟩) ?_ ?_
          rotate_left
          ·intro w'
           go_simp
           with_reducible rfl
          rotate_left
          ·simp only [Act.put,qs1,qs2,qs3,qAR,qAT]
           rfl
          refine qBU (i:=1) (N:=some 53) (v := ?_) (a' := ?_) #[qT,qT,qT,qF,qF,qT,qF,qT,qF,qF,qF] rfl rfl (qAo HT_.out HW_.out (by kernel_rfl)) (fun _ _ _ h=>h) (Or.inl ⟨by rfl, ?_⟩) hHeld ?_ ?_
          rotate_left
          ·rintro w' ⟨s0,s1,s2,s3,s4,s5,s6,s7,s8,s9,s10,s11⟩
           go_simp
           with_reducible rfl
          rotate_left
          ·simp only [Act.put,qs1,qs2,qs3,qAR,qAT]
           rfl
          refine qAz (i:=3) (N:=some 55) (v := ?_) (a' := ?_) #[qT,qT,qT,qT,qF,qT,qF,qT,qF,qF,qF] rfl rfl (qAl HT_.out (by kernel_rfl)) (fun _ _ _ h=>h) (Or.inl ⟨by rfl, ?_⟩) ?_ ?_
          rotate_left
          ·intro w'
           go_simp
           with_reducible rfl
          rotate_left
          ·simp only [Act.put,qs1,qs2,qs3,qAR,qAT]
           rfl
          refine qBU (i:=4) (N:=some 56) (v := ?_) (a' := ?_) #[qT,qT,qT,qT,qT,qT,qF,qT,qF,qF,qF] rfl rfl (qAo HT_.out HW_.out (by kernel_rfl)) (fun _ _ _ h=>h) (Or.inl ⟨by rfl, ?_⟩) hHeld ?_ ?_
          rotate_left
          ·rintro w' ⟨s0,s1,s2,s3,s4,s5,s6,s7,s8,s9,s10,s11⟩
           go_simp
           with_reducible rfl
          rotate_left
          ·simp only [Act.put,qs1,qs2,qs3,qAR,qAT]
           rfl
          refine qBU (i:=6) (N:=some 58) (v := ?_) (a' := ?_) #[qT,qT,qT,qT,qT,qT,qT,qT,qF,qF,qF] rfl rfl (qAo HT_.out HW_.out (by kernel_rfl)) (fun _ _ _ h=>h) (Or.inl ⟨by rfl, ?_⟩) hHeld ?_ ?_
          rotate_left
          ·rintro w' ⟨s0,s1,s2,s3,s4,s5,s6,s7,s8,s9,s10,s11⟩
           go_simp
           with_reducible rfl
          rotate_left
          ·simp only [Act.put,qs1,qs2,qs3,qAR,qAT]
           rfl
          refine qAz (i:=8) (N:=some 60) (v := ?_) (a' := ?_) #[qT,qT,qT,qT,qT,qT,qT,qT,qT,qF,qF] rfl rfl (qAl HT_.out (by kernel_rfl)) (fun _ _ _ h=>h) (Or.inl ⟨by rfl, ?_⟩) ?_ ?_
          rotate_left
          ·intro w'
           go_simp
           with_reducible rfl
          rotate_left
          ·simp only [Act.put,qs1,qs2,qs3,qAR,qAT]
           rfl
          refine qBU (i:=9) (N:=some 61) (v := ?_) (a' := ?_) #[qT,qT,qT,qT,qT,qT,qT,qT,qT,qT,qF] rfl rfl (qAo HT_.out HW_.out (by kernel_rfl)) (fun _ _ _ h=>h) (Or.inl ⟨by rfl, ?_⟩) hHeld ?_ ?_
          rotate_left
          ·rintro w' ⟨s0,s1,s2,s3,s4,s5,s6,s7,s8,s9,s10,s11⟩
           go_simp
           with_reducible rfl
          rotate_left
          ·simp only [Act.put,qs1,qs2,qs3,qAR,qAT]
           rfl
          refine qAz (i:=10) (N:=some 62) (v := ?_) (a' := ?_) #[qT,qT,qT,qT,qT,qT,qT,qT,qT,qT,qT] rfl rfl (qAl HT_.out (by kernel_rfl)) (fun _ _ _ h=>h) (Or.inl ⟨by rfl, ?_⟩) ?_ ?_
          rotate_left
          ·intro w'
           go_simp
           with_reducible rfl
          rotate_left
          ·simp only [Act.put,qs1,qs2,qs3,qAR,qAT]
           rfl
          refine qA6 (qCN HT_.out (by kernel_rfl)) ?_
          try go_wp2
          go_ret
          exact ⟨by first | rfl | (simp [qAu,qAt] <;> rfl) | (simp [*,qAu,qAt] <;> rfl),by repeat (first | (with_reducible first | exact HB.out | apply qAH | apply qAI | apply qAN | refine qAQ ?_ GE162.out | refine qAQ ?_ GE163.out) | exact HB.out)⟩
        ·rw [if_neg c28] at H
         exact absurd H (by simp)
       ·rw [if_neg c27] at H
        exact absurd H (by simp)
      ·rw [if_neg c26] at H
       have c26b0:decide (x5_2 < (l0_4.length:Int))=false:=decide_eq_false c26
       clear c26
       have H':=qAA.mk H
       clear H
       have hnb36:=NB162_163.out
       have hnc36:=NB163_162.out
       have hcz37_0:wr.cell? ⟨gb162,0,none⟩=some (.int .i64 a0_0):=(qAB BK162.out 0).trans rfl
       have hcz37_1:wr.cell? ⟨gb162,1,none⟩=some (.int .i64 a0_1):=(qAB BK162.out 1).trans rfl
       have hcz37_2:wr.cell? ⟨gb162,2,none⟩=some (.string a0_2):=(qAB BK162.out 2).trans rfl
       have hcz37_3:wr.cell? ⟨gb162,3,none⟩=some (.slice A0_3 l0_3.length c0_3):=(qAB BK162.out 3).trans rfl
       have hcz37_4:wr.cell? ⟨gb162,4,none⟩=some (.slice A0_4 l0_4.length c0_4):=(qAB BK162.out 4).trans rfl
       have hfz37_0:=qAC BK162.out 0
       have hfz37_1:=qAC BK162.out 1
       have hfz37_2:=qAC BK162.out 2
       have hfz37_3:=qAC BK162.out 3
       have hfz37_4:=qAC BK162.out 4
       go_wp2
       go_loopg [6] k2 (fun kq v6 w'=>∃ (x6_3:Int),v6=.int .i64 x6_3∧qAA (qAG.l1 kq x6_3 a0_0 a0_1 a0_2 l0_3 l0_4 a1_0 a1_1 a1_2 l1_3 l1_4=some r)∧qAA (kq≤k2)∧qAA (w'.heap[gb162]?=some (.cells #[.int .i64 a0_0,.int .i64 a0_1,.string a0_2,(.slice A0_3 l0_3.length c0_3),(.slice A0_4 l0_4.length c0_4)] 48 (0,0)))∧qAA (w'.heap[gb163]?=some (.cells #[.int .i64 a1_0,.int .i64 a1_1,.string a1_2,(.slice A1_3 l1_3.length c1_3),(.slice A1_4 l1_4.length c1_4)] 48 (0,0)))∧qAA (Below w.heap.size w w'))
       case atStart=>exact ⟨(0),(by first | rfl | (simp;done) | (simp [*];done)),H',⟨Nat.le_refl _⟩,⟨by (with_reducible repeat (first | refine qAY ?_ _ | refine qAJ ?_ | refine qAK ?_ _));exact BK162.out⟩,⟨by (with_reducible repeat (first | refine qAY ?_ _ | refine qAJ ?_ | refine qAK ?_ _));exact BK163.out⟩,⟨by repeat (first | (with_reducible first | exact HB.out | apply qAH | apply qAI | apply qAN | refine qAQ ?_ GE162.out | refine qAQ ?_ GE163.out) | exact HB.out)⟩⟩
       case round =>
        clear H'
        try clear c1
        try clear p1
        try clear q1
        try clear hx1
        try clear c2
        try clear p2
        try clear c3
        try clear c6
        try clear c6b0
        try clear c6b1
        try clear p6
        try clear c7
        try clear c7b0
        try clear c7b1
        try clear c8
        try clear c8b0
        try clear c8b1
        try clear c9
        try clear c9b0
        try clear c9b1
        try clear c9b2
        try clear c10
        try clear c13
        try clear c16
        try clear p16
        try clear q16
        try clear hx16
        try clear c19
        try clear c22
        try clear c25
        try clear c26
        try clear c26b0
        try clear c27
        try clear c27b0
        try clear c28
        try clear c28b0
        try clear c29
        try clear c29b0
        try clear c29b1
        try clear c30
        try clear c33
        try clear c36
        try clear hcz11_0
        try clear hcz11_1
        try clear hcz11_2
        try clear hcz11_3
        try clear hcz11_4
        try clear hcz12_0
        try clear hcz12_1
        try clear hcz12_2
        try clear hcz12_3
        try clear hcz12_4
        try clear hcz14_0
        try clear hcz14_1
        try clear hcz14_2
        try clear hcz14_3
        try clear hcz14_4
        try clear hcz15_0
        try clear hcz15_1
        try clear hcz15_2
        try clear hcz15_3
        try clear hcz15_4
        try clear hcz17_0
        try clear hcz17_1
        try clear hcz17_2
        try clear hcz17_3
        try clear hcz17_4
        try clear hcz18_0
        try clear hcz18_1
        try clear hcz18_2
        try clear hcz18_3
        try clear hcz18_4
        try clear hcz20_0
        try clear hcz20_1
        try clear hcz20_2
        try clear hcz20_3
        try clear hcz20_4
        try clear hcz21_0
        try clear hcz21_1
        try clear hcz21_2
        try clear hcz21_3
        try clear hcz21_4
        try clear hcz23_0
        try clear hcz23_1
        try clear hcz23_2
        try clear hcz23_3
        try clear hcz23_4
        try clear hcz24_0
        try clear hcz24_1
        try clear hcz24_2
        try clear hcz24_3
        try clear hcz24_4
        try clear hcz31_0
        try clear hcz31_1
        try clear hcz31_2
        try clear hcz31_3
        try clear hcz31_4
        try clear hcz34_0
        try clear hcz34_1
        try clear hcz34_2
        try clear hcz34_3
        try clear hcz34_4
        try clear hcz37_0
        try clear hcz37_1
        try clear hcz37_2
        try clear hcz37_3
        try clear hcz37_4
        try clear hfz11_0
        try clear hfz11_1
        try clear hfz11_2
        try clear hfz11_3
        try clear hfz11_4
        try clear hfz12_0
        try clear hfz12_1
        try clear hfz12_2
        try clear hfz12_3
        try clear hfz12_4
        try clear hfz14_0
        try clear hfz14_1
        try clear hfz14_2
        try clear hfz14_3
        try clear hfz14_4
        try clear hfz15_0
        try clear hfz15_1
        try clear hfz15_2
        try clear hfz15_3
        try clear hfz15_4
        try clear hfz17_0
        try clear hfz17_1
        try clear hfz17_2
        try clear hfz17_3
        try clear hfz17_4
        try clear hfz18_0
        try clear hfz18_1
        try clear hfz18_2
        try clear hfz18_3
        try clear hfz18_4
        try clear hfz20_0
        try clear hfz20_1
        try clear hfz20_2
        try clear hfz20_3
        try clear hfz20_4
        try clear hfz21_0
        try clear hfz21_1
        try clear hfz21_2
        try clear hfz21_3
        try clear hfz21_4
        try clear hfz23_0
        try clear hfz23_1
        try clear hfz23_2
        try clear hfz23_3
        try clear hfz23_4
        try clear hfz24_0
        try clear hfz24_1
        try clear hfz24_2
        try clear hfz24_3
        try clear hfz24_4
        try clear hfz31_0
        try clear hfz31_1
        try clear hfz31_2
        try clear hfz31_3
        try clear hfz31_4
        try clear hfz34_0
        try clear hfz34_1
        try clear hfz34_2
        try clear hfz34_3
        try clear hfz34_4
        try clear hfz37_0
        try clear hfz37_1
        try clear hfz37_2
        try clear hfz37_3
        try clear hfz37_4
        try clear hx164_0
        try clear hx165_0
        try clear p164
        try clear p165
        try clear p2
        try clear q164
        try clear q165
        obtain ⟨x6_3,rfl,HA,HK3,BK162,BK163,HB⟩:=hrel
        cases gk with
        | zero=>exact absurd HA.out (by simp [qAG.l1])
        | succ k3 =>
         have H:=HA.out
         clear HA
         simp only [qAG.l1] at H
         by_cases c38:x6_3 < (l0_3.length:Int)
         ·rw [if_pos c38] at H
          have c38b0:decide (x6_3 < (l0_3.length:Int))=true:=decide_eq_true c38
          clear c38
          by_cases c39:0≤x6_3
          ·rw [if_pos c39] at H
           have c39b0:decide (0≤x6_3)=true:=decide_eq_true c39
           clear c39
           by_cases c40:x6_3 < (l1_3.length:Int)
           ·rw [if_pos c40] at H
            have c40b0:decide (x6_3 < (l1_3.length:Int))=true:=decide_eq_true c40
            clear c40
            replace H:=Option.bind_eq_some_iff.mp H
            obtain ⟨t168,A410,H⟩:=H
            replace H:(if t168=true then (qAG.l1 k3 (wrap64 (x6_3+1)) a0_0 a0_1 a0_2 l0_3 l0_4 a1_0 a1_1 a1_2 l1_3 l1_4) else (some false))=some r:=H
            have A41:=qAA.mk A410
            clear A410
            by_cases c42:t168=true
            ·subst c42
             have H1:(qAG.l1 k3 (wrap64 (x6_3+1)) a0_0 a0_1 a0_2 l0_3 l0_4 a1_0 a1_1 a1_2 l1_3 l1_4)=some r:=by rw [if_pos rfl] at H;exact H
             clear H
             have H:=H1
             clear H1
             have H':=qAA.mk H
             clear H
             have hnb43:=NB162_163.out
             have hnc43:=NB163_162.out
             have hcz44_0:wr.cell? ⟨gb162,0,none⟩=some (.int .i64 a0_0):=(qAB BK162.out 0).trans rfl
             have hcz44_1:wr.cell? ⟨gb162,1,none⟩=some (.int .i64 a0_1):=(qAB BK162.out 1).trans rfl
             have hcz44_2:wr.cell? ⟨gb162,2,none⟩=some (.string a0_2):=(qAB BK162.out 2).trans rfl
             have hcz44_3:wr.cell? ⟨gb162,3,none⟩=some (.slice A0_3 l0_3.length c0_3):=(qAB BK162.out 3).trans rfl
             have hcz44_4:wr.cell? ⟨gb162,4,none⟩=some (.slice A0_4 l0_4.length c0_4):=(qAB BK162.out 4).trans rfl
             have hfz44_0:=qAC BK162.out 0
             have hfz44_1:=qAC BK162.out 1
             have hfz44_2:=qAC BK162.out 2
             have hfz44_3:=qAC BK162.out 3
             have hfz44_4:=qAC BK162.out 4
             try go_wp2
             have n0_:=qAA.mk (qAJ BK162.out)
             have n1_:=qAA.mk (qAJ BK163.out)
             have n2_:=qAA.mk (qAN HB.out)
             clear BK162
             clear BK163
             clear HB
             have BK162:=n0_
             have BK163:=n1_
             have HB:=n2_
             clear n0_ n1_ n2_
             have p166:0≤(x6_3:Int):=of_decide_eq_true (by first | (with_reducible assumption) | assumption)
             have q166:x6_3 < (l0_3.length:Int):=of_decide_eq_true (by first | (with_reducible assumption) | assumption)
             obtain ⟨ad166,A166_3,c166_3,A166_4,c166_4,e166,hx166_0,hx166_1,hx166_2,hx166_3,hx166_4,hl166_3,hi166_3,hl166_4,hi166_4⟩:=qCa HR0_3.out x6_3 p166 q166
             have hw166_4:=hx166_4
             have hw166_3:=hx166_3
             have hw166_2:=hx166_2
             have hw166_1:=hx166_1
             have hw166_0:=hx166_0
             cases e166
             replace hx166_0:=(HB.out.cell (qs4 w _ hx166_0)).trans hx166_0
             replace hx166_1:=(HB.out.cell (qs4 w _ hx166_1)).trans hx166_1
             replace hx166_2:=(HB.out.cell (qs4 w _ hx166_2)).trans hx166_2
             replace hx166_3:=(HB.out.cell (qs4 w _ hx166_3)).trans hx166_3
             replace hx166_4:=(HB.out.cell (qs4 w _ hx166_4)).trans hx166_4
             have HR166_3:=qAA.mk hi166_3
             have HC166_3:=qAA.mk hl166_3
             clear hi166_3 hl166_3
             have HR166_4:=qAA.mk hi166_4
             have HC166_4:=qAA.mk hl166_4
             clear hi166_4 hl166_4
             replace p166:=eq_true p166
             replace q166:=eq_true q166
             have p167:0≤(x6_3:Int):=of_decide_eq_true (by first | (with_reducible assumption) | assumption)
             have q167:x6_3 < (l1_3.length:Int):=of_decide_eq_true (by first | (with_reducible assumption) | assumption)
             obtain ⟨ad167,A167_3,c167_3,A167_4,c167_4,e167,hx167_0,hx167_1,hx167_2,hx167_3,hx167_4,hl167_3,hi167_3,hl167_4,hi167_4⟩:=qCa HR1_3.out x6_3 p167 q167
             have hw167_4:=hx167_4
             have hw167_3:=hx167_3
             have hw167_2:=hx167_2
             have hw167_1:=hx167_1
             have hw167_0:=hx167_0
             cases e167
             replace hx167_0:=(HB.out.cell (qs4 w _ hx167_0)).trans hx167_0
             replace hx167_1:=(HB.out.cell (qs4 w _ hx167_1)).trans hx167_1
             replace hx167_2:=(HB.out.cell (qs4 w _ hx167_2)).trans hx167_2
             replace hx167_3:=(HB.out.cell (qs4 w _ hx167_3)).trans hx167_3
             replace hx167_4:=(HB.out.cell (qs4 w _ hx167_4)).trans hx167_4
             have HR167_3:=qAA.mk hi167_3
             have HC167_3:=qAA.mk hl167_3
             clear hi167_3 hl167_3
             have HR167_4:=qAA.mk hi167_4
             have HC167_4:=qAA.mk hl167_4
             clear hi167_4 hl167_4
             replace p167:=eq_true p167
             replace q167:=eq_true q167
             refine qAn (n:=12) (S:=fun w'=>w'.cell? ⟨gb162,0,none⟩=some (.int .i64 a0_0)∧w'.cell? ⟨gb162,1,none⟩=some (.int .i64 a0_1)∧w'.cell? ⟨gb162,2,none⟩=some (.string a0_2)∧w'.cell? ⟨gb162,3,none⟩=some (.slice (some ad166) l0_3.length c0_3)∧w'.cell? ⟨gb162,4,none⟩=some (.slice A0_4 l0_4.length c0_4)∧w'.cell? ⟨gb163,0,none⟩=some (.int .i64 a1_0)∧w'.cell? ⟨gb163,1,none⟩=some (.int .i64 a1_1)∧w'.cell? ⟨gb163,2,none⟩=some (.string a1_2)∧w'.cell? ⟨gb163,3,none⟩=some (.slice (some ad167) l1_3.length c1_3)∧w'.cell? ⟨gb163,4,none⟩=some (.slice A1_4 l1_4.length c1_4)∧w'.cell? (ad166.add ((x6_3).toNat * 5))=some (.int .i64 ((qAO l0_3 x6_3).f0))∧w'.cell? ⟨(ad166.add ((x6_3).toNat * 5)).block,(ad166.add ((x6_3).toNat * 5)).off+1,none⟩=some (.int .i64 ((qAO l0_3 x6_3).f1))∧w'.cell? ⟨(ad166.add ((x6_3).toNat * 5)).block,(ad166.add ((x6_3).toNat * 5)).off+2,none⟩=some (.string ((qAO l0_3 x6_3).f2))∧w'.cell? ⟨(ad166.add ((x6_3).toNat * 5)).block,(ad166.add ((x6_3).toNat * 5)).off+3,none⟩=some (.slice A166_3 ((qAO l0_3 x6_3).f3).length c166_3)∧w'.cell? ⟨(ad166.add ((x6_3).toNat * 5)).block,(ad166.add ((x6_3).toNat * 5)).off+4,none⟩=some (.slice A166_4 ((qAO l0_3 x6_3).f4).length c166_4)∧w'.cell? (ad167.add ((x6_3).toNat * 5))=some (.int .i64 ((qAO l1_3 x6_3).f0))∧w'.cell? ⟨(ad167.add ((x6_3).toNat * 5)).block,(ad167.add ((x6_3).toNat * 5)).off+1,none⟩=some (.int .i64 ((qAO l1_3 x6_3).f1))∧w'.cell? ⟨(ad167.add ((x6_3).toNat * 5)).block,(ad167.add ((x6_3).toNat * 5)).off+2,none⟩=some (.string ((qAO l1_3 x6_3).f2))∧w'.cell? ⟨(ad167.add ((x6_3).toNat * 5)).block,(ad167.add ((x6_3).toNat * 5)).off+3,none⟩=some (.slice A167_3 ((qAO l1_3 x6_3).f3).length c167_3)∧w'.cell? ⟨(ad167.add ((x6_3).toNat * 5)).block,(ad167.add ((x6_3).toNat * 5)).off+4,none⟩=some (.slice A167_4 ((qAO l1_3 x6_3).f4).length c167_4)) (ds:=[]) #[qF,qF,qF,qF,qF,qF,qF,qF,qF,qF,qF,qF] (by kernel_rfl) rfl rfl ⟨(qAB BK162.out 0).trans rfl,(qAB BK162.out 1).trans rfl,(qAB BK162.out 2).trans rfl,(qAB BK162.out 3).trans rfl,(qAB BK162.out 4).trans rfl,(qAB BK163.out 0).trans rfl,(qAB BK163.out 1).trans rfl,(qAB BK163.out 2).trans rfl,(qAB BK163.out 3).trans rfl,(qAB BK163.out 4).trans rfl,((HB.out.cell (qs4 w _ hw166_0)).trans hw166_0),((HB.out.cell (qs4 w _ hw166_1)).trans hw166_1),((HB.out.cell (qs4 w _ hw166_2)).trans hw166_2),((HB.out.cell (qs4 w _ hw166_3)).trans hw166_3),((HB.out.cell (qs4 w _ hw166_4)).trans hw166_4),((HB.out.cell (qs4 w _ hw167_0)).trans hw167_0),((HB.out.cell (qs4 w _ hw167_1)).trans hw167_1),((HB.out.cell (qs4 w _ hw167_2)).trans hw167_2),((HB.out.cell (qs4 w _ hw167_3)).trans hw167_3),((HB.out.cell (qs4 w _ hw167_4)).trans hw167_4)⟩ (fun hHeld => ?_);refine qBq qAG.tab11 qAG.bits11 (fun HT_ HW_ => ?_)
             generalize wr.drew=w45 at BK162 BK163 HB HR166_3 HR166_4 HR167_3 HR167_4 hx166_0 hx166_1 hx166_2 hx166_3 hx166_4 hx167_0 hx167_1 hx167_2 hx167_3 hx167_4 hHeld ⊢
             refine qAz (i:=0) (N:=some 70) (v := ?_) (a' := ?_) #[qT,qF,qF,qF,qF,qF,qF,qF,qF,qF,qF,qF] rfl rfl (qAl HT_.out (by kernel_rfl)) (fun _ _ _ h=>h) (Or.inl ⟨by rfl, ?_⟩) ?_ ?_
             rotate_left
             ·intro w'
              go_simp
              with_reducible rfl
             rotate_left
             ·simp only [Act.put,qs1,qs2,qs3,qAR,qAT]
              rfl
             refine qAz (i:=2) (N:=some 72) (v := ?_) (a' := ?_) #[qT,qF,qT,qF,qF,qF,qF,qF,qF,qF,qF,qF] rfl rfl (qAl HT_.out (by kernel_rfl)) (fun _ _ _ h=>h) (Or.inl ⟨by rfl, ?_⟩) ?_ ?_
             rotate_left
             ·intro w'
              go_simp
              with_reducible rfl
             rotate_left
             ·simp only [Act.put,qs1,qs2,qs3,qAR,qAT]
              rfl
             refine qAz (i:=5) (N:=some 75) (v := ?_) (a' := ?_) #[qT,qF,qT,qF,qF,qT,qF,qF,qF,qF,qF,qF] rfl rfl (qAl HT_.out (by kernel_rfl)) (fun _ _ _ h=>h) (Or.inl ⟨by rfl, ?_⟩) ?_ ?_
             rotate_left
             ·intro w'
              go_simp
              with_reducible rfl
             rotate_left
             ·simp only [Act.put,qs1,qs2,qs3,qAR,qAT]
              rfl
             refine qAz (i:=7) (N:=some 77) (v := ?_) (a' := ?_) #[qT,qF,qT,qF,qF,qT,qF,qT,qF,qF,qF,qF] rfl rfl (qAl HT_.out (by kernel_rfl)) (fun _ _ _ h=>h) (Or.inl ⟨by rfl, ?_⟩) ?_ ?_
             rotate_left
             ·intro w'
              go_simp
              with_reducible rfl
             rotate_left
             ·simp only [Act.put,qs1,qs2,qs3,qAR,qAT]
              rfl
             refine qBU (i:=1) (N:=some 71) (v := ?_) (a' := ?_) #[qT,qT,qT,qF,qF,qT,qF,qT,qF,qF,qF,qF] rfl rfl (qAo HT_.out HW_.out (by kernel_rfl)) (fun _ _ _ h=>h) (Or.inl ⟨by rfl, ?_⟩) hHeld ?_ ?_
             rotate_left
             ·rintro w' ⟨s0,s1,s2,s3,s4,s5,s6,s7,s8,s9,s10,s11,s12,s13,s14,s15,s16,s17,s18,s19⟩
              go_simp
              with_reducible rfl
             rotate_left
             ·simp only [Act.put,qs1,qs2,qs3,qAR,qAT]
              rfl
             refine qAz (i:=3) (N:=some 73) (v := ?_) (a' := ?_) #[qT,qT,qT,qT,qF,qT,qF,qT,qF,qF,qF,qF] rfl rfl (qAl HT_.out (by kernel_rfl)) (fun _ _ _ h=>h) (Or.inl ⟨by rfl, ?_⟩) ?_ ?_
             rotate_left
             ·intro w'
              go_simp
              with_reducible rfl
             rotate_left
             ·simp only [Act.put,qs1,qs2,qs3,qAR,qAT]
              rfl
             refine qBU (i:=4) (N:=some 74) (v := ?_) (a' := ?_) #[qT,qT,qT,qT,qT,qT,qF,qT,qF,qF,qF,qF] rfl rfl (qAo HT_.out HW_.out (by kernel_rfl)) (fun _ _ _ h=>h) (Or.inl ⟨by rfl, ?_⟩) hHeld ?_ ?_
             rotate_left
             ·rintro w' ⟨s0,s1,s2,s3,s4,s5,s6,s7,s8,s9,s10,s11,s12,s13,s14,s15,s16,s17,s18,s19⟩
              go_simp
              with_reducible rfl
             rotate_left
             ·simp only [Act.put,qs1,qs2,qs3,qAR,qAT]
              rfl
             refine qBU (i:=6) (N:=some 76) (v := ?_) (a' := ?_) #[qT,qT,qT,qT,qT,qT,qT,qT,qF,qF,qF,qF] rfl rfl (qAo HT_.out HW_.out (by kernel_rfl)) (fun _ _ _ h=>h) (Or.inl ⟨by rfl, ?_⟩) hHeld ?_ ?_
             rotate_left
             ·rintro w' ⟨s0,s1,s2,s3,s4,s5,s6,s7,s8,s9,s10,s11,s12,s13,s14,s15,s16,s17,s18,s19⟩
              go_simp
              with_reducible rfl
             rotate_left
             ·simp only [Act.put,qs1,qs2,qs3,qAR,qAT]
              rfl
             refine qAz (i:=8) (N:=some 78) (v := ?_) (a' := ?_) #[qT,qT,qT,qT,qT,qT,qT,qT,qT,qF,qF,qF] rfl rfl (qAl HT_.out (by kernel_rfl)) (fun _ _ _ h=>h) (Or.inl ⟨by rfl, ?_⟩) ?_ ?_
             rotate_left
             ·intro w'
              go_simp
              with_reducible rfl
             rotate_left
             ·simp only [Act.put,qs1,qs2,qs3,qAR,qAT]
              rfl
             refine qBU (i:=9) (N:=some 79) (v := ?_) (a' := ?_) #[qT,qT,qT,qT,qT,qT,qT,qT,qT,qT,qF,qF] rfl rfl (qAo HT_.out HW_.out (by kernel_rfl)) (fun _ _ _ h=>h) (Or.inl ⟨by rfl, ?_⟩) hHeld ?_ ?_
             rotate_left
             ·rintro w' ⟨s0,s1,s2,s3,s4,s5,s6,s7,s8,s9,s10,s11,s12,s13,s14,s15,s16,s17,s18,s19⟩
              go_simp
              with_reducible rfl
             rotate_left
             ·simp only [Act.put,qs1,qs2,qs3,qAR,qAT]
              rfl
             refine one_ (i:=10) (N:=some 80) #[qT,qT,qT,qT,qT,qT,qT,qT,qT,qT,qT,qF] rfl rfl (one_of HT_.out (by kernel_rfl)) (by decide) (fun K hK => ?_)
             refine qBJ Try.func33 (by kernel_rfl) rfl #[.agg #[.int .i64 ((qAO l0_3 x6_3).f0),.int .i64 ((qAO l0_3 x6_3).f1),.string ((qAO l0_3 x6_3).f2),.slice A166_3 ((qAO l0_3 x6_3).f3).length c166_3,.slice A166_4 ((qAO l0_3 x6_3).f4).length c166_4],.agg #[.int .i64 ((qAO l1_3 x6_3).f0),.int .i64 ((qAO l1_3 x6_3).f1),.string ((qAO l1_3 x6_3).f2),.slice A167_3 ((qAO l1_3 x6_3).f3).length c167_3,.slice A167_4 ((qAO l1_3 x6_3).f4).length c167_4]] (by rfl) rfl rfl (by (try simp only [List.map_toArray,List.map_cons,List.map_nil]);first | done | rfl | (simp only [List.length_drop,List.length_take];rfl)) ?_
             with_reducible refine (ih k3 (by have:=HJ2.out;have:=HK2.out;have:=HK3.out;omega) ((qAO l0_3 x6_3).f0) ((qAO l0_3 x6_3).f1) ((qAO l0_3 x6_3).f2) _ _ ((qAO l0_3 x6_3).f3) _ _ ((qAO l0_3 x6_3).f4) ((qAO l1_3 x6_3).f0) ((qAO l1_3 x6_3).f1) ((qAO l1_3 x6_3).f2) _ _ ((qAO l1_3 x6_3).f3) _ _ ((qAO l1_3 x6_3).f4) true _ ?side1 ?side2 ?side3 ?side4 ?side5 ?side6 ?side7 ?side8 A41.out).mono ?_
             (case side1=>repeat (first | exact (Kd.qAS HR166_3.out HB.out) | (with_reducible refine Kd.qAs ?_ _) | (with_reducible refine Kd.qBA ?_ _) | (with_reducible refine Kd.qBW ?_)))
             (case side2=>exact HC166_3.out)
             (case side3=>repeat (first | exact (Kd.qAS HR166_4.out HB.out) | (with_reducible refine Kd.qAs ?_ _) | (with_reducible refine Kd.qBA ?_ _) | (with_reducible refine Kd.qBW ?_)))
             (case side4=>exact HC166_4.out)
             (case side5=>repeat (first | exact (Kd.qAS HR167_3.out HB.out) | (with_reducible refine Kd.qAs ?_ _) | (with_reducible refine Kd.qBA ?_ _) | (with_reducible refine Kd.qBW ?_)))
             (case side6=>exact HC167_3.out)
             (case side7=>repeat (first | exact (Kd.qAS HR167_4.out HB.out) | (with_reducible refine Kd.qAs ?_ _) | (with_reducible refine Kd.qBA ?_ _) | (with_reducible refine Kd.qBW ?_)))
             (case side8=>exact HC167_4.out)
             rintro e w46 ⟨rfl,hb⟩
             refine ⟨_,rfl, ?_⟩
             have n0_:=qAA.mk (qAL (g:=gb162) (o:=.cells #[.int .i64 a0_0,.int .i64 a0_1,.string a0_2,.slice (some ad166) l0_3.length c0_3,.slice A0_4 l0_4.length c0_4] 48 (0,0)) (by (with_reducible repeat (first | refine qAY ?_ _ | refine qAJ ?_ | refine qAK ?_ _));exact BK162.out) hb)
             have n1_:=qAA.mk (qAL (g:=gb163) (o:=.cells #[.int .i64 a1_0,.int .i64 a1_1,.string a1_2,.slice (some ad167) l1_3.length c1_3,.slice A1_4 l1_4.length c1_4] 48 (0,0)) (by (with_reducible repeat (first | refine qAY ?_ _ | refine qAJ ?_ | refine qAK ?_ _));exact BK163.out) hb)
             have n2_:=qAA.mk (qAV (by repeat (first | (with_reducible first | exact HB.out | apply qAH | apply qAI | apply qAN | refine qAQ ?_ GE162.out | refine qAQ ?_ GE163.out) | exact HB.out)) hb)
             clear BK162
             clear BK163
             clear HB
             have BK162:=n0_
             have BK163:=n1_
             have HB:=n2_
             clear n0_ n1_ n2_
             (try clear hb)
             (try clear hb2)
             (try clear hk)
             (try clear hi)
             refine hK.out _ _ ⟨(qAB BK162.out 0).trans rfl,(qAB BK162.out 1).trans rfl,(qAB BK162.out 2).trans rfl,(qAB BK162.out 3).trans rfl,(qAB BK162.out 4).trans rfl,(qAB BK163.out 0).trans rfl,(qAB BK163.out 1).trans rfl,(qAB BK163.out 2).trans rfl,(qAB BK163.out 3).trans rfl,(qAB BK163.out 4).trans rfl,((HB.out.cell (qs4 w _ hw166_0)).trans hw166_0),((HB.out.cell (qs4 w _ hw166_1)).trans hw166_1),((HB.out.cell (qs4 w _ hw166_2)).trans hw166_2),((HB.out.cell (qs4 w _ hw166_3)).trans hw166_3),((HB.out.cell (qs4 w _ hw166_4)).trans hw166_4),((HB.out.cell (qs4 w _ hw167_0)).trans hw167_0),((HB.out.cell (qs4 w _ hw167_1)).trans hw167_1),((HB.out.cell (qs4 w _ hw167_2)).trans hw167_2),((HB.out.cell (qs4 w _ hw167_3)).trans hw167_3),((HB.out.cell (qs4 w _ hw167_4)).trans hw167_4)⟩ (fun hHeld => ?_)
             clear hK K
             refine qAi (a' := ?_) ?_ ?_
             rotate_left
             ·show Act.put _ (some 80) _=_
              simp only [Act.put,qs1,qs2,qs3,qAR,qAT]
              rfl
             refine qAz (i:=11) (N:=some 7) (v := ?_) (a' := ?_) #[qT,qT,qT,qT,qT,qT,qT,qT,qT,qT,qT,qT] rfl rfl (qAl HT_.out (by kernel_rfl)) (fun _ _ _ h=>h) (Or.inl ⟨by rfl, ?_⟩) ?_ ?_
             rotate_left
             ·intro w'
              go_simp
              with_reducible rfl
             rotate_left
             ·simp only [Act.put,qs1,qs2,qs3,qAR,qAT]
              rfl
             refine qA6 (qCN HT_.out (by kernel_rfl)) ?_
             try go_wp2
             go_roundg k3
             case measure=>have:=HJ2.out;have:=HK2.out;have:=HK3.out;omega
             case rel=>exact ⟨(wrap64 (x6_3+1)),(by first | rfl | (simp;done) | (simp [*];done)),H',⟨by have:=HJ2.out;have:=HK2.out;have:=HK3.out;omega⟩,⟨by (with_reducible repeat (first | refine qAY ?_ _ | refine qAJ ?_ | refine qAK ?_ _));exact BK162.out⟩,⟨by (with_reducible repeat (first | refine qAY ?_ _ | refine qAJ ?_ | refine qAK ?_ _));exact BK163.out⟩,⟨by repeat (first | (with_reducible first | exact HB.out | apply qAH | apply qAI | apply qAN | refine qAQ ?_ GE162.out | refine qAQ ?_ GE163.out) | exact HB.out)⟩⟩
            ·replace c42:=Bool.eq_false_iff.mpr c42
             subst c42
             have H1:(some false)=some r:=by rw [if_neg (show ¬ (false=true) by decide)] at H;exact H
             clear H
             have H:=H1
             clear H1
             obtain rfl:=Option.some.inj H
             simp only [Option.some.injEq,Prod.mk.injEq] at H
             obtain ⟨rfl⟩:=H
             have hnb47:=NB162_163.out
             have hnc47:=NB163_162.out
             have hcz48_0:wr.cell? ⟨gb162,0,none⟩=some (.int .i64 a0_0):=(qAB BK162.out 0).trans rfl
             have hcz48_1:wr.cell? ⟨gb162,1,none⟩=some (.int .i64 a0_1):=(qAB BK162.out 1).trans rfl
             have hcz48_2:wr.cell? ⟨gb162,2,none⟩=some (.string a0_2):=(qAB BK162.out 2).trans rfl
             have hcz48_3:wr.cell? ⟨gb162,3,none⟩=some (.slice A0_3 l0_3.length c0_3):=(qAB BK162.out 3).trans rfl
             have hcz48_4:wr.cell? ⟨gb162,4,none⟩=some (.slice A0_4 l0_4.length c0_4):=(qAB BK162.out 4).trans rfl
             have hfz48_0:=qAC BK162.out 0
             have hfz48_1:=qAC BK162.out 1
             have hfz48_2:=qAC BK162.out 2
             have hfz48_3:=qAC BK162.out 3
             have hfz48_4:=qAC BK162.out 4
             try go_wp2
             have n0_:=qAA.mk (qAJ BK162.out)
             have n1_:=qAA.mk (qAJ BK163.out)
             have n2_:=qAA.mk (qAN HB.out)
             clear BK162
             clear BK163
             clear HB
             have BK162:=n0_
             have BK163:=n1_
             have HB:=n2_
             clear n0_ n1_ n2_
             have p166:0≤(x6_3:Int):=of_decide_eq_true (by first | (with_reducible assumption) | assumption)
             have q166:x6_3 < (l0_3.length:Int):=of_decide_eq_true (by first | (with_reducible assumption) | assumption)
             obtain ⟨ad166,A166_3,c166_3,A166_4,c166_4,e166,hx166_0,hx166_1,hx166_2,hx166_3,hx166_4,hl166_3,hi166_3,hl166_4,hi166_4⟩:=qCa HR0_3.out x6_3 p166 q166
             have hw166_4:=hx166_4
             have hw166_3:=hx166_3
             have hw166_2:=hx166_2
             have hw166_1:=hx166_1
             have hw166_0:=hx166_0
             cases e166
             replace hx166_0:=(HB.out.cell (qs4 w _ hx166_0)).trans hx166_0
             replace hx166_1:=(HB.out.cell (qs4 w _ hx166_1)).trans hx166_1
             replace hx166_2:=(HB.out.cell (qs4 w _ hx166_2)).trans hx166_2
             replace hx166_3:=(HB.out.cell (qs4 w _ hx166_3)).trans hx166_3
             replace hx166_4:=(HB.out.cell (qs4 w _ hx166_4)).trans hx166_4
             have HR166_3:=qAA.mk hi166_3
             have HC166_3:=qAA.mk hl166_3
             clear hi166_3 hl166_3
             have HR166_4:=qAA.mk hi166_4
             have HC166_4:=qAA.mk hl166_4
             clear hi166_4 hl166_4
             replace p166:=eq_true p166
             replace q166:=eq_true q166
             have p167:0≤(x6_3:Int):=of_decide_eq_true (by first | (with_reducible assumption) | assumption)
             have q167:x6_3 < (l1_3.length:Int):=of_decide_eq_true (by first | (with_reducible assumption) | assumption)
             obtain ⟨ad167,A167_3,c167_3,A167_4,c167_4,e167,hx167_0,hx167_1,hx167_2,hx167_3,hx167_4,hl167_3,hi167_3,hl167_4,hi167_4⟩:=qCa HR1_3.out x6_3 p167 q167
             have hw167_4:=hx167_4
             have hw167_3:=hx167_3
             have hw167_2:=hx167_2
             have hw167_1:=hx167_1
             have hw167_0:=hx167_0
             cases e167
             replace hx167_0:=(HB.out.cell (qs4 w _ hx167_0)).trans hx167_0
             replace hx167_1:=(HB.out.cell (qs4 w _ hx167_1)).trans hx167_1
             replace hx167_2:=(HB.out.cell (qs4 w _ hx167_2)).trans hx167_2
             replace hx167_3:=(HB.out.cell (qs4 w _ hx167_3)).trans hx167_3
             replace hx167_4:=(HB.out.cell (qs4 w _ hx167_4)).trans hx167_4
             have HR167_3:=qAA.mk hi167_3
             have HC167_3:=qAA.mk hl167_3
             clear hi167_3 hl167_3
             have HR167_4:=qAA.mk hi167_4
             have HC167_4:=qAA.mk hl167_4
             clear hi167_4 hl167_4
             replace p167:=eq_true p167
             replace q167:=eq_true q167
             refine qAn (n:=12) (S:=fun w'=>w'.cell? ⟨gb162,0,none⟩=some (.int .i64 a0_0)∧w'.cell? ⟨gb162,1,none⟩=some (.int .i64 a0_1)∧w'.cell? ⟨gb162,2,none⟩=some (.string a0_2)∧w'.cell? ⟨gb162,3,none⟩=some (.slice (some ad166) l0_3.length c0_3)∧w'.cell? ⟨gb162,4,none⟩=some (.slice A0_4 l0_4.length c0_4)∧w'.cell? ⟨gb163,0,none⟩=some (.int .i64 a1_0)∧w'.cell? ⟨gb163,1,none⟩=some (.int .i64 a1_1)∧w'.cell? ⟨gb163,2,none⟩=some (.string a1_2)∧w'.cell? ⟨gb163,3,none⟩=some (.slice (some ad167) l1_3.length c1_3)∧w'.cell? ⟨gb163,4,none⟩=some (.slice A1_4 l1_4.length c1_4)∧w'.cell? (ad166.add ((x6_3).toNat * 5))=some (.int .i64 ((qAO l0_3 x6_3).f0))∧w'.cell? ⟨(ad166.add ((x6_3).toNat * 5)).block,(ad166.add ((x6_3).toNat * 5)).off+1,none⟩=some (.int .i64 ((qAO l0_3 x6_3).f1))∧w'.cell? ⟨(ad166.add ((x6_3).toNat * 5)).block,(ad166.add ((x6_3).toNat * 5)).off+2,none⟩=some (.string ((qAO l0_3 x6_3).f2))∧w'.cell? ⟨(ad166.add ((x6_3).toNat * 5)).block,(ad166.add ((x6_3).toNat * 5)).off+3,none⟩=some (.slice A166_3 ((qAO l0_3 x6_3).f3).length c166_3)∧w'.cell? ⟨(ad166.add ((x6_3).toNat * 5)).block,(ad166.add ((x6_3).toNat * 5)).off+4,none⟩=some (.slice A166_4 ((qAO l0_3 x6_3).f4).length c166_4)∧w'.cell? (ad167.add ((x6_3).toNat * 5))=some (.int .i64 ((qAO l1_3 x6_3).f0))∧w'.cell? ⟨(ad167.add ((x6_3).toNat * 5)).block,(ad167.add ((x6_3).toNat * 5)).off+1,none⟩=some (.int .i64 ((qAO l1_3 x6_3).f1))∧w'.cell? ⟨(ad167.add ((x6_3).toNat * 5)).block,(ad167.add ((x6_3).toNat * 5)).off+2,none⟩=some (.string ((qAO l1_3 x6_3).f2))∧w'.cell? ⟨(ad167.add ((x6_3).toNat * 5)).block,(ad167.add ((x6_3).toNat * 5)).off+3,none⟩=some (.slice A167_3 ((qAO l1_3 x6_3).f3).length c167_3)∧w'.cell? ⟨(ad167.add ((x6_3).toNat * 5)).block,(ad167.add ((x6_3).toNat * 5)).off+4,none⟩=some (.slice A167_4 ((qAO l1_3 x6_3).f4).length c167_4)) (ds:=[]) #[qF,qF,qF,qF,qF,qF,qF,qF,qF,qF,qF,qF] (by kernel_rfl) rfl rfl ⟨(qAB BK162.out 0).trans rfl,(qAB BK162.out 1).trans rfl,(qAB BK162.out 2).trans rfl,(qAB BK162.out 3).trans rfl,(qAB BK162.out 4).trans rfl,(qAB BK163.out 0).trans rfl,(qAB BK163.out 1).trans rfl,(qAB BK163.out 2).trans rfl,(qAB BK163.out 3).trans rfl,(qAB BK163.out 4).trans rfl,((HB.out.cell (qs4 w _ hw166_0)).trans hw166_0),((HB.out.cell (qs4 w _ hw166_1)).trans hw166_1),((HB.out.cell (qs4 w _ hw166_2)).trans hw166_2),((HB.out.cell (qs4 w _ hw166_3)).trans hw166_3),((HB.out.cell (qs4 w _ hw166_4)).trans hw166_4),((HB.out.cell (qs4 w _ hw167_0)).trans hw167_0),((HB.out.cell (qs4 w _ hw167_1)).trans hw167_1),((HB.out.cell (qs4 w _ hw167_2)).trans hw167_2),((HB.out.cell (qs4 w _ hw167_3)).trans hw167_3),((HB.out.cell (qs4 w _ hw167_4)).trans hw167_4)⟩ (fun hHeld => ?_);refine qBq qAG.tab11 qAG.bits11 (fun HT_ HW_ => ?_)
             generalize wr.drew=w49 at BK162 BK163 HB HR166_3 HR166_4 HR167_3 HR167_4 hx166_0 hx166_1 hx166_2 hx166_3 hx166_4 hx167_0 hx167_1 hx167_2 hx167_3 hx167_4 hHeld ⊢
             refine qAz (i:=0) (N:=some 70) (v := ?_) (a' := ?_) #[qT,qF,qF,qF,qF,qF,qF,qF,qF,qF,qF,qF] rfl rfl (qAl HT_.out (by kernel_rfl)) (fun _ _ _ h=>h) (Or.inl ⟨by rfl, ?_⟩) ?_ ?_
             rotate_left
             ·intro w'
              go_simp
              with_reducible rfl
             rotate_left
             ·simp only [Act.put,qs1,qs2,qs3,qAR,qAT]
              rfl
             refine qAz (i:=2) (N:=some 72) (v := ?_) (a' := ?_) #[qT,qF,qT,qF,qF,qF,qF,qF,qF,qF,qF,qF] rfl rfl (qAl HT_.out (by kernel_rfl)) (fun _ _ _ h=>h) (Or.inl ⟨by rfl, ?_⟩) ?_ ?_
             rotate_left
             ·intro w'
              go_simp
              with_reducible rfl
             rotate_left
             ·simp only [Act.put,qs1,qs2,qs3,qAR,qAT]
              rfl
             refine qAz (i:=5) (N:=some 75) (v := ?_) (a' := ?_) #[qT,qF,qT,qF,qF,qT,qF,qF,qF,qF,qF,qF] rfl rfl (qAl HT_.out (by kernel_rfl)) (fun _ _ _ h=>h) (Or.inl ⟨by rfl, ?_⟩) ?_ ?_
             rotate_left
             ·intro w'
              go_simp
              with_reducible rfl
             rotate_left
             ·simp only [Act.put,qs1,qs2,qs3,qAR,qAT]
              rfl
             refine qAz (i:=7) (N:=some 77) (v := ?_) (a' := ?_) #[qT,qF,qT,qF,qF,qT,qF,qT,qF,qF,qF,qF] rfl rfl (qAl HT_.out (by kernel_rfl)) (fun _ _ _ h=>h) (Or.inl ⟨by rfl, ?_⟩) ?_ ?_
             rotate_left
             ·intro w'
              go_simp
              with_reducible rfl
             rotate_left
             ·simp only [Act.put,qs1,qs2,qs3,qAR,qAT]
              rfl
             refine qBU (i:=1) (N:=some 71) (v := ?_) (a' := ?_) #[qT,qT,qT,qF,qF,qT,qF,qT,qF,qF,qF,qF] rfl rfl (qAo HT_.out HW_.out (by kernel_rfl)) (fun _ _ _ h=>h) (Or.inl ⟨by rfl, ?_⟩) hHeld ?_ ?_
             rotate_left
             ·rintro w' ⟨s0,s1,s2,s3,s4,s5,s6,s7,s8,s9,s10,s11,s12,s13,s14,s15,s16,s17,s18,s19⟩
              go_simp
              with_reducible rfl
             rotate_left
             ·simp only [Act.put,qs1,qs2,qs3,qAR,qAT]
              rfl
             refine qAz (i:=3) (N:=some 73) (v := ?_) (a' := ?_) #[qT,qT,qT,qT,qF,qT,qF,qT,qF,qF,qF,qF] rfl rfl (qAl HT_.out (by kernel_rfl)) (fun _ _ _ h=>h) (Or.inl ⟨by rfl, ?_⟩) ?_ ?_
             rotate_left
             ·intro w'
              go_simp
              with_reducible rfl
             rotate_left
             ·simp only [Act.put,qs1,qs2,qs3,qAR,qAT]
              rfl
             refine qBU (i:=4) (N:=some 74) (v := ?_) (a' := ?_) #[qT,qT,qT,qT,qT,qT,qF,qT,qF,qF,qF,qF] rfl rfl (qAo HT_.out HW_.out (by kernel_rfl)) (fun _ _ _ h=>h) (Or.inl ⟨by rfl, ?_⟩) hHeld ?_ ?_
             rotate_left
             ·rintro w' ⟨s0,s1,s2,s3,s4,s5,s6,s7,s8,s9,s10,s11,s12,s13,s14,s15,s16,s17,s18,s19⟩
              go_simp
              with_reducible rfl
             rotate_left
             ·simp only [Act.put,qs1,qs2,qs3,qAR,qAT]
              rfl
             refine qBU (i:=6) (N:=some 76) (v := ?_) (a' := ?_) #[qT,qT,qT,qT,qT,qT,qT,qT,qF,qF,qF,qF] rfl rfl (qAo HT_.out HW_.out (by kernel_rfl)) (fun _ _ _ h=>h) (Or.inl ⟨by rfl, ?_⟩) hHeld ?_ ?_
             rotate_left
             ·rintro w' ⟨s0,s1,s2,s3,s4,s5,s6,s7,s8,s9,s10,s11,s12,s13,s14,s15,s16,s17,s18,s19⟩
              go_simp
              with_reducible rfl
             rotate_left
             ·simp only [Act.put,qs1,qs2,qs3,qAR,qAT]
              rfl
             refine qAz (i:=8) (N:=some 78) (v := ?_) (a' := ?_) #[qT,qT,qT,qT,qT,qT,qT,qT,qT,qF,qF,qF] rfl rfl (qAl HT_.out (by kernel_rfl)) (fun _ _ _ h=>h) (Or.inl ⟨by rfl, ?_⟩) ?_ ?_
             rotate_left
             ·intro w'
              go_simp
              with_reducible rfl
             rotate_left
             ·simp only [Act.put,qs1,qs2,qs3,qAR,qAT]
              rfl
             refine qBU (i:=9) (N:=some 79) (v := ?_) (a' := ?_) #[qT,qT,qT,qT,qT,qT,qT,qT,qT,qT,qF,qF] rfl rfl (qAo HT_.out HW_.out (by kernel_rfl)) (fun _ _ _ h=>h) (Or.inl ⟨by rfl, ?_⟩) hHeld ?_ ?_
             rotate_left
             ·rintro w' ⟨s0,s1,s2,s3,s4,s5,s6,s7,s8,s9,s10,s11,s12,s13,s14,s15,s16,s17,s18,s19⟩
              go_simp
              with_reducible rfl
             rotate_left
             ·simp only [Act.put,qs1,qs2,qs3,qAR,qAT]
              rfl
             refine one_ (i:=10) (N:=some 80) #[qT,qT,qT,qT,qT,qT,qT,qT,qT,qT,qT,qF] rfl rfl (one_of HT_.out (by kernel_rfl)) (by decide) (fun K hK => ?_)
             refine qBJ Try.func33 (by kernel_rfl) rfl #[.agg #[.int .i64 ((qAO l0_3 x6_3).f0),.int .i64 ((qAO l0_3 x6_3).f1),.string ((qAO l0_3 x6_3).f2),.slice A166_3 ((qAO l0_3 x6_3).f3).length c166_3,.slice A166_4 ((qAO l0_3 x6_3).f4).length c166_4],.agg #[.int .i64 ((qAO l1_3 x6_3).f0),.int .i64 ((qAO l1_3 x6_3).f1),.string ((qAO l1_3 x6_3).f2),.slice A167_3 ((qAO l1_3 x6_3).f3).length c167_3,.slice A167_4 ((qAO l1_3 x6_3).f4).length c167_4]] (by rfl) rfl rfl (by (try simp only [List.map_toArray,List.map_cons,List.map_nil]);first | done | rfl | (simp only [List.length_drop,List.length_take];rfl)) ?_
             with_reducible refine (ih k3 (by have:=HJ2.out;have:=HK2.out;have:=HK3.out;omega) ((qAO l0_3 x6_3).f0) ((qAO l0_3 x6_3).f1) ((qAO l0_3 x6_3).f2) _ _ ((qAO l0_3 x6_3).f3) _ _ ((qAO l0_3 x6_3).f4) ((qAO l1_3 x6_3).f0) ((qAO l1_3 x6_3).f1) ((qAO l1_3 x6_3).f2) _ _ ((qAO l1_3 x6_3).f3) _ _ ((qAO l1_3 x6_3).f4) false _ ?side1 ?side2 ?side3 ?side4 ?side5 ?side6 ?side7 ?side8 A41.out).mono ?_
             (case side1=>repeat (first | exact (Kd.qAS HR166_3.out HB.out) | (with_reducible refine Kd.qAs ?_ _) | (with_reducible refine Kd.qBA ?_ _) | (with_reducible refine Kd.qBW ?_)))
             (case side2=>exact HC166_3.out)
             (case side3=>repeat (first | exact (Kd.qAS HR166_4.out HB.out) | (with_reducible refine Kd.qAs ?_ _) | (with_reducible refine Kd.qBA ?_ _) | (with_reducible refine Kd.qBW ?_)))
             (case side4=>exact HC166_4.out)
             (case side5=>repeat (first | exact (Kd.qAS HR167_3.out HB.out) | (with_reducible refine Kd.qAs ?_ _) | (with_reducible refine Kd.qBA ?_ _) | (with_reducible refine Kd.qBW ?_)))
             (case side6=>exact HC167_3.out)
             (case side7=>repeat (first | exact (Kd.qAS HR167_4.out HB.out) | (with_reducible refine Kd.qAs ?_ _) | (with_reducible refine Kd.qBA ?_ _) | (with_reducible refine Kd.qBW ?_)))
             (case side8=>exact HC167_4.out)
             rintro e w50 ⟨rfl,hb⟩
             refine ⟨_,rfl, ?_⟩
             have n0_:=qAA.mk (qAL (g:=gb162) (o:=.cells #[.int .i64 a0_0,.int .i64 a0_1,.string a0_2,.slice (some ad166) l0_3.length c0_3,.slice A0_4 l0_4.length c0_4] 48 (0,0)) (by (with_reducible repeat (first | refine qAY ?_ _ | refine qAJ ?_ | refine qAK ?_ _));exact BK162.out) hb)
             have n1_:=qAA.mk (qAL (g:=gb163) (o:=.cells #[.int .i64 a1_0,.int .i64 a1_1,.string a1_2,.slice (some ad167) l1_3.length c1_3,.slice A1_4 l1_4.length c1_4] 48 (0,0)) (by (with_reducible repeat (first | refine qAY ?_ _ | refine qAJ ?_ | refine qAK ?_ _));exact BK163.out) hb)
             have n2_:=qAA.mk (qAV (by repeat (first | (with_reducible first | exact HB.out | apply qAH | apply qAI | apply qAN | refine qAQ ?_ GE162.out | refine qAQ ?_ GE163.out) | exact HB.out)) hb)
             clear BK162
             clear BK163
             clear HB
             have BK162:=n0_
             have BK163:=n1_
             have HB:=n2_
             clear n0_ n1_ n2_
             (try clear hb)
             (try clear hb2)
             (try clear hk)
             (try clear hi)
             refine hK.out _ _ ⟨(qAB BK162.out 0).trans rfl,(qAB BK162.out 1).trans rfl,(qAB BK162.out 2).trans rfl,(qAB BK162.out 3).trans rfl,(qAB BK162.out 4).trans rfl,(qAB BK163.out 0).trans rfl,(qAB BK163.out 1).trans rfl,(qAB BK163.out 2).trans rfl,(qAB BK163.out 3).trans rfl,(qAB BK163.out 4).trans rfl,((HB.out.cell (qs4 w _ hw166_0)).trans hw166_0),((HB.out.cell (qs4 w _ hw166_1)).trans hw166_1),((HB.out.cell (qs4 w _ hw166_2)).trans hw166_2),((HB.out.cell (qs4 w _ hw166_3)).trans hw166_3),((HB.out.cell (qs4 w _ hw166_4)).trans hw166_4),((HB.out.cell (qs4 w _ hw167_0)).trans hw167_0),((HB.out.cell (qs4 w _ hw167_1)).trans hw167_1),((HB.out.cell (qs4 w _ hw167_2)).trans hw167_2),((HB.out.cell (qs4 w _ hw167_3)).trans hw167_3),((HB.out.cell (qs4 w _ hw167_4)).trans hw167_4)⟩ (fun hHeld => ?_)
             clear hK K
             refine qAi (a' := ?_) ?_ ?_
             rotate_left
             ·show Act.put _ (some 80) _=_
              simp only [Act.put,qs1,qs2,qs3,qAR,qAT]
              rfl
             refine qAz (i:=11) (N:=some 7) (v := ?_) (a' := ?_) #[qT,qT,qT,qT,qT,qT,qT,qT,qT,qT,qT,qT] rfl rfl (qAl HT_.out (by kernel_rfl)) (fun _ _ _ h=>h) (Or.inl ⟨by rfl, ?_⟩) ?_ ?_
             rotate_left
             ·intro w'
              go_simp
              with_reducible rfl
             rotate_left
             ·simp only [Act.put,qs1,qs2,qs3,qAR,qAT]
              rfl
             refine qA6 (qCN HT_.out (by kernel_rfl)) ?_
             try go_wp2
             go_ret
             exact ⟨by first | rfl | (simp [qAu,qAt] <;> rfl) | (simp [*,qAu,qAt] <;> rfl),by repeat (first | (with_reducible first | exact HB.out | apply qAH | apply qAI | apply qAN | refine qAQ ?_ GE162.out | refine qAQ ?_ GE163.out) | exact HB.out)⟩
           ·rw [if_neg c40] at H
            exact absurd H (by simp)
          ·rw [if_neg c39] at H
           exact absurd H (by simp)
         ·rw [if_neg c38] at H
          have c38b0:decide (x6_3 < (l0_3.length:Int))=false:=decide_eq_false c38
          clear c38
          obtain rfl:=Option.some.inj H
          simp only [Option.some.injEq,Prod.mk.injEq] at H
          obtain ⟨rfl⟩:=H
          have hnb51:=NB162_163.out
          have hnc51:=NB163_162.out
          have hcz52_0:wr.cell? ⟨gb162,0,none⟩=some (.int .i64 a0_0):=(qAB BK162.out 0).trans rfl
          have hcz52_1:wr.cell? ⟨gb162,1,none⟩=some (.int .i64 a0_1):=(qAB BK162.out 1).trans rfl
          have hcz52_2:wr.cell? ⟨gb162,2,none⟩=some (.string a0_2):=(qAB BK162.out 2).trans rfl
          have hcz52_3:wr.cell? ⟨gb162,3,none⟩=some (.slice A0_3 l0_3.length c0_3):=(qAB BK162.out 3).trans rfl
          have hcz52_4:wr.cell? ⟨gb162,4,none⟩=some (.slice A0_4 l0_4.length c0_4):=(qAB BK162.out 4).trans rfl
          have hfz52_0:=qAC BK162.out 0
          have hfz52_1:=qAC BK162.out 1
          have hfz52_2:=qAC BK162.out 2
          have hfz52_3:=qAC BK162.out 3
          have hfz52_4:=qAC BK162.out 4
          go_wp2
          go_ret
          exact ⟨by first | rfl | (simp [qAu,qAt] <;> rfl) | (simp [*,qAu,qAt] <;> rfl),by repeat (first | (with_reducible first | exact HB.out | apply qAH | apply qAI | apply qAN | refine qAQ ?_ GE162.out | refine qAQ ?_ GE163.out) | exact HB.out)⟩
end Go.Proofs.Ytmehfnikecmiiaa.X
