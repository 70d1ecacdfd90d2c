import Derived.Test.YtdommiicjpjfpaaZStateReads3
set_option linter.unusedVariables false
set_option linter.unusedSimpArgs false
namespace Go.Proofs.Ytdommiicjpjfpaa.X
open Go.RowKit Go.Proofs.YtdommiicjpjfpaaW.PrintWords Go.Proofs.YtdommiicjpjfpaaW.PrintLast Go.Proofs.YtdommiicjpjfpaaW.PrintMore Go.Proofs.YtdommiicjpjfpaaW
attribute [local go_sem] qBE qBD qBV qBU qA6 qA5 qBJ qBI
mutual
def qAI.j0:Nat→Bool→Int→Int→ByteArray→List (S34)→List ByteArray→Int→Int→ByteArray→List (S34)→List ByteArray→Option (Bool)
 | 0,_,_,_,_,_,_,_,_,_,_,_=>none
 | k+1,x44,x380000,x380001,x380002,x380003,x380004,x381000,x381001,x381002,x381003,x381004=>if x44=true then (some false) else (qAI.l0 k 0 x380000 x380001 x380002 x380003 x380004 x381000 x381001 x381002 x381003 x381004)
def qAI.l0:Nat→Int→Int→Int→ByteArray→List (S34)→List ByteArray→Int→Int→ByteArray→List (S34)→List ByteArray→Option (Bool)
 | 0,_,_,_,_,_,_,_,_,_,_,_=>none
 | k+1,x5,x380000,x380001,x380002,x380003,x380004,x381000,x381001,x381002,x381003,x381004=>if x5 < (x380004.length:Int) then (if 0≤x5 then (if x5 < (x381004.length:Int) then (if (rdOf ByteArray.empty x380004 x5).toList=(rdOf ByteArray.empty x381004 x5).toList then (qAI.l0 k (wrap64 (x5+1)) x380000 x380001 x380002 x380003 x380004 x381000 x381001 x381002 x381003 x381004) else (some false)) else (none)) else (none)) else (qAI.l1 k 0 x380000 x380001 x380002 x380003 x380004 x381000 x381001 x381002 x381003 x381004)
def qAI.l1:Nat→Int→Int→Int→ByteArray→List (S34)→List ByteArray→Int→Int→ByteArray→List (S34)→List ByteArray→Option (Bool)
 | 0,_,_,_,_,_,_,_,_,_,_,_=>none
 | k+1,x6,x380000,x380001,x380002,x380003,x380004,x381000,x381001,x381002,x381003,x381004=>if x6 < (x380003.length:Int) then (if 0≤x6 then (if x6 < (x381003.length:Int) then ((qAI.f k ((qAR x380003 x6).f0) ((qAR x380003 x6).f1) ((qAR x380003 x6).f2) ((qAR x380003 x6).f3) ((qAR x380003 x6).f4) ((qAR x381003 x6).f0) ((qAR x381003 x6).f1) ((qAR x381003 x6).f2) ((qAR x381003 x6).f3) ((qAR x381003 x6).f4)).bind fun t385=>(if t385=true then (qAI.l1 k (wrap64 (x6+1)) x380000 x380001 x380002 x380003 x380004 x381000 x381001 x381002 x381003 x381004) else (some false))) else (none)) else (none)) else (some true)
def qAI.f:Nat→Int→Int→ByteArray→List (S34)→List ByteArray→Int→Int→ByteArray→List (S34)→List ByteArray→Option (Bool)
 | 0,_,_,_,_,_,_,_,_,_,_=>none
 | k+1,a0_0,a0_1,a0_2,l0_3,l0_4,a1_0,a1_1,a1_2,l1_3,l1_4=>if a0_0=a1_0 then (if a0_1=a1_1 then (if a0_2.toList=a1_2.toList then (if (l0_3.length:Int)=(l1_3.length:Int) then (qAI.j0 k ((l0_4.length:Int) != (l1_4.length:Int)) a0_0 a0_1 a0_2 l0_3 l0_4 a1_0 a1_1 a1_2 l1_3 l1_4) else (qAI.j0 k true a0_0 a0_1 a0_2 l0_3 l0_4 a1_0 a1_1 a1_2 l1_3 l1_4)) else (qAI.j0 k true a0_0 a0_1 a0_2 l0_3 l0_4 a1_0 a1_1 a1_2 l1_3 l1_4)) else (qAI.j0 k true a0_0 a0_1 a0_2 l0_3 l0_4 a1_0 a1_1 a1_2 l1_3 l1_4)) else (qAI.j0 k true a0_0 a0_1 a0_2 l0_3 l0_4 a1_0 a1_1 a1_2 l1_3 l1_4)
end
def qAI.T6:Bool × List (List Nat × List Nat):=(true,[([],[]),([0],[0]),([],[]),([1,2],[1,2]),([3],[3]),([],[]),([5],[5]),([],[]),([6,7],[6,7]),([8],[8]),([4,9],[4,9])])
def qAI.B6:List Nat:=[0,1,0,7,15,0,32,0,224,480,1023]
theorem qAI.tab6:rtab .any (opsOf Try.f33 6)=qAI.T6:=by kernel_rfl
theorem qAI.bits6:waitsOk qAI.T6.2 qAI.B6=true:=by kernel_rfl
def qAI.T11:Bool × List (List Nat × List Nat):=(true,[([],[]),([0],[0]),([],[]),([1,2],[1,2]),([3],[3]),([],[]),([5],[5]),([],[]),([6,7],[6,7]),([8],[8]),([4,9],[4,9]),([10,10,0,1,2,3,4,5,6,7,8,9,10],[10])])
def qAI.B11:List Nat:=[0,1,0,7,15,0,32,0,224,480,1023,2047]
theorem qAI.tab11:rtab .any (opsOf Try.f33 11)=qAI.T11:=by kernel_rfl
theorem qAI.bits11:waitsOk qAI.T11.2 qAI.B11=true:=by kernel_rfl
set_option maxHeartbeats 8000000 in
set_option maxRecDepth 100000 in
theorem qAI.calls (k:Nat):∀ (a0_0:Int) (a0_1:Int) (a0_2:ByteArray) (A0_3:Option Addr) (c0_3:Nat) (l0_3:List (S34)) (A0_4:Option Addr) (c0_4:Nat) (l0_4:List ByteArray) (a1_0:Int) (a1_1:Int) (a1_2:ByteArray) (A1_3:Option Addr) (c1_3:Nat) (l1_3:List (S34)) (A1_4:Option Addr) (c1_4:Nat) (l1_4:List ByteArray) (r:Bool) (w:World) (hr0_3:Kd.C k34 w A0_3 l0_3.length l0_3) (hc0_3:l0_3.length≤c0_3) (hr0_4:Kd.C Kd.string w A0_4 l0_4.length l0_4) (hc0_4:l0_4.length≤c0_4) (hr1_3:Kd.C k34 w A1_3 l1_3.length l1_3) (hc1_3:l1_3.length≤c1_3) (hr1_4:Kd.C Kd.string w A1_4 l1_4.length l1_4) (hc1_4:l1_4.length≤c1_4) (h:qAI.f k a0_0 a0_1 a0_2 l0_3 l0_4 a1_0 a1_1 a1_2 l1_3 l1_4=some r),
  Calls Try.prog 33 #[.agg #[.int .i64 a0_0,.int .i64 a0_1,.string a0_2,.slice A0_3 l0_3.length c0_3,.slice A0_4 l0_4.length c0_4],.agg #[.int .i64 a1_0,.int .i64 a1_1,.string a1_2,.slice A1_3 l1_3.length c1_3,.slice A1_4 l1_4.length c1_4]] w fun e w'=>e=.returned (.bool r)∧Below w.heap.size w w':=by
 induction k using Nat.strongRecOn with
 | _ k ih =>
 intro a0_0 a0_1 a0_2 A0_3 c0_3 l0_3 A0_4 c0_4 l0_4 a1_0 a1_1 a1_2 A1_3 c1_3 l1_3 A1_4 c1_4 l1_4 r w hr0_3 hc0_3 hr0_4 hc0_4 hr1_3 hc1_3 hr1_4 hc1_4 h
 cases k with
 | zero=>exact absurd h (by simp [qAI.f])
 | succ k =>
 simp only [qAI.f] at h
 have hu34:=Try.underlying34
 have HR0_3:=qAA.mk hr0_3
 have HC0_3:=qAA.mk hc0_3
 clear hr0_3 hc0_3
 have HR0_4:=qAA.mk hr0_4
 have HC0_4:=qAA.mk hc0_4
 clear hr0_4 hc0_4
 have HR1_3:=qAA.mk hr1_3
 have HC1_3:=qAA.mk hc1_3
 clear hr1_3 hc1_3
 have HR1_4:=qAA.mk hr1_4
 have HC1_4:=qAA.mk hc1_4
 clear hr1_4 hc1_4
 have HB:=qAA.mk (Below.refl w.heap.size w)
 have H:(if a0_0=a1_0 then (if a0_1=a1_1 then (if a0_2.toList=a1_2.toList then (if (l0_3.length:Int)=(l1_3.length:Int) then (qAI.j0 k ((l0_4.length:Int) != (l1_4.length:Int)) a0_0 a0_1 a0_2 l0_3 l0_4 a1_0 a1_1 a1_2 l1_3 l1_4) else (qAI.j0 k true a0_0 a0_1 a0_2 l0_3 l0_4 a1_0 a1_1 a1_2 l1_3 l1_4)) else (qAI.j0 k true a0_0 a0_1 a0_2 l0_3 l0_4 a1_0 a1_1 a1_2 l1_3 l1_4)) else (qAI.j0 k true a0_0 a0_1 a0_2 l0_3 l0_4 a1_0 a1_1 a1_2 l1_3 l1_4)) else (qAI.j0 k true a0_0 a0_1 a0_2 l0_3 l0_4 a1_0 a1_1 a1_2 l1_3 l1_4))=some r:=h
 clear h
 have HC3:=qAA.mk H
 clear H
 go_enter Try.func33,Try.ntmps33
 go_upto_region 1 with (first | ((with_reducible refine qAl (N:=2) rfl ?_);(try (refine qAw (by rfl) ?_;dsimp only));refine qAg ?hg (N:=2) ?hd (cs:=#[.int .i64 a0_0,.int .i64 a0_1,.string a0_2,.slice A0_3 l0_3.length c0_3,.slice A0_4 l0_4.length c0_4]) (t:=34) ?hr ?_;(case hd=>rfl);(case hg=>rfl);(case hr=>first | (go_simp;done) | (go_simp;rfl));intro gb379 hg w4 hbox hb;have n0_:=qAA.mk (qAO (by repeat (first | (with_reducible first | exact HB.out | apply qAE | apply qAD | apply qAF) | exact HB.out)) hb);have n1_:=qAA.mk (hbox);have n2_:=qAA.mk ((by rw [hg];exact (qAV (by repeat (first | (with_reducible first | exact HB.out | apply qAE | apply qAD | apply qAF) | exact HB.out))):w.heap.size≤gb379));have n3_:=qAA.mk ((by rw [hg];exact (qAV (by repeat (first | (with_reducible first | exact HB.out | apply qAE | apply qAD | apply qAF) | exact HB.out))):w.heap.size≤gb379));clear HB;have HB:=n0_;have BK379:=n1_;have GW379:=n2_;have GE379:=n3_;clear n0_ n1_ n2_ n3_;clear hb hbox hg) | ((with_reducible refine qAl (N:=3) rfl ?_);(try (refine qAw (by rfl) ?_;dsimp only));refine qAg ?hg (N:=3) ?hd (cs:=#[.int .i64 a1_0,.int .i64 a1_1,.string a1_2,.slice A1_3 l1_3.length c1_3,.slice A1_4 l1_4.length c1_4]) (t:=34) ?hr ?_;(case hd=>rfl);(case hg=>rfl);(case hr=>first | (go_simp;done) | (go_simp;rfl));intro gb380 hg w5 hbox hb;have n0_:=qAA.mk (qAX (g:=gb379) (o:=.cells #[.int .i64 a0_0,.int .i64 a0_1,.string a0_2,.slice A0_3 l0_3.length c0_3,.slice A0_4 l0_4.length c0_4] 34 (0,0)) (by (with_reducible repeat (first | refine qAa ?_ _ | refine qAL ?_ | refine qAP ?_ _));exact BK379.out) hb);have n1_:=qAA.mk (qAO (by repeat (first | (with_reducible first | exact HB.out | apply qAE | apply qAD | apply qAF | refine qAQ ?_ GE379.out) | exact HB.out)) hb);have n2_:=qAA.mk (hbox);have n3_:=qAA.mk ((by rw [hg];exact (qAV (by repeat (first | (with_reducible first | exact HB.out | apply qAE | apply qAD | apply qAF | refine qAQ ?_ GE379.out) | exact HB.out))):w.heap.size≤gb380));have n4_:=qAA.mk ((by rw [hg];exact (qAV (by repeat (first | (with_reducible first | exact HB.out | apply qAE | apply qAD | apply qAF | refine qAQ ?_ GE379.out) | exact HB.out))):w.heap.size≤gb380));have n5_:=qAA.mk ((by rw [hg];exact Nat.ne_of_lt (qAe (g:=gb379) (o:=.cells #[.int .i64 a0_0,.int .i64 a0_1,.string a0_2,.slice A0_3 l0_3.length c0_3,.slice A0_4 l0_4.length c0_4] 34 (0,0)) (by (with_reducible repeat (first | refine qAa ?_ _ | refine qAL ?_ | refine qAP ?_ _));exact BK379.out)):gb379 ≠ gb380));have n6_:=qAA.mk ((by rw [hg];exact Nat.ne_of_gt (qAe (g:=gb379) (o:=.cells #[.int .i64 a0_0,.int .i64 a0_1,.string a0_2,.slice A0_3 l0_3.length c0_3,.slice A0_4 l0_4.length c0_4] 34 (0,0)) (by (with_reducible repeat (first | refine qAa ?_ _ | refine qAL ?_ | refine qAP ?_ _));exact BK379.out)):gb380 ≠ gb379));clear BK379;clear HB;have BK379:=n0_;have HB:=n1_;have BK380:=n2_;have GW380:=n3_;have GE380:=n4_;have NB379_380:=n5_;have NB380_379:=n6_;clear n0_ n1_ n2_ n3_ n4_ n5_ n6_;clear hb hbox hg))
 (try simp only [Act.put,qs1,qs2,qs3])
 go_cut [44] (fun v44 wc=>∃ (kq:Nat) (x44_2:Bool),v44=.bool x44_2∧qAA (qAI.j0 kq x44_2 a0_0 a0_1 a0_2 l0_3 l0_4 a1_0 a1_1 a1_2 l1_3 l1_4=some r)∧qAA (kq≤k)∧qAA (wc.heap[gb379]?=some (.cells #[.int .i64 a0_0,.int .i64 a0_1,.string a0_2,(.slice A0_3 l0_3.length c0_3),(.slice A0_4 l0_4.length c0_4)] 34 (0,0)))∧qAA (wc.heap[gb380]?=some (.cells #[.int .i64 a1_0,.int .i64 a1_1,.string a1_2,(.slice A1_3 l1_3.length c1_3),(.slice A1_4 l1_4.length c1_4)] 34 (0,0)))∧qAA (Below w.heap.size w wc))
 case first =>
  have H:=HC3.out
  clear HC3
  by_cases c6:a0_0=a1_0
  ·rw [if_pos c6] at H
   have c6b0:(a0_0 == a1_0)=true:=beq_iff_eq.mpr c6
   have c6b1:(a0_0 != a1_0)=false:=bne_eq_false_iff_eq.mpr c6
   clear c6
   (first | rw [c6b0] | (simp only [qAZ,qAb];rw [c6b0]) | rw [c6b1] | (simp only [qAZ,qAb];rw [c6b1]) | skip)
   by_cases c7:a0_1=a1_1
   ·rw [if_pos c7] at H
    have c7b0:(a0_1 == a1_1)=true:=beq_iff_eq.mpr c7
    have c7b1:(a0_1 != a1_1)=false:=bne_eq_false_iff_eq.mpr c7
    clear c7
    by_cases c8:a0_2.toList=a1_2.toList
    ·rw [if_pos c8] at H
     have c8b0:(a0_2.toList == a1_2.toList)=true:=beq_iff_eq.mpr c8
     have c8b1:(a0_2.toList != a1_2.toList)=false:=bne_eq_false_iff_eq.mpr c8
     clear c8
     by_cases c9:(l0_3.length:Int)=(l1_3.length:Int)
     ·rw [if_pos c9] at H
      have c9b0:((l0_3.length:Int) == (l1_3.length:Int))=true:=beq_iff_eq.mpr c9
      have c9b1:((l0_3.length:Int) != (l1_3.length:Int))=false:=bne_eq_false_iff_eq.mpr c9
      have c9b2:(l0_3.length == l1_3.length)=true:=by first | simpa using c9 | (simp at c9 ⊢;omega)
      clear c9
      have H':=qAA.mk H
      clear H
      have hnb10:=NB379_380.out
      have hnc10:=NB380_379.out
      have hcz11_0:w5.cell? ⟨gb379,0,none⟩=some (.int .i64 a0_0):=(qAB BK379.out 0).trans rfl
      have hcz11_1:w5.cell? ⟨gb379,1,none⟩=some (.int .i64 a0_1):=(qAB BK379.out 1).trans rfl
      have hcz11_2:w5.cell? ⟨gb379,2,none⟩=some (.string a0_2):=(qAB BK379.out 2).trans rfl
      have hcz11_3:w5.cell? ⟨gb379,3,none⟩=some (.slice A0_3 l0_3.length c0_3):=(qAB BK379.out 3).trans rfl
      have hcz11_4:w5.cell? ⟨gb379,4,none⟩=some (.slice A0_4 l0_4.length c0_4):=(qAB BK379.out 4).trans rfl
      have hfz11_0:=qAC BK379.out 0
      have hfz11_1:=qAC BK379.out 1
      have hfz11_2:=qAC BK379.out 2
      have hfz11_3:=qAC BK379.out 3
      have hfz11_4:=qAC BK379.out 4
      have hcz12_0:w5.cell? ⟨gb380,0,none⟩=some (.int .i64 a1_0):=(qAB BK380.out 0).trans rfl
      have hcz12_1:w5.cell? ⟨gb380,1,none⟩=some (.int .i64 a1_1):=(qAB BK380.out 1).trans rfl
      have hcz12_2:w5.cell? ⟨gb380,2,none⟩=some (.string a1_2):=(qAB BK380.out 2).trans rfl
      have hcz12_3:w5.cell? ⟨gb380,3,none⟩=some (.slice A1_3 l1_3.length c1_3):=(qAB BK380.out 3).trans rfl
      have hcz12_4:w5.cell? ⟨gb380,4,none⟩=some (.slice A1_4 l1_4.length c1_4):=(qAB BK380.out 4).trans rfl
      have hfz12_0:=qAC BK380.out 0
      have hfz12_1:=qAC BK380.out 1
      have hfz12_2:=qAC BK380.out 2
      have hfz12_3:=qAC BK380.out 3
      have hfz12_4:=qAC BK380.out 4
      go_wp2
      go_meet
      case rel=>exact ⟨_,(((l0_4.length:Int) != (l1_4.length:Int))),(by first | rfl | (simp;done) | (simp [*];done)),H',⟨by first | omega | exact Nat.le_refl _⟩,⟨by (with_reducible repeat (first | refine qAa ?_ _ | refine qAL ?_ | refine qAP ?_ _));exact BK379.out⟩,⟨by (with_reducible repeat (first | refine qAa ?_ _ | refine qAL ?_ | refine qAP ?_ _));exact BK380.out⟩,⟨by repeat (first | (with_reducible first | exact HB.out | apply qAE | apply qAD | apply qAF | refine qAQ ?_ GE379.out | refine qAQ ?_ GE380.out) | exact HB.out)⟩⟩
     ·rw [if_neg c9] at H
      have c9b0:((l0_3.length:Int) == (l1_3.length:Int))=false:=beq_eq_false_iff_ne.mpr c9
      have c9b1:((l0_3.length:Int) != (l1_3.length:Int))=true:=bne_iff_ne.mpr c9
      have c9b2:(l0_3.length == l1_3.length)=false:=by first | simpa using c9 | (simp at c9 ⊢;omega)
      have H':=qAA.mk H
      clear H
      have hnb13:=NB379_380.out
      have hnc13:=NB380_379.out
      have hcz14_0:w5.cell? ⟨gb379,0,none⟩=some (.int .i64 a0_0):=(qAB BK379.out 0).trans rfl
      have hcz14_1:w5.cell? ⟨gb379,1,none⟩=some (.int .i64 a0_1):=(qAB BK379.out 1).trans rfl
      have hcz14_2:w5.cell? ⟨gb379,2,none⟩=some (.string a0_2):=(qAB BK379.out 2).trans rfl
      have hcz14_3:w5.cell? ⟨gb379,3,none⟩=some (.slice A0_3 l0_3.length c0_3):=(qAB BK379.out 3).trans rfl
      have hcz14_4:w5.cell? ⟨gb379,4,none⟩=some (.slice A0_4 l0_4.length c0_4):=(qAB BK379.out 4).trans rfl
      have hfz14_0:=qAC BK379.out 0
      have hfz14_1:=qAC BK379.out 1
      have hfz14_2:=qAC BK379.out 2
      have hfz14_3:=qAC BK379.out 3
      have hfz14_4:=qAC BK379.out 4
      have hcz15_0:w5.cell? ⟨gb380,0,none⟩=some (.int .i64 a1_0):=(qAB BK380.out 0).trans rfl
      have hcz15_1:w5.cell? ⟨gb380,1,none⟩=some (.int .i64 a1_1):=(qAB BK380.out 1).trans rfl
      have hcz15_2:w5.cell? ⟨gb380,2,none⟩=some (.string a1_2):=(qAB BK380.out 2).trans rfl
      have hcz15_3:w5.cell? ⟨gb380,3,none⟩=some (.slice A1_3 l1_3.length c1_3):=(qAB BK380.out 3).trans rfl
      have hcz15_4:w5.cell? ⟨gb380,4,none⟩=some (.slice A1_4 l1_4.length c1_4):=(qAB BK380.out 4).trans rfl
      have hfz15_0:=qAC BK380.out 0
      have hfz15_1:=qAC BK380.out 1
      have hfz15_2:=qAC BK380.out 2
      have hfz15_3:=qAC BK380.out 3
      have hfz15_4:=qAC BK380.out 4
      go_wp2
      go_meet
      case rel=>exact ⟨_,(true),(by first | rfl | (simp;done) | (simp [*];done)),H',⟨by first | omega | exact Nat.le_refl _⟩,⟨by (with_reducible repeat (first | refine qAa ?_ _ | refine qAL ?_ | refine qAP ?_ _));exact BK379.out⟩,⟨by (with_reducible repeat (first | refine qAa ?_ _ | refine qAL ?_ | refine qAP ?_ _));exact BK380.out⟩,⟨by repeat (first | (with_reducible first | exact HB.out | apply qAE | apply qAD | apply qAF | refine qAQ ?_ GE379.out | refine qAQ ?_ GE380.out) | exact HB.out)⟩⟩
    ·rw [if_neg c8] at H
     have c8b0:(a0_2.toList == a1_2.toList)=false:=beq_eq_false_iff_ne.mpr c8
     have c8b1:(a0_2.toList != a1_2.toList)=true:=bne_iff_ne.mpr c8
     have H':=qAA.mk H
     clear H
     have hnb16:=NB379_380.out
     have hnc16:=NB380_379.out
     have hcz17_0:w5.cell? ⟨gb379,0,none⟩=some (.int .i64 a0_0):=(qAB BK379.out 0).trans rfl
     have hcz17_1:w5.cell? ⟨gb379,1,none⟩=some (.int .i64 a0_1):=(qAB BK379.out 1).trans rfl
     have hcz17_2:w5.cell? ⟨gb379,2,none⟩=some (.string a0_2):=(qAB BK379.out 2).trans rfl
     have hcz17_3:w5.cell? ⟨gb379,3,none⟩=some (.slice A0_3 l0_3.length c0_3):=(qAB BK379.out 3).trans rfl
     have hcz17_4:w5.cell? ⟨gb379,4,none⟩=some (.slice A0_4 l0_4.length c0_4):=(qAB BK379.out 4).trans rfl
     have hfz17_0:=qAC BK379.out 0
     have hfz17_1:=qAC BK379.out 1
     have hfz17_2:=qAC BK379.out 2
     have hfz17_3:=qAC BK379.out 3
     have hfz17_4:=qAC BK379.out 4
     have hcz18_0:w5.cell? ⟨gb380,0,none⟩=some (.int .i64 a1_0):=(qAB BK380.out 0).trans rfl
     have hcz18_1:w5.cell? ⟨gb380,1,none⟩=some (.int .i64 a1_1):=(qAB BK380.out 1).trans rfl
     have hcz18_2:w5.cell? ⟨gb380,2,none⟩=some (.string a1_2):=(qAB BK380.out 2).trans rfl
     have hcz18_3:w5.cell? ⟨gb380,3,none⟩=some (.slice A1_3 l1_3.length c1_3):=(qAB BK380.out 3).trans rfl
     have hcz18_4:w5.cell? ⟨gb380,4,none⟩=some (.slice A1_4 l1_4.length c1_4):=(qAB BK380.out 4).trans rfl
     have hfz18_0:=qAC BK380.out 0
     have hfz18_1:=qAC BK380.out 1
     have hfz18_2:=qAC BK380.out 2
     have hfz18_3:=qAC BK380.out 3
     have hfz18_4:=qAC BK380.out 4
     go_wp2
     go_meet
     case rel=>exact ⟨_,(true),(by first | rfl | (simp;done) | (simp [*];done)),H',⟨by first | omega | exact Nat.le_refl _⟩,⟨by (with_reducible repeat (first | refine qAa ?_ _ | refine qAL ?_ | refine qAP ?_ _));exact BK379.out⟩,⟨by (with_reducible repeat (first | refine qAa ?_ _ | refine qAL ?_ | refine qAP ?_ _));exact BK380.out⟩,⟨by repeat (first | (with_reducible first | exact HB.out | apply qAE | apply qAD | apply qAF | refine qAQ ?_ GE379.out | refine qAQ ?_ GE380.out) | exact HB.out)⟩⟩
   ·rw [if_neg c7] at H
    have c7b0:(a0_1 == a1_1)=false:=beq_eq_false_iff_ne.mpr c7
    have c7b1:(a0_1 != a1_1)=true:=bne_iff_ne.mpr c7
    have H':=qAA.mk H
    clear H
    have hnb19:=NB379_380.out
    have hnc19:=NB380_379.out
    have hcz20_0:w5.cell? ⟨gb379,0,none⟩=some (.int .i64 a0_0):=(qAB BK379.out 0).trans rfl
    have hcz20_1:w5.cell? ⟨gb379,1,none⟩=some (.int .i64 a0_1):=(qAB BK379.out 1).trans rfl
    have hcz20_2:w5.cell? ⟨gb379,2,none⟩=some (.string a0_2):=(qAB BK379.out 2).trans rfl
    have hcz20_3:w5.cell? ⟨gb379,3,none⟩=some (.slice A0_3 l0_3.length c0_3):=(qAB BK379.out 3).trans rfl
    have hcz20_4:w5.cell? ⟨gb379,4,none⟩=some (.slice A0_4 l0_4.length c0_4):=(qAB BK379.out 4).trans rfl
    have hfz20_0:=qAC BK379.out 0
    have hfz20_1:=qAC BK379.out 1
    have hfz20_2:=qAC BK379.out 2
    have hfz20_3:=qAC BK379.out 3
    have hfz20_4:=qAC BK379.out 4
    have hcz21_0:w5.cell? ⟨gb380,0,none⟩=some (.int .i64 a1_0):=(qAB BK380.out 0).trans rfl
    have hcz21_1:w5.cell? ⟨gb380,1,none⟩=some (.int .i64 a1_1):=(qAB BK380.out 1).trans rfl
    have hcz21_2:w5.cell? ⟨gb380,2,none⟩=some (.string a1_2):=(qAB BK380.out 2).trans rfl
    have hcz21_3:w5.cell? ⟨gb380,3,none⟩=some (.slice A1_3 l1_3.length c1_3):=(qAB BK380.out 3).trans rfl
    have hcz21_4:w5.cell? ⟨gb380,4,none⟩=some (.slice A1_4 l1_4.length c1_4):=(qAB BK380.out 4).trans rfl
    have hfz21_0:=qAC BK380.out 0
    have hfz21_1:=qAC BK380.out 1
    have hfz21_2:=qAC BK380.out 2
    have hfz21_3:=qAC BK380.out 3
    have hfz21_4:=qAC BK380.out 4
    go_wp2
    go_meet
    case rel=>exact ⟨_,(true),(by first | rfl | (simp;done) | (simp [*];done)),H',⟨by first | omega | exact Nat.le_refl _⟩,⟨by (with_reducible repeat (first | refine qAa ?_ _ | refine qAL ?_ | refine qAP ?_ _));exact BK379.out⟩,⟨by (with_reducible repeat (first | refine qAa ?_ _ | refine qAL ?_ | refine qAP ?_ _));exact BK380.out⟩,⟨by repeat (first | (with_reducible first | exact HB.out | apply qAE | apply qAD | apply qAF | refine qAQ ?_ GE379.out | refine qAQ ?_ GE380.out) | exact HB.out)⟩⟩
  ·rw [if_neg c6] at H
   have c6b0:(a0_0 == a1_0)=false:=beq_eq_false_iff_ne.mpr c6
   have c6b1:(a0_0 != a1_0)=true:=bne_iff_ne.mpr c6
   (first | rw [c6b0] | (simp only [qAZ,qAb];rw [c6b0]) | rw [c6b1] | (simp only [qAZ,qAb];rw [c6b1]) | skip)
   have H':=qAA.mk H
   clear H
   have hnb22:=NB379_380.out
   have hnc22:=NB380_379.out
   have hcz23_0:w5.cell? ⟨gb379,0,none⟩=some (.int .i64 a0_0):=(qAB BK379.out 0).trans rfl
   have hcz23_1:w5.cell? ⟨gb379,1,none⟩=some (.int .i64 a0_1):=(qAB BK379.out 1).trans rfl
   have hcz23_2:w5.cell? ⟨gb379,2,none⟩=some (.string a0_2):=(qAB BK379.out 2).trans rfl
   have hcz23_3:w5.cell? ⟨gb379,3,none⟩=some (.slice A0_3 l0_3.length c0_3):=(qAB BK379.out 3).trans rfl
   have hcz23_4:w5.cell? ⟨gb379,4,none⟩=some (.slice A0_4 l0_4.length c0_4):=(qAB BK379.out 4).trans rfl
   have hfz23_0:=qAC BK379.out 0
   have hfz23_1:=qAC BK379.out 1
   have hfz23_2:=qAC BK379.out 2
   have hfz23_3:=qAC BK379.out 3
   have hfz23_4:=qAC BK379.out 4
   have hcz24_0:w5.cell? ⟨gb380,0,none⟩=some (.int .i64 a1_0):=(qAB BK380.out 0).trans rfl
   have hcz24_1:w5.cell? ⟨gb380,1,none⟩=some (.int .i64 a1_1):=(qAB BK380.out 1).trans rfl
   have hcz24_2:w5.cell? ⟨gb380,2,none⟩=some (.string a1_2):=(qAB BK380.out 2).trans rfl
   have hcz24_3:w5.cell? ⟨gb380,3,none⟩=some (.slice A1_3 l1_3.length c1_3):=(qAB BK380.out 3).trans rfl
   have hcz24_4:w5.cell? ⟨gb380,4,none⟩=some (.slice A1_4 l1_4.length c1_4):=(qAB BK380.out 4).trans rfl
   have hfz24_0:=qAC BK380.out 0
   have hfz24_1:=qAC BK380.out 1
   have hfz24_2:=qAC BK380.out 2
   have hfz24_3:=qAC BK380.out 3
   have hfz24_4:=qAC BK380.out 4
   go_wp2
   go_meet
   case rel=>exact ⟨_,(true),(by first | rfl | (simp;done) | (simp [*];done)),H',⟨by first | omega | exact Nat.le_refl _⟩,⟨by (with_reducible repeat (first | refine qAa ?_ _ | refine qAL ?_ | refine qAP ?_ _));exact BK379.out⟩,⟨by (with_reducible repeat (first | refine qAa ?_ _ | refine qAL ?_ | refine qAP ?_ _));exact BK380.out⟩,⟨by repeat (first | (with_reducible first | exact HB.out | apply qAE | apply qAD | apply qAF | refine qAQ ?_ GE379.out | refine qAQ ?_ GE380.out) | exact HB.out)⟩⟩
 case rest =>
  clear HC3
  try clear c1
  try clear c2
  try clear p2
  try clear c3
  try clear c6
  try clear c6b0
  try clear c6b1
  try clear c7
  try clear c7b0
  try clear c7b1
  try clear c8
  try clear c8b0
  try clear c8b1
  try clear c9
  try clear c9b0
  try clear c9b1
  try clear c9b2
  try clear c10
  try clear c13
  try clear c16
  try clear c19
  try clear c22
  try clear hcz11_0
  try clear hcz11_1
  try clear hcz11_2
  try clear hcz11_3
  try clear hcz11_4
  try clear hcz12_0
  try clear hcz12_1
  try clear hcz12_2
  try clear hcz12_3
  try clear hcz12_4
  try clear hcz14_0
  try clear hcz14_1
  try clear hcz14_2
  try clear hcz14_3
  try clear hcz14_4
  try clear hcz15_0
  try clear hcz15_1
  try clear hcz15_2
  try clear hcz15_3
  try clear hcz15_4
  try clear hcz17_0
  try clear hcz17_1
  try clear hcz17_2
  try clear hcz17_3
  try clear hcz17_4
  try clear hcz18_0
  try clear hcz18_1
  try clear hcz18_2
  try clear hcz18_3
  try clear hcz18_4
  try clear hcz20_0
  try clear hcz20_1
  try clear hcz20_2
  try clear hcz20_3
  try clear hcz20_4
  try clear hcz21_0
  try clear hcz21_1
  try clear hcz21_2
  try clear hcz21_3
  try clear hcz21_4
  try clear hcz23_0
  try clear hcz23_1
  try clear hcz23_2
  try clear hcz23_3
  try clear hcz23_4
  try clear hcz24_0
  try clear hcz24_1
  try clear hcz24_2
  try clear hcz24_3
  try clear hcz24_4
  try clear hfz11_0
  try clear hfz11_1
  try clear hfz11_2
  try clear hfz11_3
  try clear hfz11_4
  try clear hfz12_0
  try clear hfz12_1
  try clear hfz12_2
  try clear hfz12_3
  try clear hfz12_4
  try clear hfz14_0
  try clear hfz14_1
  try clear hfz14_2
  try clear hfz14_3
  try clear hfz14_4
  try clear hfz15_0
  try clear hfz15_1
  try clear hfz15_2
  try clear hfz15_3
  try clear hfz15_4
  try clear hfz17_0
  try clear hfz17_1
  try clear hfz17_2
  try clear hfz17_3
  try clear hfz17_4
  try clear hfz18_0
  try clear hfz18_1
  try clear hfz18_2
  try clear hfz18_3
  try clear hfz18_4
  try clear hfz20_0
  try clear hfz20_1
  try clear hfz20_2
  try clear hfz20_3
  try clear hfz20_4
  try clear hfz21_0
  try clear hfz21_1
  try clear hfz21_2
  try clear hfz21_3
  try clear hfz21_4
  try clear hfz23_0
  try clear hfz23_1
  try clear hfz23_2
  try clear hfz23_3
  try clear hfz23_4
  try clear hfz24_0
  try clear hfz24_1
  try clear hfz24_2
  try clear hfz24_3
  try clear hfz24_4
  obtain ⟨kq,x44_2,rfl,HA,HJ2,BK379,BK380,HB⟩:=hcut
  cases kq with
  | zero=>exact absurd HA.out (by simp [qAI.j0])
  | succ kj2 =>
   have H:=HA.out
   clear HA
   simp only [qAI.j0] at H
   by_cases c25:x44_2=true
   ·subst c25
    have H1:(some false)=some r:=by rw [if_pos rfl] at H;exact H
    clear H
    have H:=H1
    clear H1
    obtain rfl:=Option.some.inj H
    simp only [Option.some.injEq,Prod.mk.injEq] at H
    obtain ⟨rfl⟩:=H
    go_wp2
    go_ret
    exact ⟨by first | rfl | (simp [qAT,qAS] <;> rfl) | (simp [*,qAT,qAS] <;> rfl),by repeat (first | (with_reducible first | exact HB.out | apply qAE | apply qAD | apply qAF | refine qAQ ?_ GE379.out | refine qAQ ?_ GE380.out) | exact HB.out)⟩
   ·replace c25:=Bool.eq_false_iff.mpr c25
    subst c25
    have H1:(qAI.l0 kj2 0 a0_0 a0_1 a0_2 l0_3 l0_4 a1_0 a1_1 a1_2 l1_3 l1_4)=some r:=by rw [if_neg (show ¬ (false=true) by decide)] at H;exact H
    clear H
    have H:=H1
    clear H1
    have H':=qAA.mk H
    clear H
    go_wp2
    go_loopg [5] kj2 (fun kq v5 w'=>∃ (x5_2:Int),v5=.int .i64 x5_2∧qAA (qAI.l0 kq x5_2 a0_0 a0_1 a0_2 l0_3 l0_4 a1_0 a1_1 a1_2 l1_3 l1_4=some r)∧qAA (kq≤kj2)∧qAA (w'.heap[gb379]?=some (.cells #[.int .i64 a0_0,.int .i64 a0_1,.string a0_2,(.slice A0_3 l0_3.length c0_3),(.slice A0_4 l0_4.length c0_4)] 34 (0,0)))∧qAA (w'.heap[gb380]?=some (.cells #[.int .i64 a1_0,.int .i64 a1_1,.string a1_2,(.slice A1_3 l1_3.length c1_3),(.slice A1_4 l1_4.length c1_4)] 34 (0,0)))∧qAA (Below w.heap.size w w'))
    case atStart=>exact ⟨(0),(by first | rfl | (simp;done) | (simp [*];done)),H',⟨Nat.le_refl _⟩,⟨by (with_reducible repeat (first | refine qAa ?_ _ | refine qAL ?_ | refine qAP ?_ _));exact BK379.out⟩,⟨by (with_reducible repeat (first | refine qAa ?_ _ | refine qAL ?_ | refine qAP ?_ _));exact BK380.out⟩,⟨by repeat (first | (with_reducible first | exact HB.out | apply qAE | apply qAD | apply qAF | refine qAQ ?_ GE379.out | refine qAQ ?_ GE380.out) | exact HB.out)⟩⟩
    case round =>
     clear H'
     try clear c1
     try clear c2
     try clear p2
     try clear c3
     try clear c6
     try clear c6b0
     try clear c6b1
     try clear c7
     try clear c7b0
     try clear c7b1
     try clear c8
     try clear c8b0
     try clear c8b1
     try clear c9
     try clear c9b0
     try clear c9b1
     try clear c9b2
     try clear c10
     try clear c13
     try clear c16
     try clear c19
     try clear c22
     try clear c25
     try clear hcz11_0
     try clear hcz11_1
     try clear hcz11_2
     try clear hcz11_3
     try clear hcz11_4
     try clear hcz12_0
     try clear hcz12_1
     try clear hcz12_2
     try clear hcz12_3
     try clear hcz12_4
     try clear hcz14_0
     try clear hcz14_1
     try clear hcz14_2
     try clear hcz14_3
     try clear hcz14_4
     try clear hcz15_0
     try clear hcz15_1
     try clear hcz15_2
     try clear hcz15_3
     try clear hcz15_4
     try clear hcz17_0
     try clear hcz17_1
     try clear hcz17_2
     try clear hcz17_3
     try clear hcz17_4
     try clear hcz18_0
     try clear hcz18_1
     try clear hcz18_2
     try clear hcz18_3
     try clear hcz18_4
     try clear hcz20_0
     try clear hcz20_1
     try clear hcz20_2
     try clear hcz20_3
     try clear hcz20_4
     try clear hcz21_0
     try clear hcz21_1
     try clear hcz21_2
     try clear hcz21_3
     try clear hcz21_4
     try clear hcz23_0
     try clear hcz23_1
     try clear hcz23_2
     try clear hcz23_3
     try clear hcz23_4
     try clear hcz24_0
     try clear hcz24_1
     try clear hcz24_2
     try clear hcz24_3
     try clear hcz24_4
     try clear hfz11_0
     try clear hfz11_1
     try clear hfz11_2
     try clear hfz11_3
     try clear hfz11_4
     try clear hfz12_0
     try clear hfz12_1
     try clear hfz12_2
     try clear hfz12_3
     try clear hfz12_4
     try clear hfz14_0
     try clear hfz14_1
     try clear hfz14_2
     try clear hfz14_3
     try clear hfz14_4
     try clear hfz15_0
     try clear hfz15_1
     try clear hfz15_2
     try clear hfz15_3
     try clear hfz15_4
     try clear hfz17_0
     try clear hfz17_1
     try clear hfz17_2
     try clear hfz17_3
     try clear hfz17_4
     try clear hfz18_0
     try clear hfz18_1
     try clear hfz18_2
     try clear hfz18_3
     try clear hfz18_4
     try clear hfz20_0
     try clear hfz20_1
     try clear hfz20_2
     try clear hfz20_3
     try clear hfz20_4
     try clear hfz21_0
     try clear hfz21_1
     try clear hfz21_2
     try clear hfz21_3
     try clear hfz21_4
     try clear hfz23_0
     try clear hfz23_1
     try clear hfz23_2
     try clear hfz23_3
     try clear hfz23_4
     try clear hfz24_0
     try clear hfz24_1
     try clear hfz24_2
     try clear hfz24_3
     try clear hfz24_4
     try clear p2
     obtain ⟨x5_2,rfl,HA,HK2,BK379,BK380,HB⟩:=hrel
     cases gk with
     | zero=>exact absurd HA.out (by simp [qAI.l0])
     | succ k2 =>
      have H:=HA.out
      clear HA
      simp only [qAI.l0] at H
      by_cases c26:x5_2 < (l0_4.length:Int)
      ·rw [if_pos c26] at H
       have c26b0:decide (x5_2 < (l0_4.length:Int))=true:=decide_eq_true c26
       clear c26
       by_cases c27:0≤x5_2
       ·rw [if_pos c27] at H
        have c27b0:decide (0≤x5_2)=true:=decide_eq_true c27
        clear c27
        by_cases c28:x5_2 < (l1_4.length:Int)
        ·rw [if_pos c28] at H
         have c28b0:decide (x5_2 < (l1_4.length:Int))=true:=decide_eq_true c28
         clear c28
         by_cases c29:(rdOf ByteArray.empty l0_4 x5_2).toList=(rdOf ByteArray.empty l1_4 x5_2).toList
         ·rw [if_pos c29] at H
          have c29b0:((rdOf ByteArray.empty l0_4 x5_2).toList == (rdOf ByteArray.empty l1_4 x5_2).toList)=true:=beq_iff_eq.mpr c29
          have c29b1:((rdOf ByteArray.empty l0_4 x5_2).toList != (rdOf ByteArray.empty l1_4 x5_2).toList)=false:=bne_eq_false_iff_eq.mpr c29
          clear c29
          have H':=qAA.mk H
          clear H
          have hnb30:=NB379_380.out
          have hnc30:=NB380_379.out
          have hcz31_0:wr.cell? ⟨gb379,0,none⟩=some (.int .i64 a0_0):=(qAB BK379.out 0).trans rfl
          have hcz31_1:wr.cell? ⟨gb379,1,none⟩=some (.int .i64 a0_1):=(qAB BK379.out 1).trans rfl
          have hcz31_2:wr.cell? ⟨gb379,2,none⟩=some (.string a0_2):=(qAB BK379.out 2).trans rfl
          have hcz31_3:wr.cell? ⟨gb379,3,none⟩=some (.slice A0_3 l0_3.length c0_3):=(qAB BK379.out 3).trans rfl
          have hcz31_4:wr.cell? ⟨gb379,4,none⟩=some (.slice A0_4 l0_4.length c0_4):=(qAB BK379.out 4).trans rfl
          have hfz31_0:=qAC BK379.out 0
          have hfz31_1:=qAC BK379.out 1
          have hfz31_2:=qAC BK379.out 2
          have hfz31_3:=qAC BK379.out 3
          have hfz31_4:=qAC BK379.out 4
          try go_wp2
          have n0_:=qAA.mk (qAL BK379.out)
          have n1_:=qAA.mk (qAL BK380.out)
          have n2_:=qAA.mk (qAF HB.out)
          clear BK379
          clear BK380
          clear HB
          have BK379:=n0_
          have BK380:=n1_
          have HB:=n2_
          clear n0_ n1_ n2_
          have p381:0≤(x5_2:Int):=of_decide_eq_true (by first | (with_reducible assumption) | assumption)
          have q381:x5_2 < (l0_4.length:Int):=of_decide_eq_true (by first | (with_reducible assumption) | assumption)
          obtain ⟨ad381,e381,hx381_0⟩:=Kd.qBH HR0_4.out x5_2 p381 q381
          have hw381_0:=hx381_0
          cases e381
          replace hx381_0:=(HB.out.cell (qs4 w _ hx381_0)).trans hx381_0
          replace p381:=eq_true p381
          replace q381:=eq_true q381
          have p382:0≤(x5_2:Int):=of_decide_eq_true (by first | (with_reducible assumption) | assumption)
          have q382:x5_2 < (l1_4.length:Int):=of_decide_eq_true (by first | (with_reducible assumption) | assumption)
          obtain ⟨ad382,e382,hx382_0⟩:=Kd.qBH HR1_4.out x5_2 p382 q382
          have hw382_0:=hx382_0
          cases e382
          replace hx382_0:=(HB.out.cell (qs4 w _ hx382_0)).trans hx382_0
          replace p382:=eq_true p382
          replace q382:=eq_true q382
          refine qAz (n:=11) (S:=fun w'=>w'.cell? ⟨gb379,0,none⟩=some (.int .i64 a0_0)∧w'.cell? ⟨gb379,1,none⟩=some (.int .i64 a0_1)∧w'.cell? ⟨gb379,2,none⟩=some (.string a0_2)∧w'.cell? ⟨gb379,3,none⟩=some (.slice A0_3 l0_3.length c0_3)∧w'.cell? ⟨gb379,4,none⟩=some (.slice (some ad381) l0_4.length c0_4)∧w'.cell? ⟨gb380,0,none⟩=some (.int .i64 a1_0)∧w'.cell? ⟨gb380,1,none⟩=some (.int .i64 a1_1)∧w'.cell? ⟨gb380,2,none⟩=some (.string a1_2)∧w'.cell? ⟨gb380,3,none⟩=some (.slice A1_3 l1_3.length c1_3)∧w'.cell? ⟨gb380,4,none⟩=some (.slice (some ad382) l1_4.length c1_4)∧w'.cell? (ad381.add (x5_2).toNat)=some (.string (rdOf ByteArray.empty l0_4 x5_2))∧w'.cell? (ad382.add (x5_2).toNat)=some (.string (rdOf ByteArray.empty l1_4 x5_2))) (ds:=[]) #[qF,qF,qF,qF,qF,qF,qF,qF,qF,qF,qF] (by kernel_rfl) rfl rfl ⟨(qAB BK379.out 0).trans rfl,(qAB BK379.out 1).trans rfl,(qAB BK379.out 2).trans rfl,(qAB BK379.out 3).trans rfl,(qAB BK379.out 4).trans rfl,(qAB BK380.out 0).trans rfl,(qAB BK380.out 1).trans rfl,(qAB BK380.out 2).trans rfl,(qAB BK380.out 3).trans rfl,(qAB BK380.out 4).trans rfl,((HB.out.cell (qs4 w _ hw381_0)).trans hw381_0),((HB.out.cell (qs4 w _ hw382_0)).trans hw382_0)⟩ (fun hHeld => ?_);refine qBt qAI.tab6 qAI.bits6 (fun HT_ HW_ => ?_)
          generalize wr.drew=w32 at BK379 BK380 HB hx381_0 hx382_0 hHeld ⊢
          refine qAx (i:=0) (N:=some 52) (v := ?_) (a' := ?_) #[qT,qF,qF,qF,qF,qF,qF,qF,qF,qF,qF] rfl rfl (qAm HT_.out (by kernel_rfl)) (fun _ _ _ h=>h) (Or.inl ⟨by rfl, ?_⟩) ?_ ?_
          rotate_left
          ·intro w'
           go_simp
           with_reducible rfl
          rotate_left
          ·simp only [Act.put,qs1,qs2,qs3,qAZ,qAb]
           rfl
          refine qAx (i:=2) (N:=some 54) (v := ?_) (a' := ?_) #[qT,qF,qT,qF,qF,qF,qF,qF,qF,qF,qF] rfl rfl (qAm HT_.out (by kernel_rfl)) (fun _ _ _ h=>h) (Or.inl ⟨by rfl, ?_⟩) ?_ ?_
          rotate_left
          ·intro w'
           go_simp
           with_reducible rfl
          rotate_left
          ·simp only [Act.put,qs1,qs2,qs3,qAZ,qAb]
           rfl
          refine qAx (i:=5) (N:=some 57) (v := ?_) (a' := ?_) #[qT,qF,qT,qF,qF,qT,qF,qF,qF,qF,qF] rfl rfl (qAm HT_.out (by kernel_rfl)) (fun _ _ _ h=>h) (Or.inl ⟨by rfl, ?_⟩) ?_ ?_
          rotate_left
          ·intro w'
           go_simp
           with_reducible rfl
          rotate_left
          ·simp only [Act.put,qs1,qs2,qs3,qAZ,qAb]
           rfl
          refine qAx (i:=7) (N:=some 59) (v := ?_) (a' := ?_) #[qT,qF,qT,qF,qF,qT,qF,qT,qF,qF,qF] rfl rfl (qAm HT_.out (by kernel_rfl)) (fun _ _ _ h=>h) (Or.inl ⟨by rfl, ?_⟩) ?_ ?_
          rotate_left
          ·intro w'
           go_simp
           with_reducible rfl
          rotate_left
          ·simp only [Act.put,qs1,qs2,qs3,qAZ,qAb]
           rfl
          refine qBv (i:=1) (N:=some 53) (v := ?_) (a' := ?_) #[qT,qT,qT,qF,qF,qT,qF,qT,qF,qF,qF] rfl rfl (qBA HT_.out HW_.out (by kernel_rfl)) (fun _ _ _ h=>h) (Or.inl ⟨by rfl, ?_⟩) hHeld ?_ ?_
          rotate_left
          ·rintro w' ⟨s0,s1,s2,s3,s4,s5,s6,s7,s8,s9,s10,s11⟩
           go_simp
           with_reducible rfl
          rotate_left
          ·simp only [Act.put,qs1,qs2,qs3,qAZ,qAb]
           rfl
          refine qAx (i:=3) (N:=some 55) (v := ?_) (a' := ?_) #[qT,qT,qT,qT,qF,qT,qF,qT,qF,qF,qF] rfl rfl (qAm HT_.out (by kernel_rfl)) (fun _ _ _ h=>h) (Or.inl ⟨by rfl, ?_⟩) ?_ ?_
          rotate_left
          ·intro w'
           go_simp
           with_reducible rfl
          rotate_left
          ·simp only [Act.put,qs1,qs2,qs3,qAZ,qAb]
           rfl
          refine qBv (i:=4) (N:=some 56) (v := ?_) (a' := ?_) #[qT,qT,qT,qT,qT,qT,qF,qT,qF,qF,qF] rfl rfl (qBA HT_.out HW_.out (by kernel_rfl)) (fun _ _ _ h=>h) (Or.inl ⟨by rfl, ?_⟩) hHeld ?_ ?_
          rotate_left
          ·rintro w' ⟨s0,s1,s2,s3,s4,s5,s6,s7,s8,s9,s10,s11⟩
           go_simp
           with_reducible rfl
          rotate_left
          ·simp only [Act.put,qs1,qs2,qs3,qAZ,qAb]
           rfl
          refine qBv (i:=6) (N:=some 58) (v := ?_) (a' := ?_) #[qT,qT,qT,qT,qT,qT,qT,qT,qF,qF,qF] rfl rfl (qBA HT_.out HW_.out (by kernel_rfl)) (fun _ _ _ h=>h) (Or.inl ⟨by rfl, ?_⟩) hHeld ?_ ?_
          rotate_left
          ·rintro w' ⟨s0,s1,s2,s3,s4,s5,s6,s7,s8,s9,s10,s11⟩
           go_simp
           with_reducible rfl
          rotate_left
          ·simp only [Act.put,qs1,qs2,qs3,qAZ,qAb]
           rfl
          refine qAx (i:=8) (N:=some 60) (v := ?_) (a' := ?_) #[qT,qT,qT,qT,qT,qT,qT,qT,qT,qF,qF] rfl rfl (qAm HT_.out (by kernel_rfl)) (fun _ _ _ h=>h) (Or.inl ⟨by rfl, ?_⟩) ?_ ?_
          rotate_left
          ·intro w'
           go_simp
           with_reducible rfl
          rotate_left
          ·simp only [Act.put,qs1,qs2,qs3,qAZ,qAb]
           rfl
          refine qBv (i:=9) (N:=some 61) (v := ?_) (a' := ?_) #[qT,qT,qT,qT,qT,qT,qT,qT,qT,qT,qF] rfl rfl (qBA HT_.out HW_.out (by kernel_rfl)) (fun _ _ _ h=>h) (Or.inl ⟨by rfl, ?_⟩) hHeld ?_ ?_
          rotate_left
          ·rintro w' ⟨s0,s1,s2,s3,s4,s5,s6,s7,s8,s9,s10,s11⟩
           go_simp
           with_reducible rfl
          rotate_left
          ·simp only [Act.put,qs1,qs2,qs3,qAZ,qAb]
           rfl
          refine qAx (i:=10) (N:=some 62) (v := ?_) (a' := ?_) #[qT,qT,qT,qT,qT,qT,qT,qT,qT,qT,qT] rfl rfl (qAm HT_.out (by kernel_rfl)) (fun _ _ _ h=>h) (Or.inl ⟨by rfl, ?_⟩) ?_ ?_
          rotate_left
          ·intro w'
           go_simp
           with_reducible rfl
          rotate_left
          ·simp only [Act.put,qs1,qs2,qs3,qAZ,qAb]
           rfl
          refine qBL (qCP HT_.out (by kernel_rfl)) ?_
          try go_wp2
          go_roundg k2
          case measure=>have:=HJ2.out;have:=HK2.out;omega
          case rel=>exact ⟨(wrap64 (x5_2+1)),(by first | rfl | (simp;done) | (simp [*];done)),H',⟨by have:=HJ2.out;have:=HK2.out;omega⟩,⟨by (with_reducible repeat (first | refine qAa ?_ _ | refine qAL ?_ | refine qAP ?_ _));exact BK379.out⟩,⟨by (with_reducible repeat (first | refine qAa ?_ _ | refine qAL ?_ | refine qAP ?_ _));exact BK380.out⟩,⟨by repeat (first | (with_reducible first | exact HB.out | apply qAE | apply qAD | apply qAF | refine qAQ ?_ GE379.out | refine qAQ ?_ GE380.out) | exact HB.out)⟩⟩
         ·rw [if_neg c29] at H
          have c29b0:((rdOf ByteArray.empty l0_4 x5_2).toList == (rdOf ByteArray.empty l1_4 x5_2).toList)=false:=beq_eq_false_iff_ne.mpr c29
          have c29b1:((rdOf ByteArray.empty l0_4 x5_2).toList != (rdOf ByteArray.empty l1_4 x5_2).toList)=true:=bne_iff_ne.mpr c29
          obtain rfl:=Option.some.inj H
          simp only [Option.some.injEq,Prod.mk.injEq] at H
          obtain ⟨rfl⟩:=H
          have hnb33:=NB379_380.out
          have hnc33:=NB380_379.out
          have hcz34_0:wr.cell? ⟨gb379,0,none⟩=some (.int .i64 a0_0):=(qAB BK379.out 0).trans rfl
          have hcz34_1:wr.cell? ⟨gb379,1,none⟩=some (.int .i64 a0_1):=(qAB BK379.out 1).trans rfl
          have hcz34_2:wr.cell? ⟨gb379,2,none⟩=some (.string a0_2):=(qAB BK379.out 2).trans rfl
          have hcz34_3:wr.cell? ⟨gb379,3,none⟩=some (.slice A0_3 l0_3.length c0_3):=(qAB BK379.out 3).trans rfl
          have hcz34_4:wr.cell? ⟨gb379,4,none⟩=some (.slice A0_4 l0_4.length c0_4):=(qAB BK379.out 4).trans rfl
          have hfz34_0:=qAC BK379.out 0
          have hfz34_1:=qAC BK379.out 1
          have hfz34_2:=qAC BK379.out 2
          have hfz34_3:=qAC BK379.out 3
          have hfz34_4:=qAC BK379.out 4
          try go_wp2
          have n0_:=qAA.mk (qAL BK379.out)
          have n1_:=qAA.mk (qAL BK380.out)
          have n2_:=qAA.mk (qAF HB.out)
          clear BK379
          clear BK380
          clear HB
          have BK379:=n0_
          have BK380:=n1_
          have HB:=n2_
          clear n0_ n1_ n2_
          have p381:0≤(x5_2:Int):=of_decide_eq_true (by first | (with_reducible assumption) | assumption)
          have q381:x5_2 < (l0_4.length:Int):=of_decide_eq_true (by first | (with_reducible assumption) | assumption)
          obtain ⟨ad381,e381,hx381_0⟩:=Kd.qBH HR0_4.out x5_2 p381 q381
          have hw381_0:=hx381_0
          cases e381
          replace hx381_0:=(HB.out.cell (qs4 w _ hx381_0)).trans hx381_0
          replace p381:=eq_true p381
          replace q381:=eq_true q381
          have p382:0≤(x5_2:Int):=of_decide_eq_true (by first | (with_reducible assumption) | assumption)
          have q382:x5_2 < (l1_4.length:Int):=of_decide_eq_true (by first | (with_reducible assumption) | assumption)
          obtain ⟨ad382,e382,hx382_0⟩:=Kd.qBH HR1_4.out x5_2 p382 q382
          have hw382_0:=hx382_0
          cases e382
          replace hx382_0:=(HB.out.cell (qs4 w _ hx382_0)).trans hx382_0
          replace p382:=eq_true p382
          replace q382:=eq_true q382
          refine qAz (n:=11) (S:=fun w'=>w'.cell? ⟨gb379,0,none⟩=some (.int .i64 a0_0)∧w'.cell? ⟨gb379,1,none⟩=some (.int .i64 a0_1)∧w'.cell? ⟨gb379,2,none⟩=some (.string a0_2)∧w'.cell? ⟨gb379,3,none⟩=some (.slice A0_3 l0_3.length c0_3)∧w'.cell? ⟨gb379,4,none⟩=some (.slice (some ad381) l0_4.length c0_4)∧w'.cell? ⟨gb380,0,none⟩=some (.int .i64 a1_0)∧w'.cell? ⟨gb380,1,none⟩=some (.int .i64 a1_1)∧w'.cell? ⟨gb380,2,none⟩=some (.string a1_2)∧w'.cell? ⟨gb380,3,none⟩=some (.slice A1_3 l1_3.length c1_3)∧w'.cell? ⟨gb380,4,none⟩=some (.slice (some ad382) l1_4.length c1_4)∧w'.cell? (ad381.add (x5_2).toNat)=some (.string (rdOf ByteArray.empty l0_4 x5_2))∧w'.cell? (ad382.add (x5_2).toNat)=some (.string (rdOf ByteArray.empty l1_4 x5_2))) (ds:=[]) #[qF,qF,qF,qF,qF,qF,qF,qF,qF,qF,qF] (by kernel_rfl) rfl rfl ⟨(qAB BK379.out 0).trans rfl,(qAB BK379.out 1).trans rfl,(qAB BK379.out 2).trans rfl,(qAB BK379.out 3).trans rfl,(qAB BK379.out 4).trans rfl,(qAB BK380.out 0).trans rfl,(qAB BK380.out 1).trans rfl,(qAB BK380.out 2).trans rfl,(qAB BK380.out 3).trans rfl,(qAB BK380.out 4).trans rfl,((HB.out.cell (qs4 w _ hw381_0)).trans hw381_0),((HB.out.cell (qs4 w _ hw382_0)).trans hw382_0)⟩ (fun hHeld => ?_);refine qBt qAI.tab6 qAI.bits6 (fun HT_ HW_ => ?_)
          generalize wr.drew=w35 at BK379 BK380 HB hx381_0 hx382_0 hHeld ⊢
          refine qAx (i:=0) (N:=some 52) (v := ?_) (a' := ?_) #[qT,qF,qF,qF,qF,qF,qF,qF,qF,qF,qF] rfl rfl (qAm HT_.out (by kernel_rfl)) (fun _ _ _ h=>h) (Or.inl ⟨by rfl, ?_⟩) ?_ ?_
          rotate_left
          ·intro w'
           go_simp
           with_reducible rfl
          rotate_left
          ·simp only [Act.put,qs1,qs2,qs3,qAZ,qAb]
           rfl
          refine qAx (i:=2) (N:=some 54) (v := ?_) (a' := ?_) #[qT,qF,qT,qF,qF,qF,qF,qF,qF,qF,qF] rfl rfl (qAm HT_.out (by kernel_rfl)) (fun _ _ _ h=>h) (Or.inl ⟨by rfl, ?_⟩) ?_ ?_
          rotate_left
          ·intro w'
           go_simp
           with_reducible rfl
          rotate_left
          ·simp only [Act.put,qs1,qs2,qs3,qAZ,qAb]
           rfl
          refine qAx (i:=5) (N:=some 57) (v := ?_) (a' := ?_) #[qT,qF,qT,qF,qF,qT,qF,qF,qF,qF,qF] rfl rfl (qAm HT_.out (by kernel_rfl)) (fun _ _ _ h=>h) (Or.inl ⟨by rfl, ?_⟩) ?_ ?_
          rotate_left
          ·intro w'
           go_simp
           with_reducible rfl
          rotate_left
          ·simp only [Act.put,qs1,qs2,qs3,qAZ,qAb]
           rfl
          refine qAx (i:=7) (N:=some 59) (v := ?_) (a' := ?_) #[qT,qF,qT,qF,qF,qT,qF,qT,qF,qF,qF] rfl rfl (qAm HT_.out (by kernel_rfl)) (fun _ _ _ h=>h) (Or.inl ⟨by rfl, ?_⟩) ?_ ?_
          rotate_left
          ·intro w'
           go_simp
           with_reducible rfl
          rotate_left
          ·simp only [Act.put,qs1,qs2,qs3,qAZ,qAb]
           rfl
          refine qBv (i:=1) (N:=some 53) (v := ?_) (a' := ?_) #[qT,qT,qT,qF,qF,qT,qF,qT,qF,qF,qF] rfl rfl (qBA HT_.out HW_.out (by kernel_rfl)) (fun _ _ _ h=>h) (Or.inl ⟨by rfl, ?_⟩) hHeld ?_ ?_
          rotate_left
          ·rintro w' ⟨s0,s1,s2,s3,s4,s5,s6,s7,s8,s9,s10,s11⟩
           go_simp
           with_reducible rfl
          rotate_left
          ·simp only [Act.put,qs1,qs2,qs3,qAZ,qAb]
           rfl
          refine qAx (i:=3) (N:=some 55) (v := ?_) (a' := ?_) #[qT,qT,qT,qT,qF,qT,qF,qT,qF,qF,qF] rfl rfl (qAm HT_.out (by kernel_rfl)) (fun _ _ _ h=>h) (Or.inl ⟨by rfl, ?_⟩) ?_ ?_
          rotate_left
          ·intro w'
           go_simp
           with_reducible rfl
          rotate_left
          ·simp only [Act.put,qs1,qs2,qs3,qAZ,qAb]
           rfl
          refine qBv (i:=4) (N:=some 56) (v := ?_) (a' := ?_) #[qT,qT,qT,qT,qT,qT,qF,qT,qF,qF,qF] rfl rfl (qBA HT_.out HW_.out (by kernel_rfl)) (fun _ _ _ h=>h) (Or.inl ⟨by rfl, ?_⟩) hHeld ?_ ?_
          rotate_left
          ·rintro w' ⟨s0,s1,s2,s3,s4,s5,s6,s7,s8,s9,s10,s11⟩
           go_simp
           with_reducible rfl
          rotate_left
          ·simp only [Act.put,qs1,qs2,qs3,qAZ,qAb]
           rfl
          refine qBv (i:=6) (N:=some 58) (v := ?_) (a' := ?_) #[qT,qT,qT,qT,qT,qT,qT,qT,qF,qF,qF] rfl rfl (qBA HT_.out HW_.out (by kernel_rfl)) (fun _ _ _ h=>h) (Or.inl ⟨by rfl, ?_⟩) hHeld ?_ ?_
          rotate_left
          ·rintro w' ⟨s0,s1,s2,s3,s4,s5,s6,s7,s8,s9,s10,s11⟩
           go_simp
           with_reducible rfl
          rotate_left
          ·simp only [Act.put,qs1,qs2,qs3,qAZ,qAb]
           rfl
          refine qAx (i:=8) (N:=some 60) (v := ?_) (a' := ?_) #[qT,qT,qT,qT,qT,qT,qT,qT,qT,qF,qF] rfl rfl (qAm HT_.out (by kernel_rfl)) (fun _ _ _ h=>h) (Or.inl ⟨by rfl, ?_⟩) ?_ ?_
          rotate_left
          ·intro w'
           go_simp
           with_reducible rfl
          rotate_left
          ·simp only [Act.put,qs1,qs2,qs3,qAZ,qAb]
           rfl
          refine qBv (i:=9) (N:=some 61) (v := ?_) (a' := ?_) #[qT,qT,qT,qT,qT,qT,qT,qT,qT,qT,qF] rfl rfl (qBA HT_.out HW_.out (by kernel_rfl)) (fun _ _ _ h=>h) (Or.inl ⟨by rfl, ?_⟩) hHeld ?_ ?_
          rotate_left
          ·rintro w' ⟨s0,s1,s2,s3,s4,s5,s6,s7,s8,s9,s10,s11⟩
           go_simp
           with_reducible rfl
          rotate_left
          ·simp only [Act.put,qs1,qs2,qs3,qAZ,qAb]
           rfl
          refine qAx (i:=10) (N:=some 62) (v := ?_) (a' := ?_) #[qT,qT,qT,qT,qT,qT,qT,qT,qT,qT,qT] rfl rfl (qAm HT_.out (by kernel_rfl)) (fun _ _ _ h=>h) (Or.inl ⟨by rfl, ?_⟩) ?_ ?_
          rotate_left
          ·intro w'
           go_simp
           with_reducible rfl
          rotate_left
          ·simp only [Act.put,qs1,qs2,qs3,qAZ,qAb]
           rfl
          refine qBL (qCP HT_.out (by kernel_rfl)) ?_
          try go_wp2
          go_ret
          exact ⟨by first | rfl | (simp [qAT,qAS] <;> rfl) | (simp [*,qAT,qAS] <;> rfl),by repeat (first | (with_reducible first | exact HB.out | apply qAE | apply qAD | apply qAF | refine qAQ ?_ GE379.out | refine qAQ ?_ GE380.out) | exact HB.out)⟩
        ·rw [if_neg c28] at H
         exact absurd H (by simp)
       ·rw [if_neg c27] at H
        exact absurd H (by simp)
      ·rw [if_neg c26] at H
       have c26b0:decide (x5_2 < (l0_4.length:Int))=false:=decide_eq_false c26
       clear c26
       have H':=qAA.mk H
       clear H
       have hnb36:=NB379_380.out
       have hnc36:=NB380_379.out
       have hcz37_0:wr.cell? ⟨gb379,0,none⟩=some (.int .i64 a0_0):=(qAB BK379.out 0).trans rfl
       have hcz37_1:wr.cell? ⟨gb379,1,none⟩=some (.int .i64 a0_1):=(qAB BK379.out 1).trans rfl
       have hcz37_2:wr.cell? ⟨gb379,2,none⟩=some (.string a0_2):=(qAB BK379.out 2).trans rfl
       have hcz37_3:wr.cell? ⟨gb379,3,none⟩=some (.slice A0_3 l0_3.length c0_3):=(qAB BK379.out 3).trans rfl
       have hcz37_4:wr.cell? ⟨gb379,4,none⟩=some (.slice A0_4 l0_4.length c0_4):=(qAB BK379.out 4).trans rfl
       have hfz37_0:=qAC BK379.out 0
       have hfz37_1:=qAC BK379.out 1
       have hfz37_2:=qAC BK379.out 2
       have hfz37_3:=qAC BK379.out 3
       have hfz37_4:=qAC BK379.out 4
       go_wp2
       go_loopg [6] k2 (fun kq v6 w'=>∃ (x6_3:Int),v6=.int .i64 x6_3∧qAA (qAI.l1 kq x6_3 a0_0 a0_1 a0_2 l0_3 l0_4 a1_0 a1_1 a1_2 l1_3 l1_4=some r)∧qAA (kq≤k2)∧qAA (w'.heap[gb379]?=some (.cells #[.int .i64 a0_0,.int .i64 a0_1,.string a0_2,(.slice A0_3 l0_3.length c0_3),(.slice A0_4 l0_4.length c0_4)] 34 (0,0)))∧qAA (w'.heap[gb380]?=some (.cells #[.int .i64 a1_0,.int .i64 a1_1,.string a1_2,(.slice A1_3 l1_3.length c1_3),(.slice A1_4 l1_4.length c1_4)] 34 (0,0)))∧qAA (Below w.heap.size w w'))
       case atStart=>exact ⟨(0),(by first | rfl | (simp;done) | (simp [*];done)),H',⟨Nat.le_refl _⟩,⟨by (with_reducible repeat (first | refine qAa ?_ _ | refine qAL ?_ | refine qAP ?_ _));exact BK379.out⟩,⟨by (with_reducible repeat (first | refine qAa ?_ _ | refine qAL ?_ | refine qAP ?_ _));exact BK380.out⟩,⟨by repeat (first | (with_reducible first | exact HB.out | apply qAE | apply qAD | apply qAF | refine qAQ ?_ GE379.out | refine qAQ ?_ GE380.out) | exact HB.out)⟩⟩
       case round =>
        clear H'
        try clear c1
        try clear c2
        try clear p2
        try clear c3
        try clear p3
        try clear q3
        try clear hx3
        try clear c6
        try clear c6b0
        try clear c6b1
        try clear p6
        try clear c7
        try clear c7b0
        try clear c7b1
        try clear c8
        try clear c8b0
        try clear c8b1
        try clear c9
        try clear c9b0
        try clear c9b1
        try clear c9b2
        try clear c10
        try clear c13
        try clear c16
        try clear c19
        try clear c22
        try clear c25
        try clear c26
        try clear c26b0
        try clear c27
        try clear c27b0
        try clear c28
        try clear c28b0
        try clear c29
        try clear c29b0
        try clear c29b1
        try clear c30
        try clear c33
        try clear c36
        try clear hcz11_0
        try clear hcz11_1
        try clear hcz11_2
        try clear hcz11_3
        try clear hcz11_4
        try clear hcz12_0
        try clear hcz12_1
        try clear hcz12_2
        try clear hcz12_3
        try clear hcz12_4
        try clear hcz14_0
        try clear hcz14_1
        try clear hcz14_2
        try clear hcz14_3
        try clear hcz14_4
        try clear hcz15_0
        try clear hcz15_1
        try clear hcz15_2
        try clear hcz15_3
        try clear hcz15_4
        try clear hcz17_0
        try clear hcz17_1
        try clear hcz17_2
        try clear hcz17_3
        try clear hcz17_4
        try clear hcz18_0
        try clear hcz18_1
        try clear hcz18_2
        try clear hcz18_3
        try clear hcz18_4
        try clear hcz20_0
        try clear hcz20_1
        try clear hcz20_2
        try clear hcz20_3
        try clear hcz20_4
        try clear hcz21_0
        try clear hcz21_1
        try clear hcz21_2
        try clear hcz21_3
        try clear hcz21_4
        try clear hcz23_0
        try clear hcz23_1
        try clear hcz23_2
        try clear hcz23_3
        try clear hcz23_4
        try clear hcz24_0
        try clear hcz24_1
        try clear hcz24_2
        try clear hcz24_3
        try clear hcz24_4
        try clear hcz31_0
        try clear hcz31_1
        try clear hcz31_2
        try clear hcz31_3
        try clear hcz31_4
        try clear hcz34_0
        try clear hcz34_1
        try clear hcz34_2
        try clear hcz34_3
        try clear hcz34_4
        try clear hcz37_0
        try clear hcz37_1
        try clear hcz37_2
        try clear hcz37_3
        try clear hcz37_4
        try clear hfz11_0
        try clear hfz11_1
        try clear hfz11_2
        try clear hfz11_3
        try clear hfz11_4
        try clear hfz12_0
        try clear hfz12_1
        try clear hfz12_2
        try clear hfz12_3
        try clear hfz12_4
        try clear hfz14_0
        try clear hfz14_1
        try clear hfz14_2
        try clear hfz14_3
        try clear hfz14_4
        try clear hfz15_0
        try clear hfz15_1
        try clear hfz15_2
        try clear hfz15_3
        try clear hfz15_4
        try clear hfz17_0
        try clear hfz17_1
        try clear hfz17_2
        try clear hfz17_3
        try clear hfz17_4
        try clear hfz18_0
        try clear hfz18_1
        try clear hfz18_2
        try clear hfz18_3
        try clear hfz18_4
        try clear hfz20_0
        try clear hfz20_1
        try clear hfz20_2
        try clear hfz20_3
        try clear hfz20_4
        try clear hfz21_0
        try clear hfz21_1
        try clear hfz21_2
        try clear hfz21_3
        try clear hfz21_4
        try clear hfz23_0
        try clear hfz23_1
        try clear hfz23_2
        try clear hfz23_3
        try clear hfz23_4
        try clear hfz24_0
        try clear hfz24_1
        try clear hfz24_2
        try clear hfz24_3
        try clear hfz24_4
        try clear hfz31_0
        try clear hfz31_1
        try clear hfz31_2
        try clear hfz31_3
        try clear hfz31_4
        try clear hfz34_0
        try clear hfz34_1
        try clear hfz34_2
        try clear hfz34_3
        try clear hfz34_4
        try clear hfz37_0
        try clear hfz37_1
        try clear hfz37_2
        try clear hfz37_3
        try clear hfz37_4
        try clear hx381_0
        try clear hx382_0
        try clear p2
        try clear p381
        try clear p382
        try clear q381
        try clear q382
        obtain ⟨x6_3,rfl,HA,HK3,BK379,BK380,HB⟩:=hrel
        cases gk with
        | zero=>exact absurd HA.out (by simp [qAI.l1])
        | succ k3 =>
         have H:=HA.out
         clear HA
         simp only [qAI.l1] at H
         by_cases c38:x6_3 < (l0_3.length:Int)
         ·rw [if_pos c38] at H
          have c38b0:decide (x6_3 < (l0_3.length:Int))=true:=decide_eq_true c38
          clear c38
          by_cases c39:0≤x6_3
          ·rw [if_pos c39] at H
           have c39b0:decide (0≤x6_3)=true:=decide_eq_true c39
           clear c39
           by_cases c40:x6_3 < (l1_3.length:Int)
           ·rw [if_pos c40] at H
            have c40b0:decide (x6_3 < (l1_3.length:Int))=true:=decide_eq_true c40
            clear c40
            replace H:=Option.bind_eq_some_iff.mp H
            obtain ⟨t385,A410,H⟩:=H
            replace H:(if t385=true then (qAI.l1 k3 (wrap64 (x6_3+1)) a0_0 a0_1 a0_2 l0_3 l0_4 a1_0 a1_1 a1_2 l1_3 l1_4) else (some false))=some r:=H
            have A41:=qAA.mk A410
            clear A410
            by_cases c42:t385=true
            ·subst c42
             have H1:(qAI.l1 k3 (wrap64 (x6_3+1)) a0_0 a0_1 a0_2 l0_3 l0_4 a1_0 a1_1 a1_2 l1_3 l1_4)=some r:=by rw [if_pos rfl] at H;exact H
             clear H
             have H:=H1
             clear H1
             have H':=qAA.mk H
             clear H
             have hnb43:=NB379_380.out
             have hnc43:=NB380_379.out
             have hcz44_0:wr.cell? ⟨gb379,0,none⟩=some (.int .i64 a0_0):=(qAB BK379.out 0).trans rfl
             have hcz44_1:wr.cell? ⟨gb379,1,none⟩=some (.int .i64 a0_1):=(qAB BK379.out 1).trans rfl
             have hcz44_2:wr.cell? ⟨gb379,2,none⟩=some (.string a0_2):=(qAB BK379.out 2).trans rfl
             have hcz44_3:wr.cell? ⟨gb379,3,none⟩=some (.slice A0_3 l0_3.length c0_3):=(qAB BK379.out 3).trans rfl
             have hcz44_4:wr.cell? ⟨gb379,4,none⟩=some (.slice A0_4 l0_4.length c0_4):=(qAB BK379.out 4).trans rfl
             have hfz44_0:=qAC BK379.out 0
             have hfz44_1:=qAC BK379.out 1
             have hfz44_2:=qAC BK379.out 2
             have hfz44_3:=qAC BK379.out 3
             have hfz44_4:=qAC BK379.out 4
             try go_wp2
             have n0_:=qAA.mk (qAL BK379.out)
             have n1_:=qAA.mk (qAL BK380.out)
             have n2_:=qAA.mk (qAF HB.out)
             clear BK379
             clear BK380
             clear HB
             have BK379:=n0_
             have BK380:=n1_
             have HB:=n2_
             clear n0_ n1_ n2_
             have p383:0≤(x6_3:Int):=of_decide_eq_true (by first | (with_reducible assumption) | assumption)
             have q383:x6_3 < (l0_3.length:Int):=of_decide_eq_true (by first | (with_reducible assumption) | assumption)
             obtain ⟨ad383,A383_3,c383_3,A383_4,c383_4,e383,hx383_0,hx383_1,hx383_2,hx383_3,hx383_4,hl383_3,hi383_3,hl383_4,hi383_4⟩:=at_T34 HR0_3.out x6_3 p383 q383
             have hw383_4:=hx383_4
             have hw383_3:=hx383_3
             have hw383_2:=hx383_2
             have hw383_1:=hx383_1
             have hw383_0:=hx383_0
             cases e383
             replace hx383_0:=(HB.out.cell (qs4 w _ hx383_0)).trans hx383_0
             replace hx383_1:=(HB.out.cell (qs4 w _ hx383_1)).trans hx383_1
             replace hx383_2:=(HB.out.cell (qs4 w _ hx383_2)).trans hx383_2
             replace hx383_3:=(HB.out.cell (qs4 w _ hx383_3)).trans hx383_3
             replace hx383_4:=(HB.out.cell (qs4 w _ hx383_4)).trans hx383_4
             have HR383_3:=qAA.mk hi383_3
             have HC383_3:=qAA.mk hl383_3
             clear hi383_3 hl383_3
             have HR383_4:=qAA.mk hi383_4
             have HC383_4:=qAA.mk hl383_4
             clear hi383_4 hl383_4
             replace p383:=eq_true p383
             replace q383:=eq_true q383
             have p384:0≤(x6_3:Int):=of_decide_eq_true (by first | (with_reducible assumption) | assumption)
             have q384:x6_3 < (l1_3.length:Int):=of_decide_eq_true (by first | (with_reducible assumption) | assumption)
             obtain ⟨ad384,A384_3,c384_3,A384_4,c384_4,e384,hx384_0,hx384_1,hx384_2,hx384_3,hx384_4,hl384_3,hi384_3,hl384_4,hi384_4⟩:=at_T34 HR1_3.out x6_3 p384 q384
             have hw384_4:=hx384_4
             have hw384_3:=hx384_3
             have hw384_2:=hx384_2
             have hw384_1:=hx384_1
             have hw384_0:=hx384_0
             cases e384
             replace hx384_0:=(HB.out.cell (qs4 w _ hx384_0)).trans hx384_0
             replace hx384_1:=(HB.out.cell (qs4 w _ hx384_1)).trans hx384_1
             replace hx384_2:=(HB.out.cell (qs4 w _ hx384_2)).trans hx384_2
             replace hx384_3:=(HB.out.cell (qs4 w _ hx384_3)).trans hx384_3
             replace hx384_4:=(HB.out.cell (qs4 w _ hx384_4)).trans hx384_4
             have HR384_3:=qAA.mk hi384_3
             have HC384_3:=qAA.mk hl384_3
             clear hi384_3 hl384_3
             have HR384_4:=qAA.mk hi384_4
             have HC384_4:=qAA.mk hl384_4
             clear hi384_4 hl384_4
             replace p384:=eq_true p384
             replace q384:=eq_true q384
             refine qAz (n:=12) (S:=fun w'=>w'.cell? ⟨gb379,0,none⟩=some (.int .i64 a0_0)∧w'.cell? ⟨gb379,1,none⟩=some (.int .i64 a0_1)∧w'.cell? ⟨gb379,2,none⟩=some (.string a0_2)∧w'.cell? ⟨gb379,3,none⟩=some (.slice (some ad383) l0_3.length c0_3)∧w'.cell? ⟨gb379,4,none⟩=some (.slice A0_4 l0_4.length c0_4)∧w'.cell? ⟨gb380,0,none⟩=some (.int .i64 a1_0)∧w'.cell? ⟨gb380,1,none⟩=some (.int .i64 a1_1)∧w'.cell? ⟨gb380,2,none⟩=some (.string a1_2)∧w'.cell? ⟨gb380,3,none⟩=some (.slice (some ad384) l1_3.length c1_3)∧w'.cell? ⟨gb380,4,none⟩=some (.slice A1_4 l1_4.length c1_4)∧w'.cell? (ad383.add ((x6_3).toNat * 5))=some (.int .i64 ((qAR l0_3 x6_3).f0))∧w'.cell? ⟨(ad383.add ((x6_3).toNat * 5)).block,(ad383.add ((x6_3).toNat * 5)).off+1,none⟩=some (.int .i64 ((qAR l0_3 x6_3).f1))∧w'.cell? ⟨(ad383.add ((x6_3).toNat * 5)).block,(ad383.add ((x6_3).toNat * 5)).off+2,none⟩=some (.string ((qAR l0_3 x6_3).f2))∧w'.cell? ⟨(ad383.add ((x6_3).toNat * 5)).block,(ad383.add ((x6_3).toNat * 5)).off+3,none⟩=some (.slice A383_3 ((qAR l0_3 x6_3).f3).length c383_3)∧w'.cell? ⟨(ad383.add ((x6_3).toNat * 5)).block,(ad383.add ((x6_3).toNat * 5)).off+4,none⟩=some (.slice A383_4 ((qAR l0_3 x6_3).f4).length c383_4)∧w'.cell? (ad384.add ((x6_3).toNat * 5))=some (.int .i64 ((qAR l1_3 x6_3).f0))∧w'.cell? ⟨(ad384.add ((x6_3).toNat * 5)).block,(ad384.add ((x6_3).toNat * 5)).off+1,none⟩=some (.int .i64 ((qAR l1_3 x6_3).f1))∧w'.cell? ⟨(ad384.add ((x6_3).toNat * 5)).block,(ad384.add ((x6_3).toNat * 5)).off+2,none⟩=some (.string ((qAR l1_3 x6_3).f2))∧w'.cell? ⟨(ad384.add ((x6_3).toNat * 5)).block,(ad384.add ((x6_3).toNat * 5)).off+3,none⟩=some (.slice A384_3 ((qAR l1_3 x6_3).f3).length c384_3)∧w'.cell? ⟨(ad384.add ((x6_3).toNat * 5)).block,(ad384.add ((x6_3).toNat * 5)).off+4,none⟩=some (.slice A384_4 ((qAR l1_3 x6_3).f4).length c384_4)) (ds:=[]) #[qF,qF,qF,qF,qF,qF,qF,qF,qF,qF,qF,qF] (by kernel_rfl) rfl rfl ⟨(qAB BK379.out 0).trans rfl,(qAB BK379.out 1).trans rfl,(qAB BK379.out 2).trans rfl,(qAB BK379.out 3).trans rfl,(qAB BK379.out 4).trans rfl,(qAB BK380.out 0).trans rfl,(qAB BK380.out 1).trans rfl,(qAB BK380.out 2).trans rfl,(qAB BK380.out 3).trans rfl,(qAB BK380.out 4).trans rfl,((HB.out.cell (qs4 w _ hw383_0)).trans hw383_0),((HB.out.cell (qs4 w _ hw383_1)).trans hw383_1),((HB.out.cell (qs4 w _ hw383_2)).trans hw383_2),((HB.out.cell (qs4 w _ hw383_3)).trans hw383_3),((HB.out.cell (qs4 w _ hw383_4)).trans hw383_4),((HB.out.cell (qs4 w _ hw384_0)).trans hw384_0),((HB.out.cell (qs4 w _ hw384_1)).trans hw384_1),((HB.out.cell (qs4 w _ hw384_2)).trans hw384_2),((HB.out.cell (qs4 w _ hw384_3)).trans hw384_3),((HB.out.cell (qs4 w _ hw384_4)).trans hw384_4)⟩ (fun hHeld => ?_);refine qBt qAI.tab11 qAI.bits11 (fun HT_ HW_ => ?_)
             generalize wr.drew=w45 at BK379 BK380 HB HR383_3 HR383_4 HR384_3 HR384_4 hx383_0 hx383_1 hx383_2 hx383_3 hx383_4 hx384_0 hx384_1 hx384_2 hx384_3 hx384_4 hHeld ⊢
             refine qAx (i:=0) (N:=some 70) (v := ?_) (a' := ?_) #[qT,qF,qF,qF,qF,qF,qF,qF,qF,qF,qF,qF] rfl rfl (qAm HT_.out (by kernel_rfl)) (fun _ _ _ h=>h) (Or.inl ⟨by rfl, ?_⟩) ?_ ?_
             rotate_left
             ·intro w'
              go_simp
              with_reducible rfl
             rotate_left
             ·simp only [Act.put,qs1,qs2,qs3,qAZ,qAb]
              rfl
             refine qAx (i:=2) (N:=some 72) (v := ?_) (a' := ?_) #[qT,qF,qT,qF,qF,qF,qF,qF,qF,qF,qF,qF] rfl rfl (qAm HT_.out (by kernel_rfl)) (fun _ _ _ h=>h) (Or.inl ⟨by rfl, ?_⟩) ?_ ?_
             rotate_left
             ·intro w'
              go_simp
              with_reducible rfl
             rotate_left
             ·simp only [Act.put,qs1,qs2,qs3,qAZ,qAb]
              rfl
             refine qAx (i:=5) (N:=some 75) (v := ?_) (a' := ?_) #[qT,qF,qT,qF,qF,qT,qF,qF,qF,qF,qF,qF] rfl rfl (qAm HT_.out (by kernel_rfl)) (fun _ _ _ h=>h) (Or.inl ⟨by rfl, ?_⟩) ?_ ?_
             rotate_left
             ·intro w'
              go_simp
              with_reducible rfl
             rotate_left
             ·simp only [Act.put,qs1,qs2,qs3,qAZ,qAb]
              rfl
             refine qAx (i:=7) (N:=some 77) (v := ?_) (a' := ?_) #[qT,qF,qT,qF,qF,qT,qF,qT,qF,qF,qF,qF] rfl rfl (qAm HT_.out (by kernel_rfl)) (fun _ _ _ h=>h) (Or.inl ⟨by rfl, ?_⟩) ?_ ?_
             rotate_left
             ·intro w'
              go_simp
              with_reducible rfl
             rotate_left
             ·simp only [Act.put,qs1,qs2,qs3,qAZ,qAb]
              rfl
             refine qBv (i:=1) (N:=some 71) (v := ?_) (a' := ?_) #[qT,qT,qT,qF,qF,qT,qF,qT,qF,qF,qF,qF] rfl rfl (qBA HT_.out HW_.out (by kernel_rfl)) (fun _ _ _ h=>h) (Or.inl ⟨by rfl, ?_⟩) hHeld ?_ ?_
             rotate_left
             ·rintro w' ⟨s0,s1,s2,s3,s4,s5,s6,s7,s8,s9,s10,s11,s12,s13,s14,s15,s16,s17,s18,s19⟩
              go_simp
              with_reducible rfl
             rotate_left
             ·simp only [Act.put,qs1,qs2,qs3,qAZ,qAb]
              rfl
             refine qAx (i:=3) (N:=some 73) (v := ?_) (a' := ?_) #[qT,qT,qT,qT,qF,qT,qF,qT,qF,qF,qF,qF] rfl rfl (qAm HT_.out (by kernel_rfl)) (fun _ _ _ h=>h) (Or.inl ⟨by rfl, ?_⟩) ?_ ?_
             rotate_left
             ·intro w'
              go_simp
              with_reducible rfl
             rotate_left
             ·simp only [Act.put,qs1,qs2,qs3,qAZ,qAb]
              rfl
             refine qBv (i:=4) (N:=some 74) (v := ?_) (a' := ?_) #[qT,qT,qT,qT,qT,qT,qF,qT,qF,qF,qF,qF] rfl rfl (qBA HT_.out HW_.out (by kernel_rfl)) (fun _ _ _ h=>h) (Or.inl ⟨by rfl, ?_⟩) hHeld ?_ ?_
             rotate_left
             ·rintro w' ⟨s0,s1,s2,s3,s4,s5,s6,s7,s8,s9,s10,s11,s12,s13,s14,s15,s16,s17,s18,s19⟩
              go_simp
              with_reducible rfl
             rotate_left
             ·simp only [Act.put,qs1,qs2,qs3,qAZ,qAb]
              rfl
             refine qBv (i:=6) (N:=some 76) (v := ?_) (a' := ?_) #[qT,qT,qT,qT,qT,qT,qT,qT,qF,qF,qF,qF] rfl rfl (qBA HT_.out HW_.out (by kernel_rfl)) (fun _ _ _ h=>h) (Or.inl ⟨by rfl, ?_⟩) hHeld ?_ ?_
             rotate_left
             ·rintro w' ⟨s0,s1,s2,s3,s4,s5,s6,s7,s8,s9,s10,s11,s12,s13,s14,s15,s16,s17,s18,s19⟩
              go_simp
              with_reducible rfl
             rotate_left
             ·simp only [Act.put,qs1,qs2,qs3,qAZ,qAb]
              rfl
             refine qAx (i:=8) (N:=some 78) (v := ?_) (a' := ?_) #[qT,qT,qT,qT,qT,qT,qT,qT,qT,qF,qF,qF] rfl rfl (qAm HT_.out (by kernel_rfl)) (fun _ _ _ h=>h) (Or.inl ⟨by rfl, ?_⟩) ?_ ?_
             rotate_left
             ·intro w'
              go_simp
              with_reducible rfl
             rotate_left
             ·simp only [Act.put,qs1,qs2,qs3,qAZ,qAb]
              rfl
             refine qBv (i:=9) (N:=some 79) (v := ?_) (a' := ?_) #[qT,qT,qT,qT,qT,qT,qT,qT,qT,qT,qF,qF] rfl rfl (qBA HT_.out HW_.out (by kernel_rfl)) (fun _ _ _ h=>h) (Or.inl ⟨by rfl, ?_⟩) hHeld ?_ ?_
             rotate_left
             ·rintro w' ⟨s0,s1,s2,s3,s4,s5,s6,s7,s8,s9,s10,s11,s12,s13,s14,s15,s16,s17,s18,s19⟩
              go_simp
              with_reducible rfl
             rotate_left
             ·simp only [Act.put,qs1,qs2,qs3,qAZ,qAb]
              rfl
             refine one_ (i:=10) (N:=some 80) #[qT,qT,qT,qT,qT,qT,qT,qT,qT,qT,qT,qF] rfl rfl (one_of HT_.out (by kernel_rfl)) (by decide) (fun K hK => ?_)
             refine qBZ Try.func33 (by kernel_rfl) rfl #[.agg #[.int .i64 ((qAR l0_3 x6_3).f0),.int .i64 ((qAR l0_3 x6_3).f1),.string ((qAR l0_3 x6_3).f2),.slice A383_3 ((qAR l0_3 x6_3).f3).length c383_3,.slice A383_4 ((qAR l0_3 x6_3).f4).length c383_4],.agg #[.int .i64 ((qAR l1_3 x6_3).f0),.int .i64 ((qAR l1_3 x6_3).f1),.string ((qAR l1_3 x6_3).f2),.slice A384_3 ((qAR l1_3 x6_3).f3).length c384_3,.slice A384_4 ((qAR l1_3 x6_3).f4).length c384_4]] (by rfl) rfl rfl (by (try simp only [List.map_toArray,List.map_cons,List.map_nil]);first | done | rfl | (simp only [List.length_drop,List.length_take];rfl)) ?_
             with_reducible refine (ih k3 (by have:=HJ2.out;have:=HK2.out;have:=HK3.out;omega) ((qAR l0_3 x6_3).f0) ((qAR l0_3 x6_3).f1) ((qAR l0_3 x6_3).f2) _ _ ((qAR l0_3 x6_3).f3) _ _ ((qAR l0_3 x6_3).f4) ((qAR l1_3 x6_3).f0) ((qAR l1_3 x6_3).f1) ((qAR l1_3 x6_3).f2) _ _ ((qAR l1_3 x6_3).f3) _ _ ((qAR l1_3 x6_3).f4) true _ ?side1 ?side2 ?side3 ?side4 ?side5 ?side6 ?side7 ?side8 A41.out).mono ?_
             (case side1=>repeat (first | exact (Kd.qAc HR383_3.out HB.out) | (with_reducible refine Kd.qAh ?_ _) | (with_reducible refine Kd.qAk ?_ _) | (with_reducible refine Kd.qAs ?_)))
             (case side2=>exact HC383_3.out)
             (case side3=>repeat (first | exact (Kd.qAc HR383_4.out HB.out) | (with_reducible refine Kd.qAh ?_ _) | (with_reducible refine Kd.qAk ?_ _) | (with_reducible refine Kd.qAs ?_)))
             (case side4=>exact HC383_4.out)
             (case side5=>repeat (first | exact (Kd.qAc HR384_3.out HB.out) | (with_reducible refine Kd.qAh ?_ _) | (with_reducible refine Kd.qAk ?_ _) | (with_reducible refine Kd.qAs ?_)))
             (case side6=>exact HC384_3.out)
             (case side7=>repeat (first | exact (Kd.qAc HR384_4.out HB.out) | (with_reducible refine Kd.qAh ?_ _) | (with_reducible refine Kd.qAk ?_ _) | (with_reducible refine Kd.qAs ?_)))
             (case side8=>exact HC384_4.out)
             rintro e w46 ⟨rfl,hb⟩
             refine ⟨_,rfl, ?_⟩
             have n0_:=qAA.mk (qAX (g:=gb379) (o:=.cells #[.int .i64 a0_0,.int .i64 a0_1,.string a0_2,.slice (some ad383) l0_3.length c0_3,.slice A0_4 l0_4.length c0_4] 34 (0,0)) (by (with_reducible repeat (first | refine qAa ?_ _ | refine qAL ?_ | refine qAP ?_ _));exact BK379.out) hb)
             have n1_:=qAA.mk (qAX (g:=gb380) (o:=.cells #[.int .i64 a1_0,.int .i64 a1_1,.string a1_2,.slice (some ad384) l1_3.length c1_3,.slice A1_4 l1_4.length c1_4] 34 (0,0)) (by (with_reducible repeat (first | refine qAa ?_ _ | refine qAL ?_ | refine qAP ?_ _));exact BK380.out) hb)
             have n2_:=qAA.mk (qAO (by repeat (first | (with_reducible first | exact HB.out | apply qAE | apply qAD | apply qAF | refine qAQ ?_ GE379.out | refine qAQ ?_ GE380.out) | exact HB.out)) hb)
             clear BK379
             clear BK380
             clear HB
             have BK379:=n0_
             have BK380:=n1_
             have HB:=n2_
             clear n0_ n1_ n2_
             (try clear hb)
             (try clear hb2)
             (try clear hk)
             (try clear hi)
             refine hK.out _ _ ⟨(qAB BK379.out 0).trans rfl,(qAB BK379.out 1).trans rfl,(qAB BK379.out 2).trans rfl,(qAB BK379.out 3).trans rfl,(qAB BK379.out 4).trans rfl,(qAB BK380.out 0).trans rfl,(qAB BK380.out 1).trans rfl,(qAB BK380.out 2).trans rfl,(qAB BK380.out 3).trans rfl,(qAB BK380.out 4).trans rfl,((HB.out.cell (qs4 w _ hw383_0)).trans hw383_0),((HB.out.cell (qs4 w _ hw383_1)).trans hw383_1),((HB.out.cell (qs4 w _ hw383_2)).trans hw383_2),((HB.out.cell (qs4 w _ hw383_3)).trans hw383_3),((HB.out.cell (qs4 w _ hw383_4)).trans hw383_4),((HB.out.cell (qs4 w _ hw384_0)).trans hw384_0),((HB.out.cell (qs4 w _ hw384_1)).trans hw384_1),((HB.out.cell (qs4 w _ hw384_2)).trans hw384_2),((HB.out.cell (qs4 w _ hw384_3)).trans hw384_3),((HB.out.cell (qs4 w _ hw384_4)).trans hw384_4)⟩ (fun hHeld => ?_)
             clear hK K
             refine qA3 (a' := ?_) ?_ ?_
             rotate_left
             ·show Act.put _ (some 80) _=_
              simp only [Act.put,qs1,qs2,qs3,qAZ,qAb]
              rfl
             refine qAx (i:=11) (N:=some 7) (v := ?_) (a' := ?_) #[qT,qT,qT,qT,qT,qT,qT,qT,qT,qT,qT,qT] rfl rfl (qAm HT_.out (by kernel_rfl)) (fun _ _ _ h=>h) (Or.inl ⟨by rfl, ?_⟩) ?_ ?_
             rotate_left
             ·intro w'
              go_simp
              with_reducible rfl
             rotate_left
             ·simp only [Act.put,qs1,qs2,qs3,qAZ,qAb]
              rfl
             refine qBL (qCP HT_.out (by kernel_rfl)) ?_
             try go_wp2
             go_roundg k3
             case measure=>have:=HJ2.out;have:=HK2.out;have:=HK3.out;omega
             case rel=>exact ⟨(wrap64 (x6_3+1)),(by first | rfl | (simp;done) | (simp [*];done)),H',⟨by have:=HJ2.out;have:=HK2.out;have:=HK3.out;omega⟩,⟨by (with_reducible repeat (first | refine qAa ?_ _ | refine qAL ?_ | refine qAP ?_ _));exact BK379.out⟩,⟨by (with_reducible repeat (first | refine qAa ?_ _ | refine qAL ?_ | refine qAP ?_ _));exact BK380.out⟩,⟨by repeat (first | (with_reducible first | exact HB.out | apply qAE | apply qAD | apply qAF | refine qAQ ?_ GE379.out | refine qAQ ?_ GE380.out) | exact HB.out)⟩⟩
            ·replace c42:=Bool.eq_false_iff.mpr c42
             subst c42
             have H1:(some false)=some r:=by rw [if_neg (show ¬ (false=true) by decide)] at H;exact H
             clear H
             have H:=H1
             clear H1
             obtain rfl:=Option.some.inj H
             simp only [Option.some.injEq,Prod.mk.injEq] at H
             obtain ⟨rfl⟩:=H
             have hnb47:=NB379_380.out
             have hnc47:=NB380_379.out
             have hcz48_0:wr.cell? ⟨gb379,0,none⟩=some (.int .i64 a0_0):=(qAB BK379.out 0).trans rfl
             have hcz48_1:wr.cell? ⟨gb379,1,none⟩=some (.int .i64 a0_1):=(qAB BK379.out 1).trans rfl
             have hcz48_2:wr.cell? ⟨gb379,2,none⟩=some (.string a0_2):=(qAB BK379.out 2).trans rfl
             have hcz48_3:wr.cell? ⟨gb379,3,none⟩=some (.slice A0_3 l0_3.length c0_3):=(qAB BK379.out 3).trans rfl
             have hcz48_4:wr.cell? ⟨gb379,4,none⟩=some (.slice A0_4 l0_4.length c0_4):=(qAB BK379.out 4).trans rfl
             have hfz48_0:=qAC BK379.out 0
             have hfz48_1:=qAC BK379.out 1
             have hfz48_2:=qAC BK379.out 2
             have hfz48_3:=qAC BK379.out 3
             have hfz48_4:=qAC BK379.out 4
             try go_wp2
             have n0_:=qAA.mk (qAL BK379.out)
             have n1_:=qAA.mk (qAL BK380.out)
             have n2_:=qAA.mk (qAF HB.out)
             clear BK379
             clear BK380
             clear HB
             have BK379:=n0_
             have BK380:=n1_
             have HB:=n2_
             clear n0_ n1_ n2_
             have p383:0≤(x6_3:Int):=of_decide_eq_true (by first | (with_reducible assumption) | assumption)
             have q383:x6_3 < (l0_3.length:Int):=of_decide_eq_true (by first | (with_reducible assumption) | assumption)
             obtain ⟨ad383,A383_3,c383_3,A383_4,c383_4,e383,hx383_0,hx383_1,hx383_2,hx383_3,hx383_4,hl383_3,hi383_3,hl383_4,hi383_4⟩:=at_T34 HR0_3.out x6_3 p383 q383
             have hw383_4:=hx383_4
             have hw383_3:=hx383_3
             have hw383_2:=hx383_2
             have hw383_1:=hx383_1
             have hw383_0:=hx383_0
             cases e383
             replace hx383_0:=(HB.out.cell (qs4 w _ hx383_0)).trans hx383_0
             replace hx383_1:=(HB.out.cell (qs4 w _ hx383_1)).trans hx383_1
             replace hx383_2:=(HB.out.cell (qs4 w _ hx383_2)).trans hx383_2
             replace hx383_3:=(HB.out.cell (qs4 w _ hx383_3)).trans hx383_3
             replace hx383_4:=(HB.out.cell (qs4 w _ hx383_4)).trans hx383_4
             have HR383_3:=qAA.mk hi383_3
             have HC383_3:=qAA.mk hl383_3
             clear hi383_3 hl383_3
             have HR383_4:=qAA.mk hi383_4
             have HC383_4:=qAA.mk hl383_4
             clear hi383_4 hl383_4
             replace p383:=eq_true p383
             replace q383:=eq_true q383
             have p384:0≤(x6_3:Int):=of_decide_eq_true (by first | (with_reducible assumption) | assumption)
             have q384:x6_3 < (l1_3.length:Int):=of_decide_eq_true (by first | (with_reducible assumption) | assumption)
             obtain ⟨ad384,A384_3,c384_3,A384_4,c384_4,e384,hx384_0,hx384_1,hx384_2,hx384_3,hx384_4,hl384_3,hi384_3,hl384_4,hi384_4⟩:=at_T34 HR1_3.out x6_3 p384 q384
             have hw384_4:=hx384_4
             have hw384_3:=hx384_3
             have hw384_2:=hx384_2
             have hw384_1:=hx384_1
             have hw384_0:=hx384_0
             cases e384
             replace hx384_0:=(HB.out.cell (qs4 w _ hx384_0)).trans hx384_0
             replace hx384_1:=(HB.out.cell (qs4 w _ hx384_1)).trans hx384_1
             replace hx384_2:=(HB.out.cell (qs4 w _ hx384_2)).trans hx384_2
             replace hx384_3:=(HB.out.cell (qs4 w _ hx384_3)).trans hx384_3
             replace hx384_4:=(HB.out.cell (qs4 w _ hx384_4)).trans hx384_4
             have HR384_3:=qAA.mk hi384_3
             have HC384_3:=qAA.mk hl384_3
             clear hi384_3 hl384_3
             have HR384_4:=qAA.mk hi384_4
             have HC384_4:=qAA.mk hl384_4
             clear hi384_4 hl384_4
             replace p384:=eq_true p384
             replace q384:=eq_true q384
             refine qAz (n:=12) (S:=fun w'=>w'.cell? ⟨gb379,0,none⟩=some (.int .i64 a0_0)∧w'.cell? ⟨gb379,1,none⟩=some (.int .i64 a0_1)∧w'.cell? ⟨gb379,2,none⟩=some (.string a0_2)∧w'.cell? ⟨gb379,3,none⟩=some (.slice (some ad383) l0_3.length c0_3)∧w'.cell? ⟨gb379,4,none⟩=some (.slice A0_4 l0_4.length c0_4)∧w'.cell? ⟨gb380,0,none⟩=some (.int .i64 a1_0)∧w'.cell? ⟨gb380,1,none⟩=some (.int .i64 a1_1)∧w'.cell? ⟨gb380,2,none⟩=some (.string a1_2)∧w'.cell? ⟨gb380,3,none⟩=some (.slice (some ad384) l1_3.length c1_3)∧w'.cell? ⟨gb380,4,none⟩=some (.slice A1_4 l1_4.length c1_4)∧w'.cell? (ad383.add ((x6_3).toNat * 5))=some (.int .i64 ((qAR l0_3 x6_3).f0))∧w'.cell? ⟨(ad383.add ((x6_3).toNat * 5)).block,(ad383.add ((x6_3).toNat * 5)).off+1,none⟩=some (.int .i64 ((qAR l0_3 x6_3).f1))∧w'.cell? ⟨(ad383.add ((x6_3).toNat * 5)).block,(ad383.add ((x6_3).toNat * 5)).off+2,none⟩=some (.string ((qAR l0_3 x6_3).f2))∧w'.cell? ⟨(ad383.add ((x6_3).toNat * 5)).block,(ad383.add ((x6_3).toNat * 5)).off+3,none⟩=some (.slice A383_3 ((qAR l0_3 x6_3).f3).length c383_3)∧w'.cell? ⟨(ad383.add ((x6_3).toNat * 5)).block,(ad383.add ((x6_3).toNat * 5)).off+4,none⟩=some (.slice A383_4 ((qAR l0_3 x6_3).f4).length c383_4)∧w'.cell? (ad384.add ((x6_3).toNat * 5))=some (.int .i64 ((qAR l1_3 x6_3).f0))∧w'.cell? ⟨(ad384.add ((x6_3).toNat * 5)).block,(ad384.add ((x6_3).toNat * 5)).off+1,none⟩=some (.int .i64 ((qAR l1_3 x6_3).f1))∧w'.cell? ⟨(ad384.add ((x6_3).toNat * 5)).block,(ad384.add ((x6_3).toNat * 5)).off+2,none⟩=some (.string ((qAR l1_3 x6_3).f2))∧w'.cell? ⟨(ad384.add ((x6_3).toNat * 5)).block,(ad384.add ((x6_3).toNat * 5)).off+3,none⟩=some (.slice A384_3 ((qAR l1_3 x6_3).f3).length c384_3)∧w'.cell? ⟨(ad384.add ((x6_3).toNat * 5)).block,(ad384.add ((x6_3).toNat * 5)).off+4,none⟩=some (.slice A384_4 ((qAR l1_3 x6_3).f4).length c384_4)) (ds:=[]) #[qF,qF,qF,qF,qF,qF,qF,qF,qF,qF,qF,qF] (by kernel_rfl) rfl rfl ⟨(qAB BK379.out 0).trans rfl,(qAB BK379.out 1).trans rfl,(qAB BK379.out 2).trans rfl,(qAB BK379.out 3).trans rfl,(qAB BK379.out 4).trans rfl,(qAB BK380.out 0).trans rfl,(qAB BK380.out 1).trans rfl,(qAB BK380.out 2).trans rfl,(qAB BK380.out 3).trans rfl,(qAB BK380.out 4).trans rfl,((HB.out.cell (qs4 w _ hw383_0)).trans hw383_0),((HB.out.cell (qs4 w _ hw383_1)).trans hw383_1),((HB.out.cell (qs4 w _ hw383_2)).trans hw383_2),((HB.out.cell (qs4 w _ hw383_3)).trans hw383_3),((HB.out.cell (qs4 w _ hw383_4)).trans hw383_4),((HB.out.cell (qs4 w _ hw384_0)).trans hw384_0),((HB.out.cell (qs4 w _ hw384_1)).trans hw384_1),((HB.out.cell (qs4 w _ hw384_2)).trans hw384_2),((HB.out.cell (qs4 w _ hw384_3)).trans hw384_3),((HB.out.cell (qs4 w _ hw384_4)).trans hw384_4)⟩ (fun hHeld => ?_);refine qBt qAI.tab11 qAI.bits11 (fun HT_ HW_ => ?_)
             generalize wr.drew=w49 at BK379 BK380 HB HR383_3 HR383_4 HR384_3 HR384_4 hx383_0 hx383_1 hx383_2 hx383_3 hx383_4 hx384_0 hx384_1 hx384_2 hx384_3 hx384_4 hHeld ⊢
             refine qAx (i:=0) (N:=some 70) (v := ?_) (a' := ?_) #[qT,qF,qF,qF,qF,qF,qF,qF,qF,qF,qF,qF] rfl rfl (qAm HT_.out (by kernel_rfl)) (fun _ _ _ h=>h) (Or.inl ⟨by rfl, ?_⟩) ?_ ?_
             rotate_left
             ·intro w'
              go_simp
              with_reducible rfl
             rotate_left
             ·simp only [Act.put,qs1,qs2,qs3,qAZ,qAb]
              rfl
             refine qAx (i:=2) (N:=some 72) (v := ?_) (a' := ?_) #[qT,qF,qT,qF,qF,qF,qF,qF,qF,qF,qF,qF] rfl rfl (qAm HT_.out (by kernel_rfl)) (fun _ _ _ h=>h) (Or.inl ⟨by rfl, ?_⟩) ?_ ?_
             rotate_left
             ·intro w'
              go_simp
              with_reducible rfl
             rotate_left
             ·simp only [Act.put,qs1,qs2,qs3,qAZ,qAb]
              rfl
             refine qAx (i:=5) (N:=some 75) (v := ?_) (a' := ?_) #[qT,qF,qT,qF,qF,qT,qF,qF,qF,qF,qF,qF] rfl rfl (qAm HT_.out (by kernel_rfl)) (fun _ _ _ h=>h) (Or.inl ⟨by rfl, ?_⟩) ?_ ?_
             rotate_left
             ·intro w'
              go_simp
              with_reducible rfl
             rotate_left
             ·simp only [Act.put,qs1,qs2,qs3,qAZ,qAb]
              rfl
             refine qAx (i:=7) (N:=some 77) (v := ?_) (a' := ?_) #[qT,qF,qT,qF,qF,qT,qF,qT,qF,qF,qF,qF] rfl rfl (qAm HT_.out (by kernel_rfl)) (fun _ _ _ h=>h) (Or.inl ⟨by rfl, ?_⟩) ?_ ?_
             rotate_left
             ·intro w'
              go_simp
              with_reducible rfl
             rotate_left
             ·simp only [Act.put,qs1,qs2,qs3,qAZ,qAb]
              rfl
             refine qBv (i:=1) (N:=some 71) (v := ?_) (a' := ?_) #[qT,qT,qT,qF,qF,qT,qF,qT,qF,qF,qF,qF] rfl rfl (qBA HT_.out HW_.out (by kernel_rfl)) (fun _ _ _ h=>h) (Or.inl ⟨by rfl, ?_⟩) hHeld ?_ ?_
             rotate_left
             ·rintro w' ⟨s0,s1,s2,s3,s4,s5,s6,s7,s8,s9,s10,s11,s12,s13,s14,s15,s16,s17,s18,s19⟩
              go_simp
              with_reducible rfl
             rotate_left
             ·simp only [Act.put,qs1,qs2,qs3,qAZ,qAb]
              rfl
             refine qAx (i:=3) (N:=some 73) (v := ?_) (a' := ?_) #[qT,qT,qT,qT,qF,qT,qF,qT,qF,qF,qF,qF] rfl rfl (qAm HT_.out (by kernel_rfl)) (fun _ _ _ h=>h) (Or.inl ⟨by rfl, ?_⟩) ?_ ?_
             rotate_left
             ·intro w'
              go_simp
              with_reducible rfl
             rotate_left
             ·simp only [Act.put,qs1,qs2,qs3,qAZ,qAb]
              rfl
             refine qBv (i:=4) (N:=some 74) (v := ?_) (a' := ?_) #[qT,qT,qT,qT,qT,qT,qF,qT,qF,qF,qF,qF] rfl rfl (qBA HT_.out HW_.out (by kernel_rfl)) (fun _ _ _ h=>h) (Or.inl ⟨by rfl, ?_⟩) hHeld ?_ ?_
             rotate_left
             ·rintro w' ⟨s0,s1,s2,s3,s4,s5,s6,s7,s8,s9,s10,s11,s12,s13,s14,s15,s16,s17,s18,s19⟩
              go_simp
              with_reducible rfl
             rotate_left
             ·simp only [Act.put,qs1,qs2,qs3,qAZ,qAb]
              rfl
             refine qBv (i:=6) (N:=some 76) (v := ?_) (a' := ?_) #[qT,qT,qT,qT,qT,qT,qT,qT,qF,qF,qF,qF] rfl rfl (qBA HT_.out HW_.out (by kernel_rfl)) (fun _ _ _ h=>h) (Or.inl ⟨by rfl, ?_⟩) hHeld ?_ ?_
             rotate_left
             ·rintro w' ⟨s0,s1,s2,s3,s4,s5,s6,s7,s8,s9,s10,s11,s12,s13,s14,s15,s16,s17,s18,s19⟩
              go_simp
              with_reducible rfl
             rotate_left
             ·simp only [Act.put,qs1,qs2,qs3,qAZ,qAb]
              rfl
             refine qAx (i:=8) (N:=some 78) (v := ?_) (a' := ?_) #[qT,qT,qT,qT,qT,qT,qT,qT,qT,qF,qF,qF] rfl rfl (qAm HT_.out (by kernel_rfl)) (fun _ _ _ h=>h) (Or.inl ⟨by rfl, ?_⟩) ?_ ?_
             rotate_left
             ·intro w'
              go_simp
              with_reducible rfl
             rotate_left
             ·simp only [Act.put,qs1,qs2,qs3,qAZ,qAb]
              rfl
             refine qBv (i:=9) (N:=some 79) (v := ?_) (a' := ?_) #[qT,qT,qT,qT,qT,qT,qT,qT,qT,qT,qF,qF] rfl rfl (qBA HT_.out HW_.out (by kernel_rfl)) (fun _ _ _ h=>h) (Or.inl ⟨by rfl, ?_⟩) hHeld ?_ ?_
             rotate_left
             ·rintro w' ⟨s0,s1,s2,s3,s4,s5,s6,s7,s8,s9,s10,s11,s12,s13,s14,s15,s16,s17,s18,s19⟩
              go_simp
              with_reducible rfl
             rotate_left
             ·simp only [Act.put,qs1,qs2,qs3,qAZ,qAb]
              rfl
             refine one_ (i:=10) (N:=some 80) #[qT,qT,qT,qT,qT,qT,qT,qT,qT,qT,qT,qF] rfl rfl (one_of HT_.out (by kernel_rfl)) (by decide) (fun K hK => ?_)
             refine qBZ Try.func33 (by kernel_rfl) rfl #[.agg #[.int .i64 ((qAR l0_3 x6_3).f0),.int .i64 ((qAR l0_3 x6_3).f1),.string ((qAR l0_3 x6_3).f2),.slice A383_3 ((qAR l0_3 x6_3).f3).length c383_3,.slice A383_4 ((qAR l0_3 x6_3).f4).length c383_4],.agg #[.int .i64 ((qAR l1_3 x6_3).f0),.int .i64 ((qAR l1_3 x6_3).f1),.string ((qAR l1_3 x6_3).f2),.slice A384_3 ((qAR l1_3 x6_3).f3).length c384_3,.slice A384_4 ((qAR l1_3 x6_3).f4).length c384_4]] (by rfl) rfl rfl (by (try simp only [List.map_toArray,List.map_cons,List.map_nil]);first | done | rfl | (simp only [List.length_drop,List.length_take];rfl)) ?_
             with_reducible refine (ih k3 (by have:=HJ2.out;have:=HK2.out;have:=HK3.out;omega) ((qAR l0_3 x6_3).f0) ((qAR l0_3 x6_3).f1) ((qAR l0_3 x6_3).f2) _ _ ((qAR l0_3 x6_3).f3) _ _ ((qAR l0_3 x6_3).f4) ((qAR l1_3 x6_3).f0) ((qAR l1_3 x6_3).f1) ((qAR l1_3 x6_3).f2) _ _ ((qAR l1_3 x6_3).f3) _ _ ((qAR l1_3 x6_3).f4) false _ ?side1 ?side2 ?side3 ?side4 ?side5 ?side6 ?side7 ?side8 A41.out).mono ?_
             (case side1=>repeat (first | exact (Kd.qAc HR383_3.out HB.out) | (with_reducible refine Kd.qAh ?_ _) | (with_reducible refine Kd.qAk ?_ _) | (with_reducible refine Kd.qAs ?_)))
             (case side2=>exact HC383_3.out)
             (case side3=>repeat (first | exact (Kd.qAc HR383_4.out HB.out) | (with_reducible refine Kd.qAh ?_ _) | (with_reducible refine Kd.qAk ?_ _) | (with_reducible refine Kd.qAs ?_)))
             (case side4=>exact HC383_4.out)
             (case side5=>repeat (first | exact (Kd.qAc HR384_3.out HB.out) | (with_reducible refine Kd.qAh ?_ _) | (with_reducible refine Kd.qAk ?_ _) | (with_reducible refine Kd.qAs ?_)))
             (case side6=>exact HC384_3.out)
             (case side7=>repeat (first | exact (Kd.qAc HR384_4.out HB.out) | (with_reducible refine Kd.qAh ?_ _) | (with_reducible refine Kd.qAk ?_ _) | (with_reducible refine Kd.qAs ?_)))
             (case side8=>exact HC384_4.out)
             rintro e w50 ⟨rfl,hb⟩
             refine ⟨_,rfl, ?_⟩
             have n0_:=qAA.mk (qAX (g:=gb379) (o:=.cells #[.int .i64 a0_0,.int .i64 a0_1,.string a0_2,.slice (some ad383) l0_3.length c0_3,.slice A0_4 l0_4.length c0_4] 34 (0,0)) (by (with_reducible repeat (first | refine qAa ?_ _ | refine qAL ?_ | refine qAP ?_ _));exact BK379.out) hb)
             have n1_:=qAA.mk (qAX (g:=gb380) (o:=.cells #[.int .i64 a1_0,.int .i64 a1_1,.string a1_2,.slice (some ad384) l1_3.length c1_3,.slice A1_4 l1_4.length c1_4] 34 (0,0)) (by (with_reducible repeat (first | refine qAa ?_ _ | refine qAL ?_ | refine qAP ?_ _));exact BK380.out) hb)
             have n2_:=qAA.mk (qAO (by repeat (first | (with_reducible first | exact HB.out | apply qAE | apply qAD | apply qAF | refine qAQ ?_ GE379.out | refine qAQ ?_ GE380.out) | exact HB.out)) hb)
             clear BK379
             clear BK380
             clear HB
             have BK379:=n0_
             have BK380:=n1_
             have HB:=n2_
             clear n0_ n1_ n2_
             (try clear hb)
             (try clear hb2)
             (try clear hk)
             (try clear hi)
             refine hK.out _ _ ⟨(qAB BK379.out 0).trans rfl,(qAB BK379.out 1).trans rfl,(qAB BK379.out 2).trans rfl,(qAB BK379.out 3).trans rfl,(qAB BK379.out 4).trans rfl,(qAB BK380.out 0).trans rfl,(qAB BK380.out 1).trans rfl,(qAB BK380.out 2).trans rfl,(qAB BK380.out 3).trans rfl,(qAB BK380.out 4).trans rfl,((HB.out.cell (qs4 w _ hw383_0)).trans hw383_0),((HB.out.cell (qs4 w _ hw383_1)).trans hw383_1),((HB.out.cell (qs4 w _ hw383_2)).trans hw383_2),((HB.out.cell (qs4 w _ hw383_3)).trans hw383_3),((HB.out.cell (qs4 w _ hw383_4)).trans hw383_4),((HB.out.cell (qs4 w _ hw384_0)).trans hw384_0),((HB.out.cell (qs4 w _ hw384_1)).trans hw384_1),((HB.out.cell (qs4 w _ hw384_2)).trans hw384_2),((HB.out.cell (qs4 w _ hw384_3)).trans hw384_3),((HB.out.cell (qs4 w _ hw384_4)).trans hw384_4)⟩ (fun hHeld => ?_)
             clear hK K
             refine qA3 (a' := ?_) ?_ ?_
             rotate_left
             ·show Act.put _ (some 80) _=_
              simp only [Act.put,qs1,qs2,qs3,qAZ,qAb]
              rfl
             refine qAx (i:=11) (N:=some 7) (v := ?_) (a' := ?_) #[qT,qT,qT,qT,qT,qT,qT,qT,qT,qT,qT,qT] rfl rfl (qAm HT_.out (by kernel_rfl)) (fun _ _ _ h=>h) (Or.inl ⟨by rfl, ?_⟩) ?_ ?_
             rotate_left
             ·intro w'
              go_simp
              with_reducible rfl
             rotate_left
             ·simp only [Act.put,qs1,qs2,qs3,qAZ,qAb]
              rfl
             refine qBL (qCP HT_.out (by kernel_rfl)) ?_
             try go_wp2
             go_ret
             exact ⟨by first | rfl | (simp [qAT,qAS] <;> rfl) | (simp [*,qAT,qAS] <;> rfl),by repeat (first | (with_reducible first | exact HB.out | apply qAE | apply qAD | apply qAF | refine qAQ ?_ GE379.out | refine qAQ ?_ GE380.out) | exact HB.out)⟩
           ·rw [if_neg c40] at H
            exact absurd H (by simp)
          ·rw [if_neg c39] at H
           exact absurd H (by simp)
         ·rw [if_neg c38] at H
          have c38b0:decide (x6_3 < (l0_3.length:Int))=false:=decide_eq_false c38
          clear c38
          obtain rfl:=Option.some.inj H
          simp only [Option.some.injEq,Prod.mk.injEq] at H
          obtain ⟨rfl⟩:=H
          have hnb51:=NB379_380.out
          have hnc51:=NB380_379.out
          have hcz52_0:wr.cell? ⟨gb379,0,none⟩=some (.int .i64 a0_0):=(qAB BK379.out 0).trans rfl
          have hcz52_1:wr.cell? ⟨gb379,1,none⟩=some (.int .i64 a0_1):=(qAB BK379.out 1).trans rfl
          have hcz52_2:wr.cell? ⟨gb379,2,none⟩=some (.string a0_2):=(qAB BK379.out 2).trans rfl
          have hcz52_3:wr.cell? ⟨gb379,3,none⟩=some (.slice A0_3 l0_3.length c0_3):=(qAB BK379.out 3).trans rfl
          have hcz52_4:wr.cell? ⟨gb379,4,none⟩=some (.slice A0_4 l0_4.length c0_4):=(qAB BK379.out 4).trans rfl
          have hfz52_0:=qAC BK379.out 0
          have hfz52_1:=qAC BK379.out 1
          have hfz52_2:=qAC BK379.out 2
          have hfz52_3:=qAC BK379.out 3
          have hfz52_4:=qAC BK379.out 4
          go_wp2
          go_ret
          exact ⟨by first | rfl | (simp [qAT,qAS] <;> rfl) | (simp [*,qAT,qAS] <;> rfl),by repeat (first | (with_reducible first | exact HB.out | apply qAE | apply qAD | apply qAF | refine qAQ ?_ GE379.out | refine qAQ ?_ GE380.out) | exact HB.out)⟩
end Go.Proofs.Ytdommiicjpjfpaa.X
