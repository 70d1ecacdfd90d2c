import Derived.Test.YtdommiicjpjfpaaZStateReads3
import Derived.Test.YtdommiicjpjfpaaZStateReads23
set_option linter.unusedVariables false
set_option linter.unusedSimpArgs false
namespace Go.Proofs.Ytdommiicjpjfpaa.X
open Go.RowKit Go.Proofs.YtdommiicjpjfpaaW.PrintWords Go.Proofs.YtdommiicjpjfpaaW.PrintLast Go.Proofs.YtdommiicjpjfpaaW.PrintMore Go.Proofs.YtdommiicjpjfpaaW
attribute [local go_sem] qBE qBD qBV qBU qA6 qA5 qBJ qBI
def qAM.l0:Nat→List (S51)→List (S51)→Int→Option (Bool)
 | 0,_,_,_=>none
 | k+1,x0,x1,x5=>if x5 < (x0.length:Int) then (if 0≤x5 then (if x5 < (x1.length:Int) then ((qAI.f k ((qAJ x0 x5).f1.f0) ((qAJ x0 x5).f1.f1) ((qAJ x0 x5).f1.f2) ((qAJ x0 x5).f1.f3) ((qAJ x0 x5).f1.f4) ((qAJ x1 x5).f1.f0) ((qAJ x1 x5).f1.f1) ((qAJ x1 x5).f1.f2) ((qAJ x1 x5).f1.f3) ((qAJ x1 x5).f1.f4)).bind fun t508=>(if t508=true then (if ((qAJ x0 x5).f0).toList=((qAJ x1 x5).f0).toList then (qAM.l0 k x0 x1 (wrap64 (x5+1))) else (some false)) else (some false))) else (none)) else (none)) else (some true)
def qAM.f (k:Nat) (l0:List (S51)) (l1:List (S51)):Option (Bool):=if (l0.length:Int)=(l1.length:Int) then (qAM.l0 k l0 l1 0) else (some false)
def qAM.T6:Bool × List (List Nat × List Nat):=(true,[([],[]),([],[]),([0,1],[0,1]),([2],[2]),([3],[3]),([],[]),([],[]),([5,6],[5,6]),([7],[7]),([8],[8]),([4,9],[4,9]),([10,10,0,1,2,3,4,5,6,7,8,9,10],[10])])
def qAM.B6:List Nat:=[0,0,3,7,15,0,0,96,224,480,1023,2047]
theorem qAM.tab6:rtab .any (opsOf Try.f19 6)=qAM.T6:=by kernel_rfl
theorem qAM.bits6:waitsOk qAM.T6.2 qAM.B6=true:=by kernel_rfl
def qAM.T7:Bool × List (List Nat × List Nat):=(true,[([],[]),([0],[0]),([1],[1]),([2],[2]),([2],[2]),([3,4,2],[2,3,4]),([5,2],[2,5]),([6,2],[2,6]),([2],[2]),([2],[2]),([8,9,2],[2,8,9]),([10,2],[2,10]),([11,2],[2,11]),([7,12,2],[2,7,12]),([2,13],[2,13])])
def qAM.B7:List Nat:=[0,1,3,7,7,31,63,127,7,7,775,1799,3847,8191,16383]
theorem qAM.tab7:rtab .any (opsOf Try.f19 7)=qAM.T7:=by kernel_rfl
theorem qAM.bits7:waitsOk qAM.T7.2 qAM.B7=true:=by kernel_rfl
set_option maxHeartbeats 8000000 in
set_option maxRecDepth 100000 in
theorem qAM.calls (k:Nat) (A0:Option Addr) (c0:Nat) (l0:List (S51)) (A1:Option Addr) (c1:Nat) (l1:List (S51)) (r:Bool) (w:World) (hr0:Kd.C k51 w A0 l0.length l0) (hc0:l0.length≤c0) (hr1:Kd.C k51 w A1 l1.length l1) (hc1:l1.length≤c1) (h:qAM.f k l0 l1=some r) :
  Calls Try.prog 19 #[.slice A0 l0.length c0,.slice A1 l1.length c1] w fun e w'=>e=.returned (.bool r)∧Below w.heap.size w w':=by
 have hu34:=Try.underlying34
 have HR0:=qAA.mk hr0
 have HC0:=qAA.mk hc0
 clear hr0 hc0
 have HR1:=qAA.mk hr1
 have HC1:=qAA.mk hc1
 clear hr1 hc1
 have HB:=qAA.mk (Below.refl w.heap.size w)
 have H:(if (l0.length:Int)=(l1.length:Int) then (qAM.l0 k l0 l1 0) else (some false))=some r:=h
 clear h
 by_cases c3:(l0.length:Int)=(l1.length:Int)
 ·rw [if_pos c3] at H
  have c3b0:((l0.length:Int) == (l1.length:Int))=true:=beq_iff_eq.mpr c3
  have c3b1:((l0.length:Int) != (l1.length:Int))=false:=bne_eq_false_iff_eq.mpr c3
  have c3b2:(l0.length == l1.length)=true:=by first | simpa using c3 | (simp at c3 ⊢;omega)
  clear c3
  have H':=qAA.mk H
  clear H
  go_enter Try.func19,Try.ntmps19
  go_wp2
  go_loopg [5] k (fun kq v5 w'=>∃ (x5_1:Int),v5=.int .i64 x5_1∧qAA (qAM.l0 kq l0 l1 x5_1=some r)∧qAA (kq≤k)∧qAA (Below w.heap.size w w'))
  case atStart=>exact ⟨(0),(by first | rfl | (simp;done) | (simp [*];done)),H',⟨Nat.le_refl _⟩,⟨by repeat (first | (with_reducible first | exact HB.out | apply qAE | apply qAD | apply qAF) | exact HB.out)⟩⟩
  case round =>
   clear H'
   try clear c1
   try clear p2
   try clear c3
   try clear c3b0
   try clear c3b1
   try clear c3b2
   obtain ⟨x5_1,rfl,HA,HK1,HB⟩:=hrel
   cases gk with
   | zero=>exact absurd HA.out (by simp [qAM.l0])
   | succ k1 =>
    have H:=HA.out
    clear HA
    simp only [qAM.l0] at H
    by_cases c4:x5_1 < (l0.length:Int)
    ·rw [if_pos c4] at H
     have c4b0:decide (x5_1 < (l0.length:Int))=true:=decide_eq_true c4
     clear c4
     by_cases c5:0≤x5_1
     ·rw [if_pos c5] at H
      have c5b0:decide (0≤x5_1)=true:=decide_eq_true c5
      clear c5
      by_cases c6:x5_1 < (l1.length:Int)
      ·rw [if_pos c6] at H
       have c6b0:decide (x5_1 < (l1.length:Int))=true:=decide_eq_true c6
       clear c6
       replace H:=Option.bind_eq_some_iff.mp H
       obtain ⟨t508,A70,H⟩:=H
       replace H:(if t508=true then (if ((qAJ l0 x5_1).f0).toList=((qAJ l1 x5_1).f0).toList then (qAM.l0 k1 l0 l1 (wrap64 (x5_1+1))) else (some false)) else (some false))=some r:=H
       have A7:=qAA.mk A70
       clear A70
       by_cases c8:t508=true
       ·subst c8
        have H1:(if ((qAJ l0 x5_1).f0).toList=((qAJ l1 x5_1).f0).toList then (qAM.l0 k1 l0 l1 (wrap64 (x5_1+1))) else (some false))=some r:=by rw [if_pos rfl] at H;exact H
        clear H
        have H:=H1
        clear H1
        by_cases c9:((qAJ l0 x5_1).f0).toList=((qAJ l1 x5_1).f0).toList
        ·rw [if_pos c9] at H
         have c9b0:(((qAJ l0 x5_1).f0).toList == ((qAJ l1 x5_1).f0).toList)=true:=beq_iff_eq.mpr c9
         have c9b1:(((qAJ l0 x5_1).f0).toList != ((qAJ l1 x5_1).f0).toList)=false:=bne_eq_false_iff_eq.mpr c9
         clear c9
         have H':=qAA.mk H
         clear H
         try go_wp2
         have n0_:=qAA.mk (qAF HB.out)
         clear HB
         have HB:=n0_
         clear n0_
         have p506:0≤(x5_1:Int):=of_decide_eq_true (by first | (with_reducible assumption) | assumption)
         have q506:x5_1 < (l0.length:Int):=of_decide_eq_true (by first | (with_reducible assumption) | assumption)
         obtain ⟨ad506,A506_4,c506_4,A506_5,c506_5,e506,hx506_0,hx506_1,hx506_2,hx506_3,hx506_4,hx506_5,hl506_4,hi506_4,hl506_5,hi506_5⟩:=qCI HR0.out x5_1 p506 q506
         have hw506_5:=hx506_5
         have hw506_4:=hx506_4
         have hw506_3:=hx506_3
         have hw506_2:=hx506_2
         have hw506_1:=hx506_1
         have hw506_0:=hx506_0
         cases e506
         replace hx506_0:=(HB.out.cell (qs4 w _ hx506_0)).trans hx506_0
         replace hx506_1:=(HB.out.cell (qs4 w _ hx506_1)).trans hx506_1
         replace hx506_2:=(HB.out.cell (qs4 w _ hx506_2)).trans hx506_2
         replace hx506_3:=(HB.out.cell (qs4 w _ hx506_3)).trans hx506_3
         replace hx506_4:=(HB.out.cell (qs4 w _ hx506_4)).trans hx506_4
         replace hx506_5:=(HB.out.cell (qs4 w _ hx506_5)).trans hx506_5
         have HR506_4:=qAA.mk hi506_4
         have HC506_4:=qAA.mk hl506_4
         clear hi506_4 hl506_4
         have HR506_5:=qAA.mk hi506_5
         have HC506_5:=qAA.mk hl506_5
         clear hi506_5 hl506_5
         replace p506:=eq_true p506
         replace q506:=eq_true q506
         have p507:0≤(x5_1:Int):=of_decide_eq_true (by first | (with_reducible assumption) | assumption)
         have q507:x5_1 < (l1.length:Int):=of_decide_eq_true (by first | (with_reducible assumption) | assumption)
         obtain ⟨ad507,A507_4,c507_4,A507_5,c507_5,e507,hx507_0,hx507_1,hx507_2,hx507_3,hx507_4,hx507_5,hl507_4,hi507_4,hl507_5,hi507_5⟩:=qCI HR1.out x5_1 p507 q507
         have hw507_5:=hx507_5
         have hw507_4:=hx507_4
         have hw507_3:=hx507_3
         have hw507_2:=hx507_2
         have hw507_1:=hx507_1
         have hw507_0:=hx507_0
         cases e507
         replace hx507_0:=(HB.out.cell (qs4 w _ hx507_0)).trans hx507_0
         replace hx507_1:=(HB.out.cell (qs4 w _ hx507_1)).trans hx507_1
         replace hx507_2:=(HB.out.cell (qs4 w _ hx507_2)).trans hx507_2
         replace hx507_3:=(HB.out.cell (qs4 w _ hx507_3)).trans hx507_3
         replace hx507_4:=(HB.out.cell (qs4 w _ hx507_4)).trans hx507_4
         replace hx507_5:=(HB.out.cell (qs4 w _ hx507_5)).trans hx507_5
         have HR507_4:=qAA.mk hi507_4
         have HC507_4:=qAA.mk hl507_4
         clear hi507_4 hl507_4
         have HR507_5:=qAA.mk hi507_5
         have HC507_5:=qAA.mk hl507_5
         clear hi507_5 hl507_5
         replace p507:=eq_true p507
         replace q507:=eq_true q507
         refine qAz (n:=12) (S:=fun w'=>w'.cell? (ad506.add ((x5_1).toNat * 6))=some (.string ((qAJ l0 x5_1).f0))∧w'.cell? ⟨(ad506.add ((x5_1).toNat * 6)).block,(ad506.add ((x5_1).toNat * 6)).off+1,none⟩=some (.int .i64 ((qAJ l0 x5_1).f1.f0))∧w'.cell? ⟨(ad506.add ((x5_1).toNat * 6)).block,(ad506.add ((x5_1).toNat * 6)).off+2,none⟩=some (.int .i64 ((qAJ l0 x5_1).f1.f1))∧w'.cell? ⟨(ad506.add ((x5_1).toNat * 6)).block,(ad506.add ((x5_1).toNat * 6)).off+3,none⟩=some (.string ((qAJ l0 x5_1).f1.f2))∧w'.cell? ⟨(ad506.add ((x5_1).toNat * 6)).block,(ad506.add ((x5_1).toNat * 6)).off+4,none⟩=some (.slice A506_4 ((qAJ l0 x5_1).f1.f3).length c506_4)∧w'.cell? ⟨(ad506.add ((x5_1).toNat * 6)).block,(ad506.add ((x5_1).toNat * 6)).off+5,none⟩=some (.slice A506_5 ((qAJ l0 x5_1).f1.f4).length c506_5)∧w'.cell? (ad507.add ((x5_1).toNat * 6))=some (.string ((qAJ l1 x5_1).f0))∧w'.cell? ⟨(ad507.add ((x5_1).toNat * 6)).block,(ad507.add ((x5_1).toNat * 6)).off+1,none⟩=some (.int .i64 ((qAJ l1 x5_1).f1.f0))∧w'.cell? ⟨(ad507.add ((x5_1).toNat * 6)).block,(ad507.add ((x5_1).toNat * 6)).off+2,none⟩=some (.int .i64 ((qAJ l1 x5_1).f1.f1))∧w'.cell? ⟨(ad507.add ((x5_1).toNat * 6)).block,(ad507.add ((x5_1).toNat * 6)).off+3,none⟩=some (.string ((qAJ l1 x5_1).f1.f2))∧w'.cell? ⟨(ad507.add ((x5_1).toNat * 6)).block,(ad507.add ((x5_1).toNat * 6)).off+4,none⟩=some (.slice A507_4 ((qAJ l1 x5_1).f1.f3).length c507_4)∧w'.cell? ⟨(ad507.add ((x5_1).toNat * 6)).block,(ad507.add ((x5_1).toNat * 6)).off+5,none⟩=some (.slice A507_5 ((qAJ l1 x5_1).f1.f4).length c507_5)) (ds:=[]) #[qF,qF,qF,qF,qF,qF,qF,qF,qF,qF,qF,qF] (by kernel_rfl) rfl rfl ⟨((HB.out.cell (qs4 w _ hw506_0)).trans hw506_0),((HB.out.cell (qs4 w _ hw506_1)).trans hw506_1),((HB.out.cell (qs4 w _ hw506_2)).trans hw506_2),((HB.out.cell (qs4 w _ hw506_3)).trans hw506_3),((HB.out.cell (qs4 w _ hw506_4)).trans hw506_4),((HB.out.cell (qs4 w _ hw506_5)).trans hw506_5),((HB.out.cell (qs4 w _ hw507_0)).trans hw507_0),((HB.out.cell (qs4 w _ hw507_1)).trans hw507_1),((HB.out.cell (qs4 w _ hw507_2)).trans hw507_2),((HB.out.cell (qs4 w _ hw507_3)).trans hw507_3),((HB.out.cell (qs4 w _ hw507_4)).trans hw507_4),((HB.out.cell (qs4 w _ hw507_5)).trans hw507_5)⟩ (fun hHeld => ?_);refine qBt qAM.tab6 qAM.bits6 (fun HT_ HW_ => ?_)
         generalize wr.drew=w10 at HB HR506_4 HR506_5 HR507_4 HR507_5 hx506_0 hx506_1 hx506_2 hx506_3 hx506_4 hx506_5 hx507_0 hx507_1 hx507_2 hx507_3 hx507_4 hx507_5 hHeld ⊢
         refine qAx (i:=0) (N:=some 18) (v := ?_) (a' := ?_) #[qT,qF,qF,qF,qF,qF,qF,qF,qF,qF,qF,qF] rfl rfl (qAm HT_.out (by kernel_rfl)) (fun _ _ _ h=>h) (Or.inl ⟨by rfl, ?_⟩) ?_ ?_
         rotate_left
         ·intro w'
          go_simp
          with_reducible rfl
         rotate_left
         ·simp only [Act.put,qs1,qs2,qs3,qAZ,qAb]
          rfl
         refine qAx (i:=1) (N:=some 19) (v := ?_) (a' := ?_) #[qT,qT,qF,qF,qF,qF,qF,qF,qF,qF,qF,qF] rfl rfl (qAm HT_.out (by kernel_rfl)) (fun _ _ _ h=>h) (Or.inl ⟨by rfl, ?_⟩) ?_ ?_
         rotate_left
         ·intro w'
          go_simp
          with_reducible rfl
         rotate_left
         ·simp only [Act.put,qs1,qs2,qs3,qAZ,qAb]
          rfl
         refine qAx (i:=2) (N:=some 20) (v := ?_) (a' := ?_) #[qT,qT,qT,qF,qF,qF,qF,qF,qF,qF,qF,qF] rfl rfl (qAm HT_.out (by kernel_rfl)) (fun _ _ _ h=>h) (Or.inl ⟨by rfl, ?_⟩) ?_ ?_
         rotate_left
         ·intro w'
          go_simp
          with_reducible rfl
         rotate_left
         ·simp only [Act.put,qs1,qs2,qs3,qAZ,qAb]
          rfl
         refine qAx (i:=3) (N:=some 21) (v := ?_) (a' := ?_) #[qT,qT,qT,qT,qF,qF,qF,qF,qF,qF,qF,qF] rfl rfl (qAm HT_.out (by kernel_rfl)) (fun _ _ _ h=>h) (Or.inl ⟨by rfl, ?_⟩) ?_ ?_
         rotate_left
         ·intro w'
          go_simp
          with_reducible rfl
         rotate_left
         ·simp only [Act.put,qs1,qs2,qs3,qAZ,qAb]
          rfl
         refine qAx (i:=5) (N:=some 23) (v := ?_) (a' := ?_) #[qT,qT,qT,qT,qF,qT,qF,qF,qF,qF,qF,qF] rfl rfl (qAm HT_.out (by kernel_rfl)) (fun _ _ _ h=>h) (Or.inl ⟨by rfl, ?_⟩) ?_ ?_
         rotate_left
         ·intro w'
          go_simp
          with_reducible rfl
         rotate_left
         ·simp only [Act.put,qs1,qs2,qs3,qAZ,qAb]
          rfl
         refine qAx (i:=6) (N:=some 24) (v := ?_) (a' := ?_) #[qT,qT,qT,qT,qF,qT,qT,qF,qF,qF,qF,qF] rfl rfl (qAm HT_.out (by kernel_rfl)) (fun _ _ _ h=>h) (Or.inl ⟨by rfl, ?_⟩) ?_ ?_
         rotate_left
         ·intro w'
          go_simp
          with_reducible rfl
         rotate_left
         ·simp only [Act.put,qs1,qs2,qs3,qAZ,qAb]
          rfl
         refine qAx (i:=7) (N:=some 25) (v := ?_) (a' := ?_) #[qT,qT,qT,qT,qF,qT,qT,qT,qF,qF,qF,qF] rfl rfl (qAm HT_.out (by kernel_rfl)) (fun _ _ _ h=>h) (Or.inl ⟨by rfl, ?_⟩) ?_ ?_
         rotate_left
         ·intro w'
          go_simp
          with_reducible rfl
         rotate_left
         ·simp only [Act.put,qs1,qs2,qs3,qAZ,qAb]
          rfl
         refine qAx (i:=8) (N:=some 26) (v := ?_) (a' := ?_) #[qT,qT,qT,qT,qF,qT,qT,qT,qT,qF,qF,qF] rfl rfl (qAm HT_.out (by kernel_rfl)) (fun _ _ _ h=>h) (Or.inl ⟨by rfl, ?_⟩) ?_ ?_
         rotate_left
         ·intro w'
          go_simp
          with_reducible rfl
         rotate_left
         ·simp only [Act.put,qs1,qs2,qs3,qAZ,qAb]
          rfl
         refine qBv (i:=4) (N:=some 22) (v := ?_) (a' := ?_) #[qT,qT,qT,qT,qT,qT,qT,qT,qT,qF,qF,qF] rfl rfl (qBA HT_.out HW_.out (by kernel_rfl)) (fun _ _ _ h=>h) (Or.inl ⟨by rfl, ?_⟩) hHeld ?_ ?_
         rotate_left
         ·rintro w' ⟨s0,s1,s2,s3,s4,s5,s6,s7,s8,s9,s10,s11⟩
          go_simp
          with_reducible rfl
         rotate_left
         ·simp only [Act.put,qs1,qs2,qs3,qAZ,qAb]
          rfl
         refine qBv (i:=9) (N:=some 27) (v := ?_) (a' := ?_) #[qT,qT,qT,qT,qT,qT,qT,qT,qT,qT,qF,qF] rfl rfl (qBA HT_.out HW_.out (by kernel_rfl)) (fun _ _ _ h=>h) (Or.inl ⟨by rfl, ?_⟩) hHeld ?_ ?_
         rotate_left
         ·rintro w' ⟨s0,s1,s2,s3,s4,s5,s6,s7,s8,s9,s10,s11⟩
          go_simp
          with_reducible rfl
         rotate_left
         ·simp only [Act.put,qs1,qs2,qs3,qAZ,qAb]
          rfl
         refine one_ (i:=10) (N:=some 28) #[qT,qT,qT,qT,qT,qT,qT,qT,qT,qT,qT,qF] rfl rfl (one_of HT_.out (by kernel_rfl)) (by decide) (fun K hK => ?_)
         refine qBZ Try.func33 (by kernel_rfl) rfl #[.agg #[.int .i64 ((qAJ l0 x5_1).f1.f0),.int .i64 ((qAJ l0 x5_1).f1.f1),.string ((qAJ l0 x5_1).f1.f2),.slice A506_4 ((qAJ l0 x5_1).f1.f3).length c506_4,.slice A506_5 ((qAJ l0 x5_1).f1.f4).length c506_5],.agg #[.int .i64 ((qAJ l1 x5_1).f1.f0),.int .i64 ((qAJ l1 x5_1).f1.f1),.string ((qAJ l1 x5_1).f1.f2),.slice A507_4 ((qAJ l1 x5_1).f1.f3).length c507_4,.slice A507_5 ((qAJ l1 x5_1).f1.f4).length c507_5]] (by rfl) rfl rfl (by (try simp only [List.map_toArray,List.map_cons,List.map_nil]);first | done | rfl | (simp only [List.length_drop,List.length_take];rfl)) ?_
         with_reducible refine (qAI.calls k1 ((qAJ l0 x5_1).f1.f0) ((qAJ l0 x5_1).f1.f1) ((qAJ l0 x5_1).f1.f2) _ _ ((qAJ l0 x5_1).f1.f3) _ _ ((qAJ l0 x5_1).f1.f4) ((qAJ l1 x5_1).f1.f0) ((qAJ l1 x5_1).f1.f1) ((qAJ l1 x5_1).f1.f2) _ _ ((qAJ l1 x5_1).f1.f3) _ _ ((qAJ l1 x5_1).f1.f4) true _ ?side1 ?side2 ?side3 ?side4 ?side5 ?side6 ?side7 ?side8 A7.out).mono ?_
         (case side1=>repeat (first | exact (Kd.qAc HR506_4.out HB.out) | (with_reducible refine Kd.qAh ?_ _) | (with_reducible refine Kd.qAk ?_ _) | (with_reducible refine Kd.qAs ?_)))
         (case side2=>exact HC506_4.out)
         (case side3=>repeat (first | exact (Kd.qAc HR506_5.out HB.out) | (with_reducible refine Kd.qAh ?_ _) | (with_reducible refine Kd.qAk ?_ _) | (with_reducible refine Kd.qAs ?_)))
         (case side4=>exact HC506_5.out)
         (case side5=>repeat (first | exact (Kd.qAc HR507_4.out HB.out) | (with_reducible refine Kd.qAh ?_ _) | (with_reducible refine Kd.qAk ?_ _) | (with_reducible refine Kd.qAs ?_)))
         (case side6=>exact HC507_4.out)
         (case side7=>repeat (first | exact (Kd.qAc HR507_5.out HB.out) | (with_reducible refine Kd.qAh ?_ _) | (with_reducible refine Kd.qAk ?_ _) | (with_reducible refine Kd.qAs ?_)))
         (case side8=>exact HC507_5.out)
         rintro e w11 ⟨rfl,hb⟩
         refine ⟨_,rfl, ?_⟩
         have n0_:=qAA.mk (qAO (by repeat (first | (with_reducible first | exact HB.out | apply qAE | apply qAD | apply qAF) | exact HB.out)) hb)
         clear HB
         have HB:=n0_
         clear n0_
         (try clear hb)
         (try clear hb2)
         (try clear hk)
         (try clear hi)
         refine hK.out _ _ ⟨((HB.out.cell (qs4 w _ hw506_0)).trans hw506_0),((HB.out.cell (qs4 w _ hw506_1)).trans hw506_1),((HB.out.cell (qs4 w _ hw506_2)).trans hw506_2),((HB.out.cell (qs4 w _ hw506_3)).trans hw506_3),((HB.out.cell (qs4 w _ hw506_4)).trans hw506_4),((HB.out.cell (qs4 w _ hw506_5)).trans hw506_5),((HB.out.cell (qs4 w _ hw507_0)).trans hw507_0),((HB.out.cell (qs4 w _ hw507_1)).trans hw507_1),((HB.out.cell (qs4 w _ hw507_2)).trans hw507_2),((HB.out.cell (qs4 w _ hw507_3)).trans hw507_3),((HB.out.cell (qs4 w _ hw507_4)).trans hw507_4),((HB.out.cell (qs4 w _ hw507_5)).trans hw507_5)⟩ (fun hHeld => ?_)
         clear hK K
         refine qA3 (a' := ?_) ?_ ?_
         rotate_left
         ·show Act.put _ (some 28) _=_
          simp only [Act.put,qs1,qs2,qs3,qAZ,qAb]
          rfl
         refine qAx (i:=11) (N:=some 6) (v := ?_) (a' := ?_) #[qT,qT,qT,qT,qT,qT,qT,qT,qT,qT,qT,qT] rfl rfl (qAm HT_.out (by kernel_rfl)) (fun _ _ _ h=>h) (Or.inl ⟨by rfl, ?_⟩) ?_ ?_
         rotate_left
         ·intro w'
          go_simp
          with_reducible rfl
         rotate_left
         ·simp only [Act.put,qs1,qs2,qs3,qAZ,qAb]
          rfl
         refine qBL (qCP HT_.out (by kernel_rfl)) ?_
         try go_wp2
         have n0_:=qAA.mk (qAF HB.out)
         clear HB
         have HB:=n0_
         clear n0_
         have p509:0≤(x5_1:Int):=of_decide_eq_true (by first | (with_reducible assumption) | assumption)
         have q509:x5_1 < (l0.length:Int):=of_decide_eq_true (by first | (with_reducible assumption) | assumption)
         obtain ⟨ad509,A509_4,c509_4,A509_5,c509_5,e509,hx509_0,hx509_1,hx509_2,hx509_3,hx509_4,hx509_5,hl509_4,hi509_4,hl509_5,hi509_5⟩:=qCI HR0.out x5_1 p509 q509
         have hw509_5:=hx509_5
         have hw509_4:=hx509_4
         have hw509_3:=hx509_3
         have hw509_2:=hx509_2
         have hw509_1:=hx509_1
         have hw509_0:=hx509_0
         obtain rfl:ad506=ad509:=(by injection e509)
         replace hx509_0:=(HB.out.cell (qs4 w _ hx509_0)).trans hx509_0
         replace hx509_1:=(HB.out.cell (qs4 w _ hx509_1)).trans hx509_1
         replace hx509_2:=(HB.out.cell (qs4 w _ hx509_2)).trans hx509_2
         replace hx509_3:=(HB.out.cell (qs4 w _ hx509_3)).trans hx509_3
         replace hx509_4:=(HB.out.cell (qs4 w _ hx509_4)).trans hx509_4
         replace hx509_5:=(HB.out.cell (qs4 w _ hx509_5)).trans hx509_5
         have HR509_4:=qAA.mk hi509_4
         have HC509_4:=qAA.mk hl509_4
         clear hi509_4 hl509_4
         have HR509_5:=qAA.mk hi509_5
         have HC509_5:=qAA.mk hl509_5
         clear hi509_5 hl509_5
         replace p509:=eq_true p509
         replace q509:=eq_true q509
         have p510:0≤(x5_1:Int):=of_decide_eq_true (by first | (with_reducible assumption) | assumption)
         have q510:x5_1 < (l1.length:Int):=of_decide_eq_true (by first | (with_reducible assumption) | assumption)
         obtain ⟨ad510,A510_4,c510_4,A510_5,c510_5,e510,hx510_0,hx510_1,hx510_2,hx510_3,hx510_4,hx510_5,hl510_4,hi510_4,hl510_5,hi510_5⟩:=qCI HR1.out x5_1 p510 q510
         have hw510_5:=hx510_5
         have hw510_4:=hx510_4
         have hw510_3:=hx510_3
         have hw510_2:=hx510_2
         have hw510_1:=hx510_1
         have hw510_0:=hx510_0
         obtain rfl:ad507=ad510:=(by injection e510)
         replace hx510_0:=(HB.out.cell (qs4 w _ hx510_0)).trans hx510_0
         replace hx510_1:=(HB.out.cell (qs4 w _ hx510_1)).trans hx510_1
         replace hx510_2:=(HB.out.cell (qs4 w _ hx510_2)).trans hx510_2
         replace hx510_3:=(HB.out.cell (qs4 w _ hx510_3)).trans hx510_3
         replace hx510_4:=(HB.out.cell (qs4 w _ hx510_4)).trans hx510_4
         replace hx510_5:=(HB.out.cell (qs4 w _ hx510_5)).trans hx510_5
         have HR510_4:=qAA.mk hi510_4
         have HC510_4:=qAA.mk hl510_4
         clear hi510_4 hl510_4
         have HR510_5:=qAA.mk hi510_5
         have HC510_5:=qAA.mk hl510_5
         clear hi510_5 hl510_5
         replace p510:=eq_true p510
         replace q510:=eq_true q510
         refine qAz (n:=15) (S:=fun w'=>w'.cell? (ad506.add ((x5_1).toNat * 6))=some (.string ((qAJ l0 x5_1).f0))∧w'.cell? ⟨(ad506.add ((x5_1).toNat * 6)).block,(ad506.add ((x5_1).toNat * 6)).off+1,none⟩=some (.int .i64 ((qAJ l0 x5_1).f1.f0))∧w'.cell? ⟨(ad506.add ((x5_1).toNat * 6)).block,(ad506.add ((x5_1).toNat * 6)).off+2,none⟩=some (.int .i64 ((qAJ l0 x5_1).f1.f1))∧w'.cell? ⟨(ad506.add ((x5_1).toNat * 6)).block,(ad506.add ((x5_1).toNat * 6)).off+3,none⟩=some (.string ((qAJ l0 x5_1).f1.f2))∧w'.cell? ⟨(ad506.add ((x5_1).toNat * 6)).block,(ad506.add ((x5_1).toNat * 6)).off+4,none⟩=some (.slice A509_4 ((qAJ l0 x5_1).f1.f3).length c509_4)∧w'.cell? ⟨(ad506.add ((x5_1).toNat * 6)).block,(ad506.add ((x5_1).toNat * 6)).off+5,none⟩=some (.slice A509_5 ((qAJ l0 x5_1).f1.f4).length c509_5)∧w'.cell? (ad507.add ((x5_1).toNat * 6))=some (.string ((qAJ l1 x5_1).f0))∧w'.cell? ⟨(ad507.add ((x5_1).toNat * 6)).block,(ad507.add ((x5_1).toNat * 6)).off+1,none⟩=some (.int .i64 ((qAJ l1 x5_1).f1.f0))∧w'.cell? ⟨(ad507.add ((x5_1).toNat * 6)).block,(ad507.add ((x5_1).toNat * 6)).off+2,none⟩=some (.int .i64 ((qAJ l1 x5_1).f1.f1))∧w'.cell? ⟨(ad507.add ((x5_1).toNat * 6)).block,(ad507.add ((x5_1).toNat * 6)).off+3,none⟩=some (.string ((qAJ l1 x5_1).f1.f2))∧w'.cell? ⟨(ad507.add ((x5_1).toNat * 6)).block,(ad507.add ((x5_1).toNat * 6)).off+4,none⟩=some (.slice A510_4 ((qAJ l1 x5_1).f1.f3).length c510_4)∧w'.cell? ⟨(ad507.add ((x5_1).toNat * 6)).block,(ad507.add ((x5_1).toNat * 6)).off+5,none⟩=some (.slice A510_5 ((qAJ l1 x5_1).f1.f4).length c510_5)) (ds:=[]) #[qF,qF,qF,qF,qF,qF,qF,qF,qF,qF,qF,qF,qF,qF,qF] (by kernel_rfl) rfl rfl ⟨((HB.out.cell (qs4 w _ hw509_0)).trans hw509_0),((HB.out.cell (qs4 w _ hw509_1)).trans hw509_1),((HB.out.cell (qs4 w _ hw509_2)).trans hw509_2),((HB.out.cell (qs4 w _ hw509_3)).trans hw509_3),((HB.out.cell (qs4 w _ hw509_4)).trans hw509_4),((HB.out.cell (qs4 w _ hw509_5)).trans hw509_5),((HB.out.cell (qs4 w _ hw510_0)).trans hw510_0),((HB.out.cell (qs4 w _ hw510_1)).trans hw510_1),((HB.out.cell (qs4 w _ hw510_2)).trans hw510_2),((HB.out.cell (qs4 w _ hw510_3)).trans hw510_3),((HB.out.cell (qs4 w _ hw510_4)).trans hw510_4),((HB.out.cell (qs4 w _ hw510_5)).trans hw510_5)⟩ (fun hHeld => ?_);refine qBt qAM.tab7 qAM.bits7 (fun HT_ HW_ => ?_)
         generalize w11.drew=w12 at HB HR509_4 HR509_5 HR510_4 HR510_5 hx509_0 hx509_1 hx509_2 hx509_3 hx509_4 hx509_5 hx510_0 hx510_1 hx510_2 hx510_3 hx510_4 hx510_5 hHeld ⊢
         refine qAx (i:=0) (N:=some 29) (v := ?_) (a' := ?_) #[qT,qF,qF,qF,qF,qF,qF,qF,qF,qF,qF,qF,qF,qF,qF] rfl rfl (qAm HT_.out (by kernel_rfl)) (fun _ _ _ h=>h) (Or.inl ⟨by rfl, ?_⟩) ?_ ?_
         rotate_left
         ·intro w'
          go_simp
          with_reducible rfl
         rotate_left
         ·simp only [Act.put,qs1,qs2,qs3,qAZ,qAb]
          rfl
         refine qAx (i:=1) (N:=some 30) (v := ?_) (a' := ?_) #[qT,qT,qF,qF,qF,qF,qF,qF,qF,qF,qF,qF,qF,qF,qF] rfl rfl (qAm HT_.out (by kernel_rfl)) (fun _ _ _ h=>h) (Or.inl ⟨by rfl, ?_⟩) ?_ ?_
         rotate_left
         ·intro w'
          go_simp
          with_reducible rfl
         rotate_left
         ·simp only [Act.put,qs1,qs2,qs3,qAZ,qAb]
          rfl
         refine qAx (i:=2) (N:=some 31) (v := ?_) (a' := ?_) #[qT,qT,qT,qF,qF,qF,qF,qF,qF,qF,qF,qF,qF,qF,qF] rfl rfl (qAm HT_.out (by kernel_rfl)) (fun _ _ _ h=>h) (Or.inl ⟨by rfl, ?_⟩) ?_ ?_
         rotate_left
         ·intro w'
          go_simp
          with_reducible rfl
         rotate_left
         ·simp only [Act.put,qs1,qs2,qs3,qAZ,qAb]
          rfl
         refine qAx (i:=3) (N:=some 32) (v := ?_) (a' := ?_) #[qT,qT,qT,qT,qF,qF,qF,qF,qF,qF,qF,qF,qF,qF,qF] rfl rfl (qAm HT_.out (by kernel_rfl)) (fun _ _ _ h=>h) (Or.inl ⟨by rfl, ?_⟩) ?_ ?_
         rotate_left
         ·intro w'
          go_simp
          with_reducible rfl
         rotate_left
         ·simp only [Act.put,qs1,qs2,qs3,qAZ,qAb]
          rfl
         refine qAx (i:=4) (N:=some 33) (v := ?_) (a' := ?_) #[qT,qT,qT,qT,qT,qF,qF,qF,qF,qF,qF,qF,qF,qF,qF] rfl rfl (qAm HT_.out (by kernel_rfl)) (fun _ _ _ h=>h) (Or.inl ⟨by rfl, ?_⟩) ?_ ?_
         rotate_left
         ·intro w'
          go_simp
          with_reducible rfl
         rotate_left
         ·simp only [Act.put,qs1,qs2,qs3,qAZ,qAb]
          rfl
         refine qAx (i:=5) (N:=some 34) (v := ?_) (a' := ?_) #[qT,qT,qT,qT,qT,qT,qF,qF,qF,qF,qF,qF,qF,qF,qF] rfl rfl (qAm HT_.out (by kernel_rfl)) (fun _ _ _ h=>h) (Or.inl ⟨by rfl, ?_⟩) ?_ ?_
         rotate_left
         ·intro w'
          go_simp
          with_reducible rfl
         rotate_left
         ·simp only [Act.put,qs1,qs2,qs3,qAZ,qAb]
          rfl
         refine qAx (i:=6) (N:=some 35) (v := ?_) (a' := ?_) #[qT,qT,qT,qT,qT,qT,qT,qF,qF,qF,qF,qF,qF,qF,qF] rfl rfl (qAm HT_.out (by kernel_rfl)) (fun _ _ _ h=>h) (Or.inl ⟨by rfl, ?_⟩) ?_ ?_
         rotate_left
         ·intro w'
          go_simp
          with_reducible rfl
         rotate_left
         ·simp only [Act.put,qs1,qs2,qs3,qAZ,qAb]
          rfl
         refine qAx (i:=8) (N:=some 37) (v := ?_) (a' := ?_) #[qT,qT,qT,qT,qT,qT,qT,qF,qT,qF,qF,qF,qF,qF,qF] rfl rfl (qAm HT_.out (by kernel_rfl)) (fun _ _ _ h=>h) (Or.inl ⟨by rfl, ?_⟩) ?_ ?_
         rotate_left
         ·intro w'
          go_simp
          with_reducible rfl
         rotate_left
         ·simp only [Act.put,qs1,qs2,qs3,qAZ,qAb]
          rfl
         refine qAx (i:=9) (N:=some 38) (v := ?_) (a' := ?_) #[qT,qT,qT,qT,qT,qT,qT,qF,qT,qT,qF,qF,qF,qF,qF] rfl rfl (qAm HT_.out (by kernel_rfl)) (fun _ _ _ h=>h) (Or.inl ⟨by rfl, ?_⟩) ?_ ?_
         rotate_left
         ·intro w'
          go_simp
          with_reducible rfl
         rotate_left
         ·simp only [Act.put,qs1,qs2,qs3,qAZ,qAb]
          rfl
         refine qAx (i:=10) (N:=some 39) (v := ?_) (a' := ?_) #[qT,qT,qT,qT,qT,qT,qT,qF,qT,qT,qT,qF,qF,qF,qF] rfl rfl (qAm HT_.out (by kernel_rfl)) (fun _ _ _ h=>h) (Or.inl ⟨by rfl, ?_⟩) ?_ ?_
         rotate_left
         ·intro w'
          go_simp
          with_reducible rfl
         rotate_left
         ·simp only [Act.put,qs1,qs2,qs3,qAZ,qAb]
          rfl
         refine qAx (i:=11) (N:=some 40) (v := ?_) (a' := ?_) #[qT,qT,qT,qT,qT,qT,qT,qF,qT,qT,qT,qT,qF,qF,qF] rfl rfl (qAm HT_.out (by kernel_rfl)) (fun _ _ _ h=>h) (Or.inl ⟨by rfl, ?_⟩) ?_ ?_
         rotate_left
         ·intro w'
          go_simp
          with_reducible rfl
         rotate_left
         ·simp only [Act.put,qs1,qs2,qs3,qAZ,qAb]
          rfl
         refine qBv (i:=7) (N:=some 36) (v := ?_) (a' := ?_) #[qT,qT,qT,qT,qT,qT,qT,qT,qT,qT,qT,qT,qF,qF,qF] rfl rfl (qBA HT_.out HW_.out (by kernel_rfl)) (fun _ _ _ h=>h) (Or.inl ⟨by rfl, ?_⟩) hHeld ?_ ?_
         rotate_left
         ·rintro w' ⟨s0,s1,s2,s3,s4,s5,s6,s7,s8,s9,s10,s11⟩
          go_simp
          with_reducible rfl
         rotate_left
         ·simp only [Act.put,qs1,qs2,qs3,qAZ,qAb]
          rfl
         refine qBv (i:=12) (N:=some 41) (v := ?_) (a' := ?_) #[qT,qT,qT,qT,qT,qT,qT,qT,qT,qT,qT,qT,qT,qF,qF] rfl rfl (qBA HT_.out HW_.out (by kernel_rfl)) (fun _ _ _ h=>h) (Or.inl ⟨by rfl, ?_⟩) hHeld ?_ ?_
         rotate_left
         ·rintro w' ⟨s0,s1,s2,s3,s4,s5,s6,s7,s8,s9,s10,s11⟩
          go_simp
          with_reducible rfl
         rotate_left
         ·simp only [Act.put,qs1,qs2,qs3,qAZ,qAb]
          rfl
         refine qAx (i:=13) (N:=some 42) (v := ?_) (a' := ?_) #[qT,qT,qT,qT,qT,qT,qT,qT,qT,qT,qT,qT,qT,qT,qF] rfl rfl (qAm HT_.out (by kernel_rfl)) (fun _ _ _ h=>h) (Or.inl ⟨by rfl, ?_⟩) ?_ ?_
         rotate_left
         ·intro w'
          go_simp
          with_reducible rfl
         rotate_left
         ·simp only [Act.put,qs1,qs2,qs3,qAZ,qAb]
          rfl
         refine qAx (i:=14) (N:=some 43) (v := ?_) (a' := ?_) #[qT,qT,qT,qT,qT,qT,qT,qT,qT,qT,qT,qT,qT,qT,qT] rfl rfl (qAm HT_.out (by kernel_rfl)) (fun _ _ _ h=>h) (Or.inl ⟨by rfl, ?_⟩) ?_ ?_
         rotate_left
         ·intro w'
          go_simp
          with_reducible rfl
         rotate_left
         ·simp only [Act.put,qs1,qs2,qs3,qAZ,qAb]
          rfl
         refine qBL (qCP HT_.out (by kernel_rfl)) ?_
         try go_wp2
         go_roundg k1
         case measure=>have:=HK1.out;omega
         case rel=>exact ⟨(wrap64 (x5_1+1)),(by first | rfl | (simp;done) | (simp [*];done)),H',⟨by have:=HK1.out;omega⟩,⟨by repeat (first | (with_reducible first | exact HB.out | apply qAE | apply qAD | apply qAF) | exact HB.out)⟩⟩
        ·rw [if_neg c9] at H
         have c9b0:(((qAJ l0 x5_1).f0).toList == ((qAJ l1 x5_1).f0).toList)=false:=beq_eq_false_iff_ne.mpr c9
         have c9b1:(((qAJ l0 x5_1).f0).toList != ((qAJ l1 x5_1).f0).toList)=true:=bne_iff_ne.mpr c9
         obtain rfl:=Option.some.inj H
         simp only [Option.some.injEq,Prod.mk.injEq] at H
         obtain ⟨rfl⟩:=H
         try go_wp2
         have n0_:=qAA.mk (qAF HB.out)
         clear HB
         have HB:=n0_
         clear n0_
         have p506:0≤(x5_1:Int):=of_decide_eq_true (by first | (with_reducible assumption) | assumption)
         have q506:x5_1 < (l0.length:Int):=of_decide_eq_true (by first | (with_reducible assumption) | assumption)
         obtain ⟨ad506,A506_4,c506_4,A506_5,c506_5,e506,hx506_0,hx506_1,hx506_2,hx506_3,hx506_4,hx506_5,hl506_4,hi506_4,hl506_5,hi506_5⟩:=qCI HR0.out x5_1 p506 q506
         have hw506_5:=hx506_5
         have hw506_4:=hx506_4
         have hw506_3:=hx506_3
         have hw506_2:=hx506_2
         have hw506_1:=hx506_1
         have hw506_0:=hx506_0
         cases e506
         replace hx506_0:=(HB.out.cell (qs4 w _ hx506_0)).trans hx506_0
         replace hx506_1:=(HB.out.cell (qs4 w _ hx506_1)).trans hx506_1
         replace hx506_2:=(HB.out.cell (qs4 w _ hx506_2)).trans hx506_2
         replace hx506_3:=(HB.out.cell (qs4 w _ hx506_3)).trans hx506_3
         replace hx506_4:=(HB.out.cell (qs4 w _ hx506_4)).trans hx506_4
         replace hx506_5:=(HB.out.cell (qs4 w _ hx506_5)).trans hx506_5
         have HR506_4:=qAA.mk hi506_4
         have HC506_4:=qAA.mk hl506_4
         clear hi506_4 hl506_4
         have HR506_5:=qAA.mk hi506_5
         have HC506_5:=qAA.mk hl506_5
         clear hi506_5 hl506_5
         replace p506:=eq_true p506
         replace q506:=eq_true q506
         have p507:0≤(x5_1:Int):=of_decide_eq_true (by first | (with_reducible assumption) | assumption)
         have q507:x5_1 < (l1.length:Int):=of_decide_eq_true (by first | (with_reducible assumption) | assumption)
         obtain ⟨ad507,A507_4,c507_4,A507_5,c507_5,e507,hx507_0,hx507_1,hx507_2,hx507_3,hx507_4,hx507_5,hl507_4,hi507_4,hl507_5,hi507_5⟩:=qCI HR1.out x5_1 p507 q507
         have hw507_5:=hx507_5
         have hw507_4:=hx507_4
         have hw507_3:=hx507_3
         have hw507_2:=hx507_2
         have hw507_1:=hx507_1
         have hw507_0:=hx507_0
         cases e507
         replace hx507_0:=(HB.out.cell (qs4 w _ hx507_0)).trans hx507_0
         replace hx507_1:=(HB.out.cell (qs4 w _ hx507_1)).trans hx507_1
         replace hx507_2:=(HB.out.cell (qs4 w _ hx507_2)).trans hx507_2
         replace hx507_3:=(HB.out.cell (qs4 w _ hx507_3)).trans hx507_3
         replace hx507_4:=(HB.out.cell (qs4 w _ hx507_4)).trans hx507_4
         replace hx507_5:=(HB.out.cell (qs4 w _ hx507_5)).trans hx507_5
         have HR507_4:=qAA.mk hi507_4
         have HC507_4:=qAA.mk hl507_4
         clear hi507_4 hl507_4
         have HR507_5:=qAA.mk hi507_5
         have HC507_5:=qAA.mk hl507_5
         clear hi507_5 hl507_5
         replace p507:=eq_true p507
         replace q507:=eq_true q507
         refine qAz (n:=12) (S:=fun w'=>w'.cell? (ad506.add ((x5_1).toNat * 6))=some (.string ((qAJ l0 x5_1).f0))∧w'.cell? ⟨(ad506.add ((x5_1).toNat * 6)).block,(ad506.add ((x5_1).toNat * 6)).off+1,none⟩=some (.int .i64 ((qAJ l0 x5_1).f1.f0))∧w'.cell? ⟨(ad506.add ((x5_1).toNat * 6)).block,(ad506.add ((x5_1).toNat * 6)).off+2,none⟩=some (.int .i64 ((qAJ l0 x5_1).f1.f1))∧w'.cell? ⟨(ad506.add ((x5_1).toNat * 6)).block,(ad506.add ((x5_1).toNat * 6)).off+3,none⟩=some (.string ((qAJ l0 x5_1).f1.f2))∧w'.cell? ⟨(ad506.add ((x5_1).toNat * 6)).block,(ad506.add ((x5_1).toNat * 6)).off+4,none⟩=some (.slice A506_4 ((qAJ l0 x5_1).f1.f3).length c506_4)∧w'.cell? ⟨(ad506.add ((x5_1).toNat * 6)).block,(ad506.add ((x5_1).toNat * 6)).off+5,none⟩=some (.slice A506_5 ((qAJ l0 x5_1).f1.f4).length c506_5)∧w'.cell? (ad507.add ((x5_1).toNat * 6))=some (.string ((qAJ l1 x5_1).f0))∧w'.cell? ⟨(ad507.add ((x5_1).toNat * 6)).block,(ad507.add ((x5_1).toNat * 6)).off+1,none⟩=some (.int .i64 ((qAJ l1 x5_1).f1.f0))∧w'.cell? ⟨(ad507.add ((x5_1).toNat * 6)).block,(ad507.add ((x5_1).toNat * 6)).off+2,none⟩=some (.int .i64 ((qAJ l1 x5_1).f1.f1))∧w'.cell? ⟨(ad507.add ((x5_1).toNat * 6)).block,(ad507.add ((x5_1).toNat * 6)).off+3,none⟩=some (.string ((qAJ l1 x5_1).f1.f2))∧w'.cell? ⟨(ad507.add ((x5_1).toNat * 6)).block,(ad507.add ((x5_1).toNat * 6)).off+4,none⟩=some (.slice A507_4 ((qAJ l1 x5_1).f1.f3).length c507_4)∧w'.cell? ⟨(ad507.add ((x5_1).toNat * 6)).block,(ad507.add ((x5_1).toNat * 6)).off+5,none⟩=some (.slice A507_5 ((qAJ l1 x5_1).f1.f4).length c507_5)) (ds:=[]) #[qF,qF,qF,qF,qF,qF,qF,qF,qF,qF,qF,qF] (by kernel_rfl) rfl rfl ⟨((HB.out.cell (qs4 w _ hw506_0)).trans hw506_0),((HB.out.cell (qs4 w _ hw506_1)).trans hw506_1),((HB.out.cell (qs4 w _ hw506_2)).trans hw506_2),((HB.out.cell (qs4 w _ hw506_3)).trans hw506_3),((HB.out.cell (qs4 w _ hw506_4)).trans hw506_4),((HB.out.cell (qs4 w _ hw506_5)).trans hw506_5),((HB.out.cell (qs4 w _ hw507_0)).trans hw507_0),((HB.out.cell (qs4 w _ hw507_1)).trans hw507_1),((HB.out.cell (qs4 w _ hw507_2)).trans hw507_2),((HB.out.cell (qs4 w _ hw507_3)).trans hw507_3),((HB.out.cell (qs4 w _ hw507_4)).trans hw507_4),((HB.out.cell (qs4 w _ hw507_5)).trans hw507_5)⟩ (fun hHeld => ?_);refine qBt qAM.tab6 qAM.bits6 (fun HT_ HW_ => ?_)
         generalize wr.drew=w13 at HB HR506_4 HR506_5 HR507_4 HR507_5 hx506_0 hx506_1 hx506_2 hx506_3 hx506_4 hx506_5 hx507_0 hx507_1 hx507_2 hx507_3 hx507_4 hx507_5 hHeld ⊢
         refine qAx (i:=0) (N:=some 18) (v := ?_) (a' := ?_) #[qT,qF,qF,qF,qF,qF,qF,qF,qF,qF,qF,qF] rfl rfl (qAm HT_.out (by kernel_rfl)) (fun _ _ _ h=>h) (Or.inl ⟨by rfl, ?_⟩) ?_ ?_
         rotate_left
         ·intro w'
          go_simp
          with_reducible rfl
         rotate_left
         ·simp only [Act.put,qs1,qs2,qs3,qAZ,qAb]
          rfl
         refine qAx (i:=1) (N:=some 19) (v := ?_) (a' := ?_) #[qT,qT,qF,qF,qF,qF,qF,qF,qF,qF,qF,qF] rfl rfl (qAm HT_.out (by kernel_rfl)) (fun _ _ _ h=>h) (Or.inl ⟨by rfl, ?_⟩) ?_ ?_
         rotate_left
         ·intro w'
          go_simp
          with_reducible rfl
         rotate_left
         ·simp only [Act.put,qs1,qs2,qs3,qAZ,qAb]
          rfl
         refine qAx (i:=2) (N:=some 20) (v := ?_) (a' := ?_) #[qT,qT,qT,qF,qF,qF,qF,qF,qF,qF,qF,qF] rfl rfl (qAm HT_.out (by kernel_rfl)) (fun _ _ _ h=>h) (Or.inl ⟨by rfl, ?_⟩) ?_ ?_
         rotate_left
         ·intro w'
          go_simp
          with_reducible rfl
         rotate_left
         ·simp only [Act.put,qs1,qs2,qs3,qAZ,qAb]
          rfl
         refine qAx (i:=3) (N:=some 21) (v := ?_) (a' := ?_) #[qT,qT,qT,qT,qF,qF,qF,qF,qF,qF,qF,qF] rfl rfl (qAm HT_.out (by kernel_rfl)) (fun _ _ _ h=>h) (Or.inl ⟨by rfl, ?_⟩) ?_ ?_
         rotate_left
         ·intro w'
          go_simp
          with_reducible rfl
         rotate_left
         ·simp only [Act.put,qs1,qs2,qs3,qAZ,qAb]
          rfl
         refine qAx (i:=5) (N:=some 23) (v := ?_) (a' := ?_) #[qT,qT,qT,qT,qF,qT,qF,qF,qF,qF,qF,qF] rfl rfl (qAm HT_.out (by kernel_rfl)) (fun _ _ _ h=>h) (Or.inl ⟨by rfl, ?_⟩) ?_ ?_
         rotate_left
         ·intro w'
          go_simp
          with_reducible rfl
         rotate_left
         ·simp only [Act.put,qs1,qs2,qs3,qAZ,qAb]
          rfl
         refine qAx (i:=6) (N:=some 24) (v := ?_) (a' := ?_) #[qT,qT,qT,qT,qF,qT,qT,qF,qF,qF,qF,qF] rfl rfl (qAm HT_.out (by kernel_rfl)) (fun _ _ _ h=>h) (Or.inl ⟨by rfl, ?_⟩) ?_ ?_
         rotate_left
         ·intro w'
          go_simp
          with_reducible rfl
         rotate_left
         ·simp only [Act.put,qs1,qs2,qs3,qAZ,qAb]
          rfl
         refine qAx (i:=7) (N:=some 25) (v := ?_) (a' := ?_) #[qT,qT,qT,qT,qF,qT,qT,qT,qF,qF,qF,qF] rfl rfl (qAm HT_.out (by kernel_rfl)) (fun _ _ _ h=>h) (Or.inl ⟨by rfl, ?_⟩) ?_ ?_
         rotate_left
         ·intro w'
          go_simp
          with_reducible rfl
         rotate_left
         ·simp only [Act.put,qs1,qs2,qs3,qAZ,qAb]
          rfl
         refine qAx (i:=8) (N:=some 26) (v := ?_) (a' := ?_) #[qT,qT,qT,qT,qF,qT,qT,qT,qT,qF,qF,qF] rfl rfl (qAm HT_.out (by kernel_rfl)) (fun _ _ _ h=>h) (Or.inl ⟨by rfl, ?_⟩) ?_ ?_
         rotate_left
         ·intro w'
          go_simp
          with_reducible rfl
         rotate_left
         ·simp only [Act.put,qs1,qs2,qs3,qAZ,qAb]
          rfl
         refine qBv (i:=4) (N:=some 22) (v := ?_) (a' := ?_) #[qT,qT,qT,qT,qT,qT,qT,qT,qT,qF,qF,qF] rfl rfl (qBA HT_.out HW_.out (by kernel_rfl)) (fun _ _ _ h=>h) (Or.inl ⟨by rfl, ?_⟩) hHeld ?_ ?_
         rotate_left
         ·rintro w' ⟨s0,s1,s2,s3,s4,s5,s6,s7,s8,s9,s10,s11⟩
          go_simp
          with_reducible rfl
         rotate_left
         ·simp only [Act.put,qs1,qs2,qs3,qAZ,qAb]
          rfl
         refine qBv (i:=9) (N:=some 27) (v := ?_) (a' := ?_) #[qT,qT,qT,qT,qT,qT,qT,qT,qT,qT,qF,qF] rfl rfl (qBA HT_.out HW_.out (by kernel_rfl)) (fun _ _ _ h=>h) (Or.inl ⟨by rfl, ?_⟩) hHeld ?_ ?_
         rotate_left
         ·rintro w' ⟨s0,s1,s2,s3,s4,s5,s6,s7,s8,s9,s10,s11⟩
          go_simp
          with_reducible rfl
         rotate_left
         ·simp only [Act.put,qs1,qs2,qs3,qAZ,qAb]
          rfl
         refine one_ (i:=10) (N:=some 28) #[qT,qT,qT,qT,qT,qT,qT,qT,qT,qT,qT,qF] rfl rfl (one_of HT_.out (by kernel_rfl)) (by decide) (fun K hK => ?_)
         refine qBZ Try.func33 (by kernel_rfl) rfl #[.agg #[.int .i64 ((qAJ l0 x5_1).f1.f0),.int .i64 ((qAJ l0 x5_1).f1.f1),.string ((qAJ l0 x5_1).f1.f2),.slice A506_4 ((qAJ l0 x5_1).f1.f3).length c506_4,.slice A506_5 ((qAJ l0 x5_1).f1.f4).length c506_5],.agg #[.int .i64 ((qAJ l1 x5_1).f1.f0),.int .i64 ((qAJ l1 x5_1).f1.f1),.string ((qAJ l1 x5_1).f1.f2),.slice A507_4 ((qAJ l1 x5_1).f1.f3).length c507_4,.slice A507_5 ((qAJ l1 x5_1).f1.f4).length c507_5]] (by rfl) rfl rfl (by (try simp only [List.map_toArray,List.map_cons,List.map_nil]);first | done | rfl | (simp only [List.length_drop,List.length_take];rfl)) ?_
         with_reducible refine (qAI.calls k1 ((qAJ l0 x5_1).f1.f0) ((qAJ l0 x5_1).f1.f1) ((qAJ l0 x5_1).f1.f2) _ _ ((qAJ l0 x5_1).f1.f3) _ _ ((qAJ l0 x5_1).f1.f4) ((qAJ l1 x5_1).f1.f0) ((qAJ l1 x5_1).f1.f1) ((qAJ l1 x5_1).f1.f2) _ _ ((qAJ l1 x5_1).f1.f3) _ _ ((qAJ l1 x5_1).f1.f4) true _ ?side1 ?side2 ?side3 ?side4 ?side5 ?side6 ?side7 ?side8 A7.out).mono ?_
         (case side1=>repeat (first | exact (Kd.qAc HR506_4.out HB.out) | (with_reducible refine Kd.qAh ?_ _) | (with_reducible refine Kd.qAk ?_ _) | (with_reducible refine Kd.qAs ?_)))
         (case side2=>exact HC506_4.out)
         (case side3=>repeat (first | exact (Kd.qAc HR506_5.out HB.out) | (with_reducible refine Kd.qAh ?_ _) | (with_reducible refine Kd.qAk ?_ _) | (with_reducible refine Kd.qAs ?_)))
         (case side4=>exact HC506_5.out)
         (case side5=>repeat (first | exact (Kd.qAc HR507_4.out HB.out) | (with_reducible refine Kd.qAh ?_ _) | (with_reducible refine Kd.qAk ?_ _) | (with_reducible refine Kd.qAs ?_)))
         (case side6=>exact HC507_4.out)
         (case side7=>repeat (first | exact (Kd.qAc HR507_5.out HB.out) | (with_reducible refine Kd.qAh ?_ _) | (with_reducible refine Kd.qAk ?_ _) | (with_reducible refine Kd.qAs ?_)))
         (case side8=>exact HC507_5.out)
         rintro e w14 ⟨rfl,hb⟩
         refine ⟨_,rfl, ?_⟩
         have n0_:=qAA.mk (qAO (by repeat (first | (with_reducible first | exact HB.out | apply qAE | apply qAD | apply qAF) | exact HB.out)) hb)
         clear HB
         have HB:=n0_
         clear n0_
         (try clear hb)
         (try clear hb2)
         (try clear hk)
         (try clear hi)
         refine hK.out _ _ ⟨((HB.out.cell (qs4 w _ hw506_0)).trans hw506_0),((HB.out.cell (qs4 w _ hw506_1)).trans hw506_1),((HB.out.cell (qs4 w _ hw506_2)).trans hw506_2),((HB.out.cell (qs4 w _ hw506_3)).trans hw506_3),((HB.out.cell (qs4 w _ hw506_4)).trans hw506_4),((HB.out.cell (qs4 w _ hw506_5)).trans hw506_5),((HB.out.cell (qs4 w _ hw507_0)).trans hw507_0),((HB.out.cell (qs4 w _ hw507_1)).trans hw507_1),((HB.out.cell (qs4 w _ hw507_2)).trans hw507_2),((HB.out.cell (qs4 w _ hw507_3)).trans hw507_3),((HB.out.cell (qs4 w _ hw507_4)).trans hw507_4),((HB.out.cell (qs4 w _ hw507_5)).trans hw507_5)⟩ (fun hHeld => ?_)
         clear hK K
         refine qA3 (a' := ?_) ?_ ?_
         rotate_left
         ·show Act.put _ (some 28) _=_
          simp only [Act.put,qs1,qs2,qs3,qAZ,qAb]
          rfl
         refine qAx (i:=11) (N:=some 6) (v := ?_) (a' := ?_) #[qT,qT,qT,qT,qT,qT,qT,qT,qT,qT,qT,qT] rfl rfl (qAm HT_.out (by kernel_rfl)) (fun _ _ _ h=>h) (Or.inl ⟨by rfl, ?_⟩) ?_ ?_
         rotate_left
         ·intro w'
          go_simp
          with_reducible rfl
         rotate_left
         ·simp only [Act.put,qs1,qs2,qs3,qAZ,qAb]
          rfl
         refine qBL (qCP HT_.out (by kernel_rfl)) ?_
         try go_wp2
         have n0_:=qAA.mk (qAF HB.out)
         clear HB
         have HB:=n0_
         clear n0_
         have p509:0≤(x5_1:Int):=of_decide_eq_true (by first | (with_reducible assumption) | assumption)
         have q509:x5_1 < (l0.length:Int):=of_decide_eq_true (by first | (with_reducible assumption) | assumption)
         obtain ⟨ad509,A509_4,c509_4,A509_5,c509_5,e509,hx509_0,hx509_1,hx509_2,hx509_3,hx509_4,hx509_5,hl509_4,hi509_4,hl509_5,hi509_5⟩:=qCI HR0.out x5_1 p509 q509
         have hw509_5:=hx509_5
         have hw509_4:=hx509_4
         have hw509_3:=hx509_3
         have hw509_2:=hx509_2
         have hw509_1:=hx509_1
         have hw509_0:=hx509_0
         obtain rfl:ad506=ad509:=(by injection e509)
         replace hx509_0:=(HB.out.cell (qs4 w _ hx509_0)).trans hx509_0
         replace hx509_1:=(HB.out.cell (qs4 w _ hx509_1)).trans hx509_1
         replace hx509_2:=(HB.out.cell (qs4 w _ hx509_2)).trans hx509_2
         replace hx509_3:=(HB.out.cell (qs4 w _ hx509_3)).trans hx509_3
         replace hx509_4:=(HB.out.cell (qs4 w _ hx509_4)).trans hx509_4
         replace hx509_5:=(HB.out.cell (qs4 w _ hx509_5)).trans hx509_5
         have HR509_4:=qAA.mk hi509_4
         have HC509_4:=qAA.mk hl509_4
         clear hi509_4 hl509_4
         have HR509_5:=qAA.mk hi509_5
         have HC509_5:=qAA.mk hl509_5
         clear hi509_5 hl509_5
         replace p509:=eq_true p509
         replace q509:=eq_true q509
         have p510:0≤(x5_1:Int):=of_decide_eq_true (by first | (with_reducible assumption) | assumption)
         have q510:x5_1 < (l1.length:Int):=of_decide_eq_true (by first | (with_reducible assumption) | assumption)
         obtain ⟨ad510,A510_4,c510_4,A510_5,c510_5,e510,hx510_0,hx510_1,hx510_2,hx510_3,hx510_4,hx510_5,hl510_4,hi510_4,hl510_5,hi510_5⟩:=qCI HR1.out x5_1 p510 q510
         have hw510_5:=hx510_5
         have hw510_4:=hx510_4
         have hw510_3:=hx510_3
         have hw510_2:=hx510_2
         have hw510_1:=hx510_1
         have hw510_0:=hx510_0
         obtain rfl:ad507=ad510:=(by injection e510)
         replace hx510_0:=(HB.out.cell (qs4 w _ hx510_0)).trans hx510_0
         replace hx510_1:=(HB.out.cell (qs4 w _ hx510_1)).trans hx510_1
         replace hx510_2:=(HB.out.cell (qs4 w _ hx510_2)).trans hx510_2
         replace hx510_3:=(HB.out.cell (qs4 w _ hx510_3)).trans hx510_3
         replace hx510_4:=(HB.out.cell (qs4 w _ hx510_4)).trans hx510_4
         replace hx510_5:=(HB.out.cell (qs4 w _ hx510_5)).trans hx510_5
         have HR510_4:=qAA.mk hi510_4
         have HC510_4:=qAA.mk hl510_4
         clear hi510_4 hl510_4
         have HR510_5:=qAA.mk hi510_5
         have HC510_5:=qAA.mk hl510_5
         clear hi510_5 hl510_5
         replace p510:=eq_true p510
         replace q510:=eq_true q510
         refine qAz (n:=15) (S:=fun w'=>w'.cell? (ad506.add ((x5_1).toNat * 6))=some (.string ((qAJ l0 x5_1).f0))∧w'.cell? ⟨(ad506.add ((x5_1).toNat * 6)).block,(ad506.add ((x5_1).toNat * 6)).off+1,none⟩=some (.int .i64 ((qAJ l0 x5_1).f1.f0))∧w'.cell? ⟨(ad506.add ((x5_1).toNat * 6)).block,(ad506.add ((x5_1).toNat * 6)).off+2,none⟩=some (.int .i64 ((qAJ l0 x5_1).f1.f1))∧w'.cell? ⟨(ad506.add ((x5_1).toNat * 6)).block,(ad506.add ((x5_1).toNat * 6)).off+3,none⟩=some (.string ((qAJ l0 x5_1).f1.f2))∧w'.cell? ⟨(ad506.add ((x5_1).toNat * 6)).block,(ad506.add ((x5_1).toNat * 6)).off+4,none⟩=some (.slice A509_4 ((qAJ l0 x5_1).f1.f3).length c509_4)∧w'.cell? ⟨(ad506.add ((x5_1).toNat * 6)).block,(ad506.add ((x5_1).toNat * 6)).off+5,none⟩=some (.slice A509_5 ((qAJ l0 x5_1).f1.f4).length c509_5)∧w'.cell? (ad507.add ((x5_1).toNat * 6))=some (.string ((qAJ l1 x5_1).f0))∧w'.cell? ⟨(ad507.add ((x5_1).toNat * 6)).block,(ad507.add ((x5_1).toNat * 6)).off+1,none⟩=some (.int .i64 ((qAJ l1 x5_1).f1.f0))∧w'.cell? ⟨(ad507.add ((x5_1).toNat * 6)).block,(ad507.add ((x5_1).toNat * 6)).off+2,none⟩=some (.int .i64 ((qAJ l1 x5_1).f1.f1))∧w'.cell? ⟨(ad507.add ((x5_1).toNat * 6)).block,(ad507.add ((x5_1).toNat * 6)).off+3,none⟩=some (.string ((qAJ l1 x5_1).f1.f2))∧w'.cell? ⟨(ad507.add ((x5_1).toNat * 6)).block,(ad507.add ((x5_1).toNat * 6)).off+4,none⟩=some (.slice A510_4 ((qAJ l1 x5_1).f1.f3).length c510_4)∧w'.cell? ⟨(ad507.add ((x5_1).toNat * 6)).block,(ad507.add ((x5_1).toNat * 6)).off+5,none⟩=some (.slice A510_5 ((qAJ l1 x5_1).f1.f4).length c510_5)) (ds:=[]) #[qF,qF,qF,qF,qF,qF,qF,qF,qF,qF,qF,qF,qF,qF,qF] (by kernel_rfl) rfl rfl ⟨((HB.out.cell (qs4 w _ hw509_0)).trans hw509_0),((HB.out.cell (qs4 w _ hw509_1)).trans hw509_1),((HB.out.cell (qs4 w _ hw509_2)).trans hw509_2),((HB.out.cell (qs4 w _ hw509_3)).trans hw509_3),((HB.out.cell (qs4 w _ hw509_4)).trans hw509_4),((HB.out.cell (qs4 w _ hw509_5)).trans hw509_5),((HB.out.cell (qs4 w _ hw510_0)).trans hw510_0),((HB.out.cell (qs4 w _ hw510_1)).trans hw510_1),((HB.out.cell (qs4 w _ hw510_2)).trans hw510_2),((HB.out.cell (qs4 w _ hw510_3)).trans hw510_3),((HB.out.cell (qs4 w _ hw510_4)).trans hw510_4),((HB.out.cell (qs4 w _ hw510_5)).trans hw510_5)⟩ (fun hHeld => ?_);refine qBt qAM.tab7 qAM.bits7 (fun HT_ HW_ => ?_)
         generalize w14.drew=w15 at HB HR509_4 HR509_5 HR510_4 HR510_5 hx509_0 hx509_1 hx509_2 hx509_3 hx509_4 hx509_5 hx510_0 hx510_1 hx510_2 hx510_3 hx510_4 hx510_5 hHeld ⊢
         refine qAx (i:=0) (N:=some 29) (v := ?_) (a' := ?_) #[qT,qF,qF,qF,qF,qF,qF,qF,qF,qF,qF,qF,qF,qF,qF] rfl rfl (qAm HT_.out (by kernel_rfl)) (fun _ _ _ h=>h) (Or.inl ⟨by rfl, ?_⟩) ?_ ?_
         rotate_left
         ·intro w'
          go_simp
          with_reducible rfl
         rotate_left
         ·simp only [Act.put,qs1,qs2,qs3,qAZ,qAb]
          rfl
         refine qAx (i:=1) (N:=some 30) (v := ?_) (a' := ?_) #[qT,qT,qF,qF,qF,qF,qF,qF,qF,qF,qF,qF,qF,qF,qF] rfl rfl (qAm HT_.out (by kernel_rfl)) (fun _ _ _ h=>h) (Or.inl ⟨by rfl, ?_⟩) ?_ ?_
         rotate_left
         ·intro w'
          go_simp
          with_reducible rfl
         rotate_left
         ·simp only [Act.put,qs1,qs2,qs3,qAZ,qAb]
          rfl
         refine qAx (i:=2) (N:=some 31) (v := ?_) (a' := ?_) #[qT,qT,qT,qF,qF,qF,qF,qF,qF,qF,qF,qF,qF,qF,qF] rfl rfl (qAm HT_.out (by kernel_rfl)) (fun _ _ _ h=>h) (Or.inl ⟨by rfl, ?_⟩) ?_ ?_
         rotate_left
         ·intro w'
          go_simp
          with_reducible rfl
         rotate_left
         ·simp only [Act.put,qs1,qs2,qs3,qAZ,qAb]
          rfl
         refine qAx (i:=3) (N:=some 32) (v := ?_) (a' := ?_) #[qT,qT,qT,qT,qF,qF,qF,qF,qF,qF,qF,qF,qF,qF,qF] rfl rfl (qAm HT_.out (by kernel_rfl)) (fun _ _ _ h=>h) (Or.inl ⟨by rfl, ?_⟩) ?_ ?_
         rotate_left
         ·intro w'
          go_simp
          with_reducible rfl
         rotate_left
         ·simp only [Act.put,qs1,qs2,qs3,qAZ,qAb]
          rfl
         refine qAx (i:=4) (N:=some 33) (v := ?_) (a' := ?_) #[qT,qT,qT,qT,qT,qF,qF,qF,qF,qF,qF,qF,qF,qF,qF] rfl rfl (qAm HT_.out (by kernel_rfl)) (fun _ _ _ h=>h) (Or.inl ⟨by rfl, ?_⟩) ?_ ?_
         rotate_left
         ·intro w'
          go_simp
          with_reducible rfl
         rotate_left
         ·simp only [Act.put,qs1,qs2,qs3,qAZ,qAb]
          rfl
         refine qAx (i:=5) (N:=some 34) (v := ?_) (a' := ?_) #[qT,qT,qT,qT,qT,qT,qF,qF,qF,qF,qF,qF,qF,qF,qF] rfl rfl (qAm HT_.out (by kernel_rfl)) (fun _ _ _ h=>h) (Or.inl ⟨by rfl, ?_⟩) ?_ ?_
         rotate_left
         ·intro w'
          go_simp
          with_reducible rfl
         rotate_left
         ·simp only [Act.put,qs1,qs2,qs3,qAZ,qAb]
          rfl
         refine qAx (i:=6) (N:=some 35) (v := ?_) (a' := ?_) #[qT,qT,qT,qT,qT,qT,qT,qF,qF,qF,qF,qF,qF,qF,qF] rfl rfl (qAm HT_.out (by kernel_rfl)) (fun _ _ _ h=>h) (Or.inl ⟨by rfl, ?_⟩) ?_ ?_
         rotate_left
         ·intro w'
          go_simp
          with_reducible rfl
         rotate_left
         ·simp only [Act.put,qs1,qs2,qs3,qAZ,qAb]
          rfl
         refine qAx (i:=8) (N:=some 37) (v := ?_) (a' := ?_) #[qT,qT,qT,qT,qT,qT,qT,qF,qT,qF,qF,qF,qF,qF,qF] rfl rfl (qAm HT_.out (by kernel_rfl)) (fun _ _ _ h=>h) (Or.inl ⟨by rfl, ?_⟩) ?_ ?_
         rotate_left
         ·intro w'
          go_simp
          with_reducible rfl
         rotate_left
         ·simp only [Act.put,qs1,qs2,qs3,qAZ,qAb]
          rfl
         refine qAx (i:=9) (N:=some 38) (v := ?_) (a' := ?_) #[qT,qT,qT,qT,qT,qT,qT,qF,qT,qT,qF,qF,qF,qF,qF] rfl rfl (qAm HT_.out (by kernel_rfl)) (fun _ _ _ h=>h) (Or.inl ⟨by rfl, ?_⟩) ?_ ?_
         rotate_left
         ·intro w'
          go_simp
          with_reducible rfl
         rotate_left
         ·simp only [Act.put,qs1,qs2,qs3,qAZ,qAb]
          rfl
         refine qAx (i:=10) (N:=some 39) (v := ?_) (a' := ?_) #[qT,qT,qT,qT,qT,qT,qT,qF,qT,qT,qT,qF,qF,qF,qF] rfl rfl (qAm HT_.out (by kernel_rfl)) (fun _ _ _ h=>h) (Or.inl ⟨by rfl, ?_⟩) ?_ ?_
         rotate_left
         ·intro w'
          go_simp
          with_reducible rfl
         rotate_left
         ·simp only [Act.put,qs1,qs2,qs3,qAZ,qAb]
          rfl
         refine qAx (i:=11) (N:=some 40) (v := ?_) (a' := ?_) #[qT,qT,qT,qT,qT,qT,qT,qF,qT,qT,qT,qT,qF,qF,qF] rfl rfl (qAm HT_.out (by kernel_rfl)) (fun _ _ _ h=>h) (Or.inl ⟨by rfl, ?_⟩) ?_ ?_
         rotate_left
         ·intro w'
          go_simp
          with_reducible rfl
         rotate_left
         ·simp only [Act.put,qs1,qs2,qs3,qAZ,qAb]
          rfl
         refine qBv (i:=7) (N:=some 36) (v := ?_) (a' := ?_) #[qT,qT,qT,qT,qT,qT,qT,qT,qT,qT,qT,qT,qF,qF,qF] rfl rfl (qBA HT_.out HW_.out (by kernel_rfl)) (fun _ _ _ h=>h) (Or.inl ⟨by rfl, ?_⟩) hHeld ?_ ?_
         rotate_left
         ·rintro w' ⟨s0,s1,s2,s3,s4,s5,s6,s7,s8,s9,s10,s11⟩
          go_simp
          with_reducible rfl
         rotate_left
         ·simp only [Act.put,qs1,qs2,qs3,qAZ,qAb]
          rfl
         refine qBv (i:=12) (N:=some 41) (v := ?_) (a' := ?_) #[qT,qT,qT,qT,qT,qT,qT,qT,qT,qT,qT,qT,qT,qF,qF] rfl rfl (qBA HT_.out HW_.out (by kernel_rfl)) (fun _ _ _ h=>h) (Or.inl ⟨by rfl, ?_⟩) hHeld ?_ ?_
         rotate_left
         ·rintro w' ⟨s0,s1,s2,s3,s4,s5,s6,s7,s8,s9,s10,s11⟩
          go_simp
          with_reducible rfl
         rotate_left
         ·simp only [Act.put,qs1,qs2,qs3,qAZ,qAb]
          rfl
         refine qAx (i:=13) (N:=some 42) (v := ?_) (a' := ?_) #[qT,qT,qT,qT,qT,qT,qT,qT,qT,qT,qT,qT,qT,qT,qF] rfl rfl (qAm HT_.out (by kernel_rfl)) (fun _ _ _ h=>h) (Or.inl ⟨by rfl, ?_⟩) ?_ ?_
         rotate_left
         ·intro w'
          go_simp
          with_reducible rfl
         rotate_left
         ·simp only [Act.put,qs1,qs2,qs3,qAZ,qAb]
          rfl
         refine qAx (i:=14) (N:=some 43) (v := ?_) (a' := ?_) #[qT,qT,qT,qT,qT,qT,qT,qT,qT,qT,qT,qT,qT,qT,qT] rfl rfl (qAm HT_.out (by kernel_rfl)) (fun _ _ _ h=>h) (Or.inl ⟨by rfl, ?_⟩) ?_ ?_
         rotate_left
         ·intro w'
          go_simp
          with_reducible rfl
         rotate_left
         ·simp only [Act.put,qs1,qs2,qs3,qAZ,qAb]
          rfl
         refine qBL (qCP HT_.out (by kernel_rfl)) ?_
         try go_wp2
         go_ret
         exact ⟨by first | rfl | (simp [qAT,qAS] <;> rfl) | (simp [*,qAT,qAS] <;> rfl),by repeat (first | (with_reducible first | exact HB.out | apply qAE | apply qAD | apply qAF) | exact HB.out)⟩
       ·replace c8:=Bool.eq_false_iff.mpr c8
        subst c8
        have H1:(some false)=some r:=by rw [if_neg (show ¬ (false=true) by decide)] at H;exact H
        clear H
        have H:=H1
        clear H1
        obtain rfl:=Option.some.inj H
        simp only [Option.some.injEq,Prod.mk.injEq] at H
        obtain ⟨rfl⟩:=H
        try go_wp2
        have n0_:=qAA.mk (qAF HB.out)
        clear HB
        have HB:=n0_
        clear n0_
        have p506:0≤(x5_1:Int):=of_decide_eq_true (by first | (with_reducible assumption) | assumption)
        have q506:x5_1 < (l0.length:Int):=of_decide_eq_true (by first | (with_reducible assumption) | assumption)
        obtain ⟨ad506,A506_4,c506_4,A506_5,c506_5,e506,hx506_0,hx506_1,hx506_2,hx506_3,hx506_4,hx506_5,hl506_4,hi506_4,hl506_5,hi506_5⟩:=qCI HR0.out x5_1 p506 q506
        have hw506_5:=hx506_5
        have hw506_4:=hx506_4
        have hw506_3:=hx506_3
        have hw506_2:=hx506_2
        have hw506_1:=hx506_1
        have hw506_0:=hx506_0
        cases e506
        replace hx506_0:=(HB.out.cell (qs4 w _ hx506_0)).trans hx506_0
        replace hx506_1:=(HB.out.cell (qs4 w _ hx506_1)).trans hx506_1
        replace hx506_2:=(HB.out.cell (qs4 w _ hx506_2)).trans hx506_2
        replace hx506_3:=(HB.out.cell (qs4 w _ hx506_3)).trans hx506_3
        replace hx506_4:=(HB.out.cell (qs4 w _ hx506_4)).trans hx506_4
        replace hx506_5:=(HB.out.cell (qs4 w _ hx506_5)).trans hx506_5
        have HR506_4:=qAA.mk hi506_4
        have HC506_4:=qAA.mk hl506_4
        clear hi506_4 hl506_4
        have HR506_5:=qAA.mk hi506_5
        have HC506_5:=qAA.mk hl506_5
        clear hi506_5 hl506_5
        replace p506:=eq_true p506
        replace q506:=eq_true q506
        have p507:0≤(x5_1:Int):=of_decide_eq_true (by first | (with_reducible assumption) | assumption)
        have q507:x5_1 < (l1.length:Int):=of_decide_eq_true (by first | (with_reducible assumption) | assumption)
        obtain ⟨ad507,A507_4,c507_4,A507_5,c507_5,e507,hx507_0,hx507_1,hx507_2,hx507_3,hx507_4,hx507_5,hl507_4,hi507_4,hl507_5,hi507_5⟩:=qCI HR1.out x5_1 p507 q507
        have hw507_5:=hx507_5
        have hw507_4:=hx507_4
        have hw507_3:=hx507_3
        have hw507_2:=hx507_2
        have hw507_1:=hx507_1
        have hw507_0:=hx507_0
        cases e507
        replace hx507_0:=(HB.out.cell (qs4 w _ hx507_0)).trans hx507_0
        replace hx507_1:=(HB.out.cell (qs4 w _ hx507_1)).trans hx507_1
        replace hx507_2:=(HB.out.cell (qs4 w _ hx507_2)).trans hx507_2
        replace hx507_3:=(HB.out.cell (qs4 w _ hx507_3)).trans hx507_3
        replace hx507_4:=(HB.out.cell (qs4 w _ hx507_4)).trans hx507_4
        replace hx507_5:=(HB.out.cell (qs4 w _ hx507_5)).trans hx507_5
        have HR507_4:=qAA.mk hi507_4
        have HC507_4:=qAA.mk hl507_4
        clear hi507_4 hl507_4
        have HR507_5:=qAA.mk hi507_5
        have HC507_5:=qAA.mk hl507_5
        clear hi507_5 hl507_5
        replace p507:=eq_true p507
        replace q507:=eq_true q507
        refine qAz (n:=12) (S:=fun w'=>w'.cell? (ad506.add ((x5_1).toNat * 6))=some (.string ((qAJ l0 x5_1).f0))∧w'.cell? ⟨(ad506.add ((x5_1).toNat * 6)).block,(ad506.add ((x5_1).toNat * 6)).off+1,none⟩=some (.int .i64 ((qAJ l0 x5_1).f1.f0))∧w'.cell? ⟨(ad506.add ((x5_1).toNat * 6)).block,(ad506.add ((x5_1).toNat * 6)).off+2,none⟩=some (.int .i64 ((qAJ l0 x5_1).f1.f1))∧w'.cell? ⟨(ad506.add ((x5_1).toNat * 6)).block,(ad506.add ((x5_1).toNat * 6)).off+3,none⟩=some (.string ((qAJ l0 x5_1).f1.f2))∧w'.cell? ⟨(ad506.add ((x5_1).toNat * 6)).block,(ad506.add ((x5_1).toNat * 6)).off+4,none⟩=some (.slice A506_4 ((qAJ l0 x5_1).f1.f3).length c506_4)∧w'.cell? ⟨(ad506.add ((x5_1).toNat * 6)).block,(ad506.add ((x5_1).toNat * 6)).off+5,none⟩=some (.slice A506_5 ((qAJ l0 x5_1).f1.f4).length c506_5)∧w'.cell? (ad507.add ((x5_1).toNat * 6))=some (.string ((qAJ l1 x5_1).f0))∧w'.cell? ⟨(ad507.add ((x5_1).toNat * 6)).block,(ad507.add ((x5_1).toNat * 6)).off+1,none⟩=some (.int .i64 ((qAJ l1 x5_1).f1.f0))∧w'.cell? ⟨(ad507.add ((x5_1).toNat * 6)).block,(ad507.add ((x5_1).toNat * 6)).off+2,none⟩=some (.int .i64 ((qAJ l1 x5_1).f1.f1))∧w'.cell? ⟨(ad507.add ((x5_1).toNat * 6)).block,(ad507.add ((x5_1).toNat * 6)).off+3,none⟩=some (.string ((qAJ l1 x5_1).f1.f2))∧w'.cell? ⟨(ad507.add ((x5_1).toNat * 6)).block,(ad507.add ((x5_1).toNat * 6)).off+4,none⟩=some (.slice A507_4 ((qAJ l1 x5_1).f1.f3).length c507_4)∧w'.cell? ⟨(ad507.add ((x5_1).toNat * 6)).block,(ad507.add ((x5_1).toNat * 6)).off+5,none⟩=some (.slice A507_5 ((qAJ l1 x5_1).f1.f4).length c507_5)) (ds:=[]) #[qF,qF,qF,qF,qF,qF,qF,qF,qF,qF,qF,qF] (by kernel_rfl) rfl rfl ⟨((HB.out.cell (qs4 w _ hw506_0)).trans hw506_0),((HB.out.cell (qs4 w _ hw506_1)).trans hw506_1),((HB.out.cell (qs4 w _ hw506_2)).trans hw506_2),((HB.out.cell (qs4 w _ hw506_3)).trans hw506_3),((HB.out.cell (qs4 w _ hw506_4)).trans hw506_4),((HB.out.cell (qs4 w _ hw506_5)).trans hw506_5),((HB.out.cell (qs4 w _ hw507_0)).trans hw507_0),((HB.out.cell (qs4 w _ hw507_1)).trans hw507_1),((HB.out.cell (qs4 w _ hw507_2)).trans hw507_2),((HB.out.cell (qs4 w _ hw507_3)).trans hw507_3),((HB.out.cell (qs4 w _ hw507_4)).trans hw507_4),((HB.out.cell (qs4 w _ hw507_5)).trans hw507_5)⟩ (fun hHeld => ?_);refine qBt qAM.tab6 qAM.bits6 (fun HT_ HW_ => ?_)
        generalize wr.drew=w16 at HB HR506_4 HR506_5 HR507_4 HR507_5 hx506_0 hx506_1 hx506_2 hx506_3 hx506_4 hx506_5 hx507_0 hx507_1 hx507_2 hx507_3 hx507_4 hx507_5 hHeld ⊢
        refine qAx (i:=0) (N:=some 18) (v := ?_) (a' := ?_) #[qT,qF,qF,qF,qF,qF,qF,qF,qF,qF,qF,qF] rfl rfl (qAm HT_.out (by kernel_rfl)) (fun _ _ _ h=>h) (Or.inl ⟨by rfl, ?_⟩) ?_ ?_
        rotate_left
        ·intro w'
         go_simp
         with_reducible rfl
        rotate_left
        ·simp only [Act.put,qs1,qs2,qs3,qAZ,qAb]
         rfl
        refine qAx (i:=1) (N:=some 19) (v := ?_) (a' := ?_) #[qT,qT,qF,qF,qF,qF,qF,qF,qF,qF,qF,qF] rfl rfl (qAm HT_.out (by kernel_rfl)) (fun _ _ _ h=>h) (Or.inl ⟨by rfl, ?_⟩) ?_ ?_
        rotate_left
        ·intro w'
         go_simp
         with_reducible rfl
        rotate_left
        ·simp only [Act.put,qs1,qs2,qs3,qAZ,qAb]
         rfl
        refine qAx (i:=2) (N:=some 20) (v := ?_) (a' := ?_) #[qT,qT,qT,qF,qF,qF,qF,qF,qF,qF,qF,qF] rfl rfl (qAm HT_.out (by kernel_rfl)) (fun _ _ _ h=>h) (Or.inl ⟨by rfl, ?_⟩) ?_ ?_
        rotate_left
        ·intro w'
         go_simp
         with_reducible rfl
        rotate_left
        ·simp only [Act.put,qs1,qs2,qs3,qAZ,qAb]
         rfl
        refine qAx (i:=3) (N:=some 21) (v := ?_) (a' := ?_) #[qT,qT,qT,qT,qF,qF,qF,qF,qF,qF,qF,qF] rfl rfl (qAm HT_.out (by kernel_rfl)) (fun _ _ _ h=>h) (Or.inl ⟨by rfl, ?_⟩) ?_ ?_
        rotate_left
        ·intro w'
         go_simp
         with_reducible rfl
        rotate_left
        ·simp only [Act.put,qs1,qs2,qs3,qAZ,qAb]
         rfl
        refine qAx (i:=5) (N:=some 23) (v := ?_) (a' := ?_) #[qT,qT,qT,qT,qF,qT,qF,qF,qF,qF,qF,qF] rfl rfl (qAm HT_.out (by kernel_rfl)) (fun _ _ _ h=>h) (Or.inl ⟨by rfl, ?_⟩) ?_ ?_
        rotate_left
        ·intro w'
         go_simp
         with_reducible rfl
        rotate_left
        ·simp only [Act.put,qs1,qs2,qs3,qAZ,qAb]
         rfl
        refine qAx (i:=6) (N:=some 24) (v := ?_) (a' := ?_) #[qT,qT,qT,qT,qF,qT,qT,qF,qF,qF,qF,qF] rfl rfl (qAm HT_.out (by kernel_rfl)) (fun _ _ _ h=>h) (Or.inl ⟨by rfl, ?_⟩) ?_ ?_
        rotate_left
        ·intro w'
         go_simp
         with_reducible rfl
        rotate_left
        ·simp only [Act.put,qs1,qs2,qs3,qAZ,qAb]
         rfl
        refine qAx (i:=7) (N:=some 25) (v := ?_) (a' := ?_) #[qT,qT,qT,qT,qF,qT,qT,qT,qF,qF,qF,qF] rfl rfl (qAm HT_.out (by kernel_rfl)) (fun _ _ _ h=>h) (Or.inl ⟨by rfl, ?_⟩) ?_ ?_
        rotate_left
        ·intro w'
         go_simp
         with_reducible rfl
        rotate_left
        ·simp only [Act.put,qs1,qs2,qs3,qAZ,qAb]
         rfl
        refine qAx (i:=8) (N:=some 26) (v := ?_) (a' := ?_) #[qT,qT,qT,qT,qF,qT,qT,qT,qT,qF,qF,qF] rfl rfl (qAm HT_.out (by kernel_rfl)) (fun _ _ _ h=>h) (Or.inl ⟨by rfl, ?_⟩) ?_ ?_
        rotate_left
        ·intro w'
         go_simp
         with_reducible rfl
        rotate_left
        ·simp only [Act.put,qs1,qs2,qs3,qAZ,qAb]
         rfl
        refine qBv (i:=4) (N:=some 22) (v := ?_) (a' := ?_) #[qT,qT,qT,qT,qT,qT,qT,qT,qT,qF,qF,qF] rfl rfl (qBA HT_.out HW_.out (by kernel_rfl)) (fun _ _ _ h=>h) (Or.inl ⟨by rfl, ?_⟩) hHeld ?_ ?_
        rotate_left
        ·rintro w' ⟨s0,s1,s2,s3,s4,s5,s6,s7,s8,s9,s10,s11⟩
         go_simp
         with_reducible rfl
        rotate_left
        ·simp only [Act.put,qs1,qs2,qs3,qAZ,qAb]
         rfl
        refine qBv (i:=9) (N:=some 27) (v := ?_) (a' := ?_) #[qT,qT,qT,qT,qT,qT,qT,qT,qT,qT,qF,qF] rfl rfl (qBA HT_.out HW_.out (by kernel_rfl)) (fun _ _ _ h=>h) (Or.inl ⟨by rfl, ?_⟩) hHeld ?_ ?_
        rotate_left
        ·rintro w' ⟨s0,s1,s2,s3,s4,s5,s6,s7,s8,s9,s10,s11⟩
         go_simp
         with_reducible rfl
        rotate_left
        ·simp only [Act.put,qs1,qs2,qs3,qAZ,qAb]
         rfl
        refine one_ (i:=10) (N:=some 28) #[qT,qT,qT,qT,qT,qT,qT,qT,qT,qT,qT,qF] rfl rfl (one_of HT_.out (by kernel_rfl)) (by decide) (fun K hK => ?_)
        refine qBZ Try.func33 (by kernel_rfl) rfl #[.agg #[.int .i64 ((qAJ l0 x5_1).f1.f0),.int .i64 ((qAJ l0 x5_1).f1.f1),.string ((qAJ l0 x5_1).f1.f2),.slice A506_4 ((qAJ l0 x5_1).f1.f3).length c506_4,.slice A506_5 ((qAJ l0 x5_1).f1.f4).length c506_5],.agg #[.int .i64 ((qAJ l1 x5_1).f1.f0),.int .i64 ((qAJ l1 x5_1).f1.f1),.string ((qAJ l1 x5_1).f1.f2),.slice A507_4 ((qAJ l1 x5_1).f1.f3).length c507_4,.slice A507_5 ((qAJ l1 x5_1).f1.f4).length c507_5]] (by rfl) rfl rfl (by (try simp only [List.map_toArray,List.map_cons,List.map_nil]);first | done | rfl | (simp only [List.length_drop,List.length_take];rfl)) ?_
        with_reducible refine (qAI.calls k1 ((qAJ l0 x5_1).f1.f0) ((qAJ l0 x5_1).f1.f1) ((qAJ l0 x5_1).f1.f2) _ _ ((qAJ l0 x5_1).f1.f3) _ _ ((qAJ l0 x5_1).f1.f4) ((qAJ l1 x5_1).f1.f0) ((qAJ l1 x5_1).f1.f1) ((qAJ l1 x5_1).f1.f2) _ _ ((qAJ l1 x5_1).f1.f3) _ _ ((qAJ l1 x5_1).f1.f4) false _ ?side1 ?side2 ?side3 ?side4 ?side5 ?side6 ?side7 ?side8 A7.out).mono ?_
        (case side1=>repeat (first | exact (Kd.qAc HR506_4.out HB.out) | (with_reducible refine Kd.qAh ?_ _) | (with_reducible refine Kd.qAk ?_ _) | (with_reducible refine Kd.qAs ?_)))
        (case side2=>exact HC506_4.out)
        (case side3=>repeat (first | exact (Kd.qAc HR506_5.out HB.out) | (with_reducible refine Kd.qAh ?_ _) | (with_reducible refine Kd.qAk ?_ _) | (with_reducible refine Kd.qAs ?_)))
        (case side4=>exact HC506_5.out)
        (case side5=>repeat (first | exact (Kd.qAc HR507_4.out HB.out) | (with_reducible refine Kd.qAh ?_ _) | (with_reducible refine Kd.qAk ?_ _) | (with_reducible refine Kd.qAs ?_)))
        (case side6=>exact HC507_4.out)
        (case side7=>repeat (first | exact (Kd.qAc HR507_5.out HB.out) | (with_reducible refine Kd.qAh ?_ _) | (with_reducible refine Kd.qAk ?_ _) | (with_reducible refine Kd.qAs ?_)))
        (case side8=>exact HC507_5.out)
        rintro e w17 ⟨rfl,hb⟩
        refine ⟨_,rfl, ?_⟩
        have n0_:=qAA.mk (qAO (by repeat (first | (with_reducible first | exact HB.out | apply qAE | apply qAD | apply qAF) | exact HB.out)) hb)
        clear HB
        have HB:=n0_
        clear n0_
        (try clear hb)
        (try clear hb2)
        (try clear hk)
        (try clear hi)
        refine hK.out _ _ ⟨((HB.out.cell (qs4 w _ hw506_0)).trans hw506_0),((HB.out.cell (qs4 w _ hw506_1)).trans hw506_1),((HB.out.cell (qs4 w _ hw506_2)).trans hw506_2),((HB.out.cell (qs4 w _ hw506_3)).trans hw506_3),((HB.out.cell (qs4 w _ hw506_4)).trans hw506_4),((HB.out.cell (qs4 w _ hw506_5)).trans hw506_5),((HB.out.cell (qs4 w _ hw507_0)).trans hw507_0),((HB.out.cell (qs4 w _ hw507_1)).trans hw507_1),((HB.out.cell (qs4 w _ hw507_2)).trans hw507_2),((HB.out.cell (qs4 w _ hw507_3)).trans hw507_3),((HB.out.cell (qs4 w _ hw507_4)).trans hw507_4),((HB.out.cell (qs4 w _ hw507_5)).trans hw507_5)⟩ (fun hHeld => ?_)
        clear hK K
        refine qA3 (a' := ?_) ?_ ?_
        rotate_left
        ·show Act.put _ (some 28) _=_
         simp only [Act.put,qs1,qs2,qs3,qAZ,qAb]
         rfl
        refine qAx (i:=11) (N:=some 6) (v := ?_) (a' := ?_) #[qT,qT,qT,qT,qT,qT,qT,qT,qT,qT,qT,qT] rfl rfl (qAm HT_.out (by kernel_rfl)) (fun _ _ _ h=>h) (Or.inl ⟨by rfl, ?_⟩) ?_ ?_
        rotate_left
        ·intro w'
         go_simp
         with_reducible rfl
        rotate_left
        ·simp only [Act.put,qs1,qs2,qs3,qAZ,qAb]
         rfl
        refine qBL (qCP HT_.out (by kernel_rfl)) ?_
        try go_wp2
        have n0_:=qAA.mk (qAF HB.out)
        clear HB
        have HB:=n0_
        clear n0_
        refine qAz (n:=15) (S:=fun w'=>True) (ds:=[]) #[qF,qF,qF,qF,qF,qF,qF,qF,qF,qF,qF,qF,qF,qF,qF] (by kernel_rfl) rfl rfl trivial (fun hHeld => ?_);refine qBt qAM.tab7 qAM.bits7 (fun HT_ HW_ => ?_)
        generalize w17.drew=w18 at HB hHeld ⊢
        refine qAx (i:=0) (N:=some 29) (v := ?_) (a' := ?_) #[qT,qF,qF,qF,qF,qF,qF,qF,qF,qF,qF,qF,qF,qF,qF] rfl rfl (qAm HT_.out (by kernel_rfl)) (fun _ _ _ h=>h) (Or.inl ⟨by rfl, ?_⟩) ?_ ?_
        rotate_left
        ·intro w'
         go_simp
         with_reducible rfl
        rotate_left
        ·simp only [Act.put,qs1,qs2,qs3,qAZ,qAb]
         rfl
        refine qAx (i:=1) (N:=some 30) (v := ?_) (a' := ?_) #[qT,qT,qF,qF,qF,qF,qF,qF,qF,qF,qF,qF,qF,qF,qF] rfl rfl (qAm HT_.out (by kernel_rfl)) (fun _ _ _ h=>h) (Or.inl ⟨by rfl, ?_⟩) ?_ ?_
        rotate_left
        ·intro w'
         go_simp
         with_reducible rfl
        rotate_left
        ·simp only [Act.put,qs1,qs2,qs3,qAZ,qAb]
         rfl
        refine qAx (i:=2) (N:=some 31) (v := ?_) (a' := ?_) #[qT,qT,qT,qF,qF,qF,qF,qF,qF,qF,qF,qF,qF,qF,qF] rfl rfl (qAm HT_.out (by kernel_rfl)) (fun _ _ _ h=>h) (Or.inl ⟨by rfl, ?_⟩) ?_ ?_
        rotate_left
        ·intro w'
         go_simp
         with_reducible rfl
        rotate_left
        ·simp only [Act.put,qs1,qs2,qs3,qAZ,qAb]
         rfl
        refine qAx (i:=3) (N:=some 32) (v:=undef) (a' := ?_) #[qT,qT,qT,qT,qF,qF,qF,qF,qF,qF,qF,qF,qF,qF,qF] rfl rfl (qAm HT_.out (by kernel_rfl)) (fun _ _ _ h=>h) (Or.inr ⟨by rfl,rfl⟩) ?_ ?_
        rotate_left
        ·simp only [Act.put,qs1,qs2,qs3,qAZ,qAb]
         rfl
        refine qAx (i:=4) (N:=some 33) (v:=undef) (a' := ?_) #[qT,qT,qT,qT,qT,qF,qF,qF,qF,qF,qF,qF,qF,qF,qF] rfl rfl (qAm HT_.out (by kernel_rfl)) (fun _ _ _ h=>h) (Or.inr ⟨by rfl,rfl⟩) ?_ ?_
        rotate_left
        ·simp only [Act.put,qs1,qs2,qs3,qAZ,qAb]
         rfl
        refine qAx (i:=5) (N:=some 34) (v:=undef) (a' := ?_) #[qT,qT,qT,qT,qT,qT,qF,qF,qF,qF,qF,qF,qF,qF,qF] rfl rfl (qAm HT_.out (by kernel_rfl)) (fun _ _ _ h=>h) (Or.inr ⟨by rfl,rfl⟩) ?_ ?_
        rotate_left
        ·simp only [Act.put,qs1,qs2,qs3,qAZ,qAb]
         rfl
        refine qAx (i:=6) (N:=some 35) (v:=undef) (a' := ?_) #[qT,qT,qT,qT,qT,qT,qT,qF,qF,qF,qF,qF,qF,qF,qF] rfl rfl (qAm HT_.out (by kernel_rfl)) (fun _ _ _ h=>h) (Or.inr ⟨by rfl,rfl⟩) ?_ ?_
        rotate_left
        ·simp only [Act.put,qs1,qs2,qs3,qAZ,qAb]
         rfl
        refine qAx (i:=7) (N:=some 36) (v:=undef) (a' := ?_) #[qT,qT,qT,qT,qT,qT,qT,qT,qF,qF,qF,qF,qF,qF,qF] rfl rfl (qAm HT_.out (by kernel_rfl)) (fun _ _ _ h=>h) (Or.inr ⟨by rfl,rfl⟩) ?_ ?_
        rotate_left
        ·simp only [Act.put,qs1,qs2,qs3,qAZ,qAb]
         rfl
        refine qAx (i:=8) (N:=some 37) (v:=undef) (a' := ?_) #[qT,qT,qT,qT,qT,qT,qT,qT,qT,qF,qF,qF,qF,qF,qF] rfl rfl (qAm HT_.out (by kernel_rfl)) (fun _ _ _ h=>h) (Or.inr ⟨by rfl,rfl⟩) ?_ ?_
        rotate_left
        ·simp only [Act.put,qs1,qs2,qs3,qAZ,qAb]
         rfl
        refine qAx (i:=9) (N:=some 38) (v:=undef) (a' := ?_) #[qT,qT,qT,qT,qT,qT,qT,qT,qT,qT,qF,qF,qF,qF,qF] rfl rfl (qAm HT_.out (by kernel_rfl)) (fun _ _ _ h=>h) (Or.inr ⟨by rfl,rfl⟩) ?_ ?_
        rotate_left
        ·simp only [Act.put,qs1,qs2,qs3,qAZ,qAb]
         rfl
        refine qAx (i:=10) (N:=some 39) (v:=undef) (a' := ?_) #[qT,qT,qT,qT,qT,qT,qT,qT,qT,qT,qT,qF,qF,qF,qF] rfl rfl (qAm HT_.out (by kernel_rfl)) (fun _ _ _ h=>h) (Or.inr ⟨by rfl,rfl⟩) ?_ ?_
        rotate_left
        ·simp only [Act.put,qs1,qs2,qs3,qAZ,qAb]
         rfl
        refine qAx (i:=11) (N:=some 40) (v:=undef) (a' := ?_) #[qT,qT,qT,qT,qT,qT,qT,qT,qT,qT,qT,qT,qF,qF,qF] rfl rfl (qAm HT_.out (by kernel_rfl)) (fun _ _ _ h=>h) (Or.inr ⟨by rfl,rfl⟩) ?_ ?_
        rotate_left
        ·simp only [Act.put,qs1,qs2,qs3,qAZ,qAb]
         rfl
        refine qAx (i:=12) (N:=some 41) (v:=undef) (a' := ?_) #[qT,qT,qT,qT,qT,qT,qT,qT,qT,qT,qT,qT,qT,qF,qF] rfl rfl (qAm HT_.out (by kernel_rfl)) (fun _ _ _ h=>h) (Or.inr ⟨by rfl,rfl⟩) ?_ ?_
        rotate_left
        ·simp only [Act.put,qs1,qs2,qs3,qAZ,qAb]
         rfl
        refine qAx (i:=13) (N:=some 42) (v:=undef) (a' := ?_) #[qT,qT,qT,qT,qT,qT,qT,qT,qT,qT,qT,qT,qT,qT,qF] rfl rfl (qAm HT_.out (by kernel_rfl)) (fun _ _ _ h=>h) (Or.inr ⟨by rfl,rfl⟩) ?_ ?_
        rotate_left
        ·simp only [Act.put,qs1,qs2,qs3,qAZ,qAb]
         rfl
        refine qAx (i:=14) (N:=some 43) (v := ?_) (a' := ?_) #[qT,qT,qT,qT,qT,qT,qT,qT,qT,qT,qT,qT,qT,qT,qT] rfl rfl (qAm HT_.out (by kernel_rfl)) (fun _ _ _ h=>h) (Or.inl ⟨by rfl, ?_⟩) ?_ ?_
        rotate_left
        ·intro w'
         go_simp
         with_reducible rfl
        rotate_left
        ·simp only [Act.put,qs1,qs2,qs3,qAZ,qAb]
         rfl
        refine qBL (qCP HT_.out (by kernel_rfl)) ?_
        try go_wp2
        go_ret
        exact ⟨by first | rfl | (simp [qAT,qAS] <;> rfl) | (simp [*,qAT,qAS] <;> rfl),by repeat (first | (with_reducible first | exact HB.out | apply qAE | apply qAD | apply qAF) | exact HB.out)⟩
      ·rw [if_neg c6] at H
       exact absurd H (by simp)
     ·rw [if_neg c5] at H
      exact absurd H (by simp)
    ·rw [if_neg c4] at H
     have c4b0:decide (x5_1 < (l0.length:Int))=false:=decide_eq_false c4
     clear c4
     obtain rfl:=Option.some.inj H
     simp only [Option.some.injEq,Prod.mk.injEq] at H
     obtain ⟨rfl⟩:=H
     go_wp2
     go_ret
     exact ⟨by first | rfl | (simp [qAT,qAS] <;> rfl) | (simp [*,qAT,qAS] <;> rfl),by repeat (first | (with_reducible first | exact HB.out | apply qAE | apply qAD | apply qAF) | exact HB.out)⟩
 ·rw [if_neg c3] at H
  have c3b0:((l0.length:Int) == (l1.length:Int))=false:=beq_eq_false_iff_ne.mpr c3
  have c3b1:((l0.length:Int) != (l1.length:Int))=true:=bne_iff_ne.mpr c3
  have c3b2:(l0.length == l1.length)=false:=by first | simpa using c3 | (simp at c3 ⊢;omega)
  obtain rfl:=Option.some.inj H
  simp only [Option.some.injEq,Prod.mk.injEq] at H
  obtain ⟨rfl⟩:=H
  go_enter Try.func19,Try.ntmps19
  go_wp2
  go_ret
  exact ⟨by first | rfl | (simp [qAT,qAS] <;> rfl) | (simp [*,qAT,qAS] <;> rfl),by repeat (first | (with_reducible first | exact HB.out | apply qAE | apply qAD | apply qAF) | exact HB.out)⟩
end Go.Proofs.Ytdommiicjpjfpaa.X
