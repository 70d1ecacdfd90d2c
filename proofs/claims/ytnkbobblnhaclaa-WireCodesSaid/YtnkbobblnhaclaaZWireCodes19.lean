import Derived.Test.YtnkbobblnhaclaaZWireCodes3
set_option linter.unusedVariables false
set_option linter.unusedSimpArgs false
namespace Go.Proofs.Ytnkbobblnhaclaa.X
open Go.RowKit Go.Proofs.YtnkbobblnhaclaaW.PrintWords Go.Proofs.YtnkbobblnhaclaaW.PrintLast Go.Proofs.YtnkbobblnhaclaaW.PrintMore Go.Proofs.YtnkbobblnhaclaaW
attribute [local go_sem] qBF qBE qBX qBW qA6 qA5 qBJ qBI
mutual
def qAH.j0:Nat→Bool→Int→Int→ByteArray→List (S25)→List ByteArray→Int→Int→ByteArray→List (S25)→List ByteArray→Option (Bool)
 | 0,_,_,_,_,_,_,_,_,_,_,_=>none
 | k+1,x44,x188000,x188001,x188002,x188003,x188004,x189000,x189001,x189002,x189003,x189004=>if x44=true then (some false) else (qAH.l0 k 0 x188000 x188001 x188002 x188003 x188004 x189000 x189001 x189002 x189003 x189004)
def qAH.l0:Nat→Int→Int→Int→ByteArray→List (S25)→List ByteArray→Int→Int→ByteArray→List (S25)→List ByteArray→Option (Bool)
 | 0,_,_,_,_,_,_,_,_,_,_,_=>none
 | k+1,x5,x188000,x188001,x188002,x188003,x188004,x189000,x189001,x189002,x189003,x189004=>if x5 < (x188004.length:Int) then (if 0≤x5 then (if x5 < (x189004.length:Int) then (if (rdOf ByteArray.empty x188004 x5).toList=(rdOf ByteArray.empty x189004 x5).toList then (qAH.l0 k (wrap64 (x5+1)) x188000 x188001 x188002 x188003 x188004 x189000 x189001 x189002 x189003 x189004) else (some false)) else (none)) else (none)) else (qAH.l1 k 0 x188000 x188001 x188002 x188003 x188004 x189000 x189001 x189002 x189003 x189004)
def qAH.l1:Nat→Int→Int→Int→ByteArray→List (S25)→List ByteArray→Int→Int→ByteArray→List (S25)→List ByteArray→Option (Bool)
 | 0,_,_,_,_,_,_,_,_,_,_,_=>none
 | k+1,x6,x188000,x188001,x188002,x188003,x188004,x189000,x189001,x189002,x189003,x189004=>if x6 < (x188003.length:Int) then (if 0≤x6 then (if x6 < (x189003.length:Int) then ((qAH.f k ((qAU x188003 x6).f0) ((qAU x188003 x6).f1) ((qAU x188003 x6).f2) ((qAU x188003 x6).f3) ((qAU x188003 x6).f4) ((qAU x189003 x6).f0) ((qAU x189003 x6).f1) ((qAU x189003 x6).f2) ((qAU x189003 x6).f3) ((qAU x189003 x6).f4)).bind fun t193=>(if t193=true then (qAH.l1 k (wrap64 (x6+1)) x188000 x188001 x188002 x188003 x188004 x189000 x189001 x189002 x189003 x189004) else (some false))) else (none)) else (none)) else (some true)
def qAH.f:Nat→Int→Int→ByteArray→List (S25)→List ByteArray→Int→Int→ByteArray→List (S25)→List ByteArray→Option (Bool)
 | 0,_,_,_,_,_,_,_,_,_,_=>none
 | k+1,a0_0,a0_1,a0_2,l0_3,l0_4,a1_0,a1_1,a1_2,l1_3,l1_4=>if a0_0=a1_0 then (if a0_1=a1_1 then (if a0_2.toList=a1_2.toList then (if (l0_3.length:Int)=(l1_3.length:Int) then (qAH.j0 k ((l0_4.length:Int) != (l1_4.length:Int)) a0_0 a0_1 a0_2 l0_3 l0_4 a1_0 a1_1 a1_2 l1_3 l1_4) else (qAH.j0 k true a0_0 a0_1 a0_2 l0_3 l0_4 a1_0 a1_1 a1_2 l1_3 l1_4)) else (qAH.j0 k true a0_0 a0_1 a0_2 l0_3 l0_4 a1_0 a1_1 a1_2 l1_3 l1_4)) else (qAH.j0 k true a0_0 a0_1 a0_2 l0_3 l0_4 a1_0 a1_1 a1_2 l1_3 l1_4)) else (qAH.j0 k true a0_0 a0_1 a0_2 l0_3 l0_4 a1_0 a1_1 a1_2 l1_3 l1_4)
end
theorem qAH.qBj:∀ k,(∀ y0 y1 y2 y3 y4 y5 y6 y7 y8 y9,LeO (qAH.f k y0 y1 y2 y3 y4 y5 y6 y7 y8 y9) (qAH.f (k+1) y0 y1 y2 y3 y4 y5 y6 y7 y8 y9))∧(∀ y0 y1 y2 y3 y4 y5 y6 y7 y8 y9 y10,LeO (qAH.j0 k y0 y1 y2 y3 y4 y5 y6 y7 y8 y9 y10) (qAH.j0 (k+1) y0 y1 y2 y3 y4 y5 y6 y7 y8 y9 y10))∧(∀ y0 y1 y2 y3 y4 y5 y6 y7 y8 y9 y10,LeO (qAH.l0 k y0 y1 y2 y3 y4 y5 y6 y7 y8 y9 y10) (qAH.l0 (k+1) y0 y1 y2 y3 y4 y5 y6 y7 y8 y9 y10))∧(∀ y0 y1 y2 y3 y4 y5 y6 y7 y8 y9 y10,LeO (qAH.l1 k y0 y1 y2 y3 y4 y5 y6 y7 y8 y9 y10) (qAH.l1 (k+1) y0 y1 y2 y3 y4 y5 y6 y7 y8 y9 y10))
 | 0=>⟨fun _ _ _ _ _ _ _ _ _ _ r h=>by simp [qAH.f] at h,fun _ _ _ _ _ _ _ _ _ _ _ r h=>by simp [qAH.j0] at h,fun _ _ _ _ _ _ _ _ _ _ _ r h=>by simp [qAH.l0] at h,fun _ _ _ _ _ _ _ _ _ _ _ r h=>by simp [qAH.l1] at h⟩
 | k+1=>by
  obtain ⟨ih0,ih1,ih2,ih3⟩:=qAH.qBj k
  refine ⟨?_, ?_, ?_, ?_⟩
  ·intro y0 y1 y2 y3 y4 y5 y6 y7 y8 y9
   unfold qAH.f
   repeat' first
   | (with_reducible exact ih0 _ _ _ _ _ _ _ _ _ _)
   | (with_reducible exact ih1 _ _ _ _ _ _ _ _ _ _ _)
   | (with_reducible exact ih2 _ _ _ _ _ _ _ _ _ _ _)
   | (with_reducible exact ih3 _ _ _ _ _ _ _ _ _ _ _)
   | (with_reducible exact LeO.refl _)
   | (with_reducible exact LeO.none _)
   | (with_reducible refine LeO.ite ?_ ?_)
   | (with_reducible refine LeO.bind ?_ (fun _ => ?_))
   | exact ih0 _ _ _ _ _ _ _ _ _ _
   | exact ih1 _ _ _ _ _ _ _ _ _ _ _
   | exact ih2 _ _ _ _ _ _ _ _ _ _ _
   | exact ih3 _ _ _ _ _ _ _ _ _ _ _
   | exact LeO.none _
   | refine LeO.ite ?_ ?_
   | refine LeO.bind ?_ (fun _ => ?_)
  ·intro y0 y1 y2 y3 y4 y5 y6 y7 y8 y9 y10
   unfold qAH.j0
   repeat' first
   | (with_reducible exact ih0 _ _ _ _ _ _ _ _ _ _)
   | (with_reducible exact ih1 _ _ _ _ _ _ _ _ _ _ _)
   | (with_reducible exact ih2 _ _ _ _ _ _ _ _ _ _ _)
   | (with_reducible exact ih3 _ _ _ _ _ _ _ _ _ _ _)
   | (with_reducible exact LeO.refl _)
   | (with_reducible exact LeO.none _)
   | (with_reducible refine LeO.ite ?_ ?_)
   | (with_reducible refine LeO.bind ?_ (fun _ => ?_))
   | exact ih0 _ _ _ _ _ _ _ _ _ _
   | exact ih1 _ _ _ _ _ _ _ _ _ _ _
   | exact ih2 _ _ _ _ _ _ _ _ _ _ _
   | exact ih3 _ _ _ _ _ _ _ _ _ _ _
   | exact LeO.none _
   | refine LeO.ite ?_ ?_
   | refine LeO.bind ?_ (fun _ => ?_)
  ·intro y0 y1 y2 y3 y4 y5 y6 y7 y8 y9 y10
   unfold qAH.l0
   repeat' first
   | (with_reducible exact ih0 _ _ _ _ _ _ _ _ _ _)
   | (with_reducible exact ih1 _ _ _ _ _ _ _ _ _ _ _)
   | (with_reducible exact ih2 _ _ _ _ _ _ _ _ _ _ _)
   | (with_reducible exact ih3 _ _ _ _ _ _ _ _ _ _ _)
   | (with_reducible exact LeO.refl _)
   | (with_reducible exact LeO.none _)
   | (with_reducible refine LeO.ite ?_ ?_)
   | (with_reducible refine LeO.bind ?_ (fun _ => ?_))
   | exact ih0 _ _ _ _ _ _ _ _ _ _
   | exact ih1 _ _ _ _ _ _ _ _ _ _ _
   | exact ih2 _ _ _ _ _ _ _ _ _ _ _
   | exact ih3 _ _ _ _ _ _ _ _ _ _ _
   | exact LeO.none _
   | refine LeO.ite ?_ ?_
   | refine LeO.bind ?_ (fun _ => ?_)
  ·intro y0 y1 y2 y3 y4 y5 y6 y7 y8 y9 y10
   unfold qAH.l1
   repeat' first
   | (with_reducible exact ih0 _ _ _ _ _ _ _ _ _ _)
   | (with_reducible exact ih1 _ _ _ _ _ _ _ _ _ _ _)
   | (with_reducible exact ih2 _ _ _ _ _ _ _ _ _ _ _)
   | (with_reducible exact ih3 _ _ _ _ _ _ _ _ _ _ _)
   | (with_reducible exact LeO.refl _)
   | (with_reducible exact LeO.none _)
   | (with_reducible refine LeO.ite ?_ ?_)
   | (with_reducible refine LeO.bind ?_ (fun _ => ?_))
   | exact ih0 _ _ _ _ _ _ _ _ _ _
   | exact ih1 _ _ _ _ _ _ _ _ _ _ _
   | exact ih2 _ _ _ _ _ _ _ _ _ _ _
   | exact ih3 _ _ _ _ _ _ _ _ _ _ _
   | exact LeO.none _
   | refine LeO.ite ?_ ?_
   | refine LeO.bind ?_ (fun _ => ?_)
theorem qAH.mono:∀ a0 a1 a2 a3 a4 a5 a6 a7 a8 a9 k,LeO (qAH.f k a0 a1 a2 a3 a4 a5 a6 a7 a8 a9) (qAH.f (k+1) a0 a1 a2 a3 a4 a5 a6 a7 a8 a9):=by
 intro a0 a1 a2 a3 a4 a5 a6 a7 a8 a9 k
 obtain ⟨ih0,ih1,ih2,ih3⟩:=qAH.qBj k
 exact ih0 a0 a1 a2 a3 a4 a5 a6 a7 a8 a9
def qAH.T6:Bool × List (List Nat × List Nat):=(true,[([],[]),([0],[0]),([],[]),([1,2],[1,2]),([3],[3]),([],[]),([5],[5]),([],[]),([6,7],[6,7]),([8],[8]),([4,9],[4,9])])
def qAH.B6:List Nat:=[0,1,0,7,15,0,32,0,224,480,1023]
theorem qAH.tab6:rtab .any (opsOf Try.f30 6)=qAH.T6:=by kernel_rfl
theorem qAH.bits6:waitsOk qAH.T6.2 qAH.B6=true:=by kernel_rfl
def qAH.T11:Bool × List (List Nat × List Nat):=(true,[([],[]),([0],[0]),([],[]),([1,2],[1,2]),([3],[3]),([],[]),([5],[5]),([],[]),([6,7],[6,7]),([8],[8]),([4,9],[4,9]),([10,10,0,1,2,3,4,5,6,7,8,9,10],[10])])
def qAH.B11:List Nat:=[0,1,0,7,15,0,32,0,224,480,1023,2047]
theorem qAH.tab11:rtab .any (opsOf Try.f30 11)=qAH.T11:=by kernel_rfl
theorem qAH.bits11:waitsOk qAH.T11.2 qAH.B11=true:=by kernel_rfl
set_option maxHeartbeats 8000000 in
set_option maxRecDepth 100000 in
theorem qAH.calls (k:Nat):∀ (a0_0:Int) (a0_1:Int) (a0_2:ByteArray) (A0_3:Option Addr) (c0_3:Nat) (l0_3:List (S25)) (A0_4:Option Addr) (c0_4:Nat) (l0_4:List ByteArray) (a1_0:Int) (a1_1:Int) (a1_2:ByteArray) (A1_3:Option Addr) (c1_3:Nat) (l1_3:List (S25)) (A1_4:Option Addr) (c1_4:Nat) (l1_4:List ByteArray) (r:Bool) (w:World) (hr0_3:Kd.C k25 w A0_3 l0_3.length l0_3) (hc0_3:l0_3.length≤c0_3) (hr0_4:Kd.C Kd.string w A0_4 l0_4.length l0_4) (hc0_4:l0_4.length≤c0_4) (hr1_3:Kd.C k25 w A1_3 l1_3.length l1_3) (hc1_3:l1_3.length≤c1_3) (hr1_4:Kd.C Kd.string w A1_4 l1_4.length l1_4) (hc1_4:l1_4.length≤c1_4) (h:qAH.f k a0_0 a0_1 a0_2 l0_3 l0_4 a1_0 a1_1 a1_2 l1_3 l1_4=some r),
  Calls Try.prog 30 #[.agg #[.int .i64 a0_0,.int .i64 a0_1,.string a0_2,.slice A0_3 l0_3.length c0_3,.slice A0_4 l0_4.length c0_4],.agg #[.int .i64 a1_0,.int .i64 a1_1,.string a1_2,.slice A1_3 l1_3.length c1_3,.slice A1_4 l1_4.length c1_4]] w fun e w'=>e=.returned (.bool r)∧Below w.heap.size w w':=by
 induction k using Nat.strongRecOn with
 | _ k ih =>
 intro a0_0 a0_1 a0_2 A0_3 c0_3 l0_3 A0_4 c0_4 l0_4 a1_0 a1_1 a1_2 A1_3 c1_3 l1_3 A1_4 c1_4 l1_4 r w hr0_3 hc0_3 hr0_4 hc0_4 hr1_3 hc1_3 hr1_4 hc1_4 h
 cases k with
 | zero=>exact absurd h (by simp [qAH.f])
 | succ k =>
 simp only [qAH.f] at h
 have hu25:=Try.underlying25
 have HR0_3:=qAA.mk hr0_3
 have HC0_3:=qAA.mk hc0_3
 clear hr0_3 hc0_3
 have HR0_4:=qAA.mk hr0_4
 have HC0_4:=qAA.mk hc0_4
 clear hr0_4 hc0_4
 have HR1_3:=qAA.mk hr1_3
 have HC1_3:=qAA.mk hc1_3
 clear hr1_3 hc1_3
 have HR1_4:=qAA.mk hr1_4
 have HC1_4:=qAA.mk hc1_4
 clear hr1_4 hc1_4
 have HB:=qAA.mk (Below.refl w.heap.size w)
 have H:(if a0_0=a1_0 then (if a0_1=a1_1 then (if a0_2.toList=a1_2.toList then (if (l0_3.length:Int)=(l1_3.length:Int) then (qAH.j0 k ((l0_4.length:Int) != (l1_4.length:Int)) a0_0 a0_1 a0_2 l0_3 l0_4 a1_0 a1_1 a1_2 l1_3 l1_4) else (qAH.j0 k true a0_0 a0_1 a0_2 l0_3 l0_4 a1_0 a1_1 a1_2 l1_3 l1_4)) else (qAH.j0 k true a0_0 a0_1 a0_2 l0_3 l0_4 a1_0 a1_1 a1_2 l1_3 l1_4)) else (qAH.j0 k true a0_0 a0_1 a0_2 l0_3 l0_4 a1_0 a1_1 a1_2 l1_3 l1_4)) else (qAH.j0 k true a0_0 a0_1 a0_2 l0_3 l0_4 a1_0 a1_1 a1_2 l1_3 l1_4))=some r:=h
 clear h
 have HC3:=qAA.mk H
 clear H
 go_enter Try.func30,Try.ntmps30
 go_upto_region 1 with (first | ((with_reducible refine qAj (N:=2) rfl ?_);(try (refine qA1 (by rfl) ?_;dsimp only));refine qAf ?hg (N:=2) ?hd (cs:=#[.int .i64 a0_0,.int .i64 a0_1,.string a0_2,.slice A0_3 l0_3.length c0_3,.slice A0_4 l0_4.length c0_4]) (t:=25) ?hr ?_;(case hd=>rfl);(case hg=>rfl);(case hr=>first | (go_simp;done) | (go_simp;rfl));intro gb187 hg w4 hbox hb;have n0_:=qAA.mk (qAX (by repeat (first | (with_reducible first | exact HB.out | apply qAF | apply qAD | apply qAG) | exact HB.out)) hb);have n1_:=qAA.mk (hbox);have n2_:=qAA.mk ((by rw [hg];exact (qAV (by repeat (first | (with_reducible first | exact HB.out | apply qAF | apply qAD | apply qAG) | exact HB.out))):w.heap.size≤gb187));have n3_:=qAA.mk ((by rw [hg];exact (qAV (by repeat (first | (with_reducible first | exact HB.out | apply qAF | apply qAD | apply qAG) | exact HB.out))):w.heap.size≤gb187));clear HB;have HB:=n0_;have BK187:=n1_;have GW187:=n2_;have GE187:=n3_;clear n0_ n1_ n2_ n3_;clear hb hbox hg) | ((with_reducible refine qAj (N:=3) rfl ?_);(try (refine qA1 (by rfl) ?_;dsimp only));refine qAf ?hg (N:=3) ?hd (cs:=#[.int .i64 a1_0,.int .i64 a1_1,.string a1_2,.slice A1_3 l1_3.length c1_3,.slice A1_4 l1_4.length c1_4]) (t:=25) ?hr ?_;(case hd=>rfl);(case hg=>rfl);(case hr=>first | (go_simp;done) | (go_simp;rfl));intro gb188 hg w5 hbox hb;have n0_:=qAA.mk (qAW (g:=gb187) (o:=.cells #[.int .i64 a0_0,.int .i64 a0_1,.string a0_2,.slice A0_3 l0_3.length c0_3,.slice A0_4 l0_4.length c0_4] 25 (0,0)) (by (with_reducible repeat (first | refine qAN ?_ _ | refine qAM ?_ | refine qAK ?_ _));exact BK187.out) hb);have n1_:=qAA.mk (qAX (by repeat (first | (with_reducible first | exact HB.out | apply qAF | apply qAD | apply qAG | refine qAL ?_ GE187.out) | exact HB.out)) hb);have n2_:=qAA.mk (hbox);have n3_:=qAA.mk ((by rw [hg];exact (qAV (by repeat (first | (with_reducible first | exact HB.out | apply qAF | apply qAD | apply qAG | refine qAL ?_ GE187.out) | exact HB.out))):w.heap.size≤gb188));have n4_:=qAA.mk ((by rw [hg];exact (qAV (by repeat (first | (with_reducible first | exact HB.out | apply qAF | apply qAD | apply qAG | refine qAL ?_ GE187.out) | exact HB.out))):w.heap.size≤gb188));have n5_:=qAA.mk ((by rw [hg];exact Nat.ne_of_lt (qAg (g:=gb187) (o:=.cells #[.int .i64 a0_0,.int .i64 a0_1,.string a0_2,.slice A0_3 l0_3.length c0_3,.slice A0_4 l0_4.length c0_4] 25 (0,0)) (by (with_reducible repeat (first | refine qAN ?_ _ | refine qAM ?_ | refine qAK ?_ _));exact BK187.out)):gb187 ≠ gb188));have n6_:=qAA.mk ((by rw [hg];exact Nat.ne_of_gt (qAg (g:=gb187) (o:=.cells #[.int .i64 a0_0,.int .i64 a0_1,.string a0_2,.slice A0_3 l0_3.length c0_3,.slice A0_4 l0_4.length c0_4] 25 (0,0)) (by (with_reducible repeat (first | refine qAN ?_ _ | refine qAM ?_ | refine qAK ?_ _));exact BK187.out)):gb188 ≠ gb187));clear BK187;clear HB;have BK187:=n0_;have HB:=n1_;have BK188:=n2_;have GW188:=n3_;have GE188:=n4_;have NB187_188:=n5_;have NB188_187:=n6_;clear n0_ n1_ n2_ n3_ n4_ n5_ n6_;clear hb hbox hg))
 (try simp only [Act.put,qs1,qs2,qs3])
 go_cut [44] (fun v44 wc=>∃ (kq:Nat) (x44_2:Bool),v44=.bool x44_2∧qAA (qAH.j0 kq x44_2 a0_0 a0_1 a0_2 l0_3 l0_4 a1_0 a1_1 a1_2 l1_3 l1_4=some r)∧qAA (kq≤k)∧qAA (wc.heap[gb187]?=some (.cells #[.int .i64 a0_0,.int .i64 a0_1,.string a0_2,(.slice A0_3 l0_3.length c0_3),(.slice A0_4 l0_4.length c0_4)] 25 (0,0)))∧qAA (wc.heap[gb188]?=some (.cells #[.int .i64 a1_0,.int .i64 a1_1,.string a1_2,(.slice A1_3 l1_3.length c1_3),(.slice A1_4 l1_4.length c1_4)] 25 (0,0)))∧qAA (Below w.heap.size w wc))
 case first =>
  have H:=HC3.out
  clear HC3
  by_cases c6:a0_0=a1_0
  ·rw [if_pos c6] at H
   have c6b0:(a0_0 == a1_0)=true:=beq_iff_eq.mpr c6
   have c6b1:(a0_0 != a1_0)=false:=bne_eq_false_iff_eq.mpr c6
   clear c6
   (first | rw [c6b0] | (simp only [qAR,qAT];rw [c6b0]) | rw [c6b1] | (simp only [qAR,qAT];rw [c6b1]) | skip)
   by_cases c7:a0_1=a1_1
   ·rw [if_pos c7] at H
    have c7b0:(a0_1 == a1_1)=true:=beq_iff_eq.mpr c7
    have c7b1:(a0_1 != a1_1)=false:=bne_eq_false_iff_eq.mpr c7
    clear c7
    by_cases c8:a0_2.toList=a1_2.toList
    ·rw [if_pos c8] at H
     have c8b0:(a0_2.toList == a1_2.toList)=true:=beq_iff_eq.mpr c8
     have c8b1:(a0_2.toList != a1_2.toList)=false:=bne_eq_false_iff_eq.mpr c8
     clear c8
     by_cases c9:(l0_3.length:Int)=(l1_3.length:Int)
     ·rw [if_pos c9] at H
      have c9b0:((l0_3.length:Int) == (l1_3.length:Int))=true:=beq_iff_eq.mpr c9
      have c9b1:((l0_3.length:Int) != (l1_3.length:Int))=false:=bne_eq_false_iff_eq.mpr c9
      have c9b2:(l0_3.length == l1_3.length)=true:=by first | simpa using c9 | (simp at c9 ⊢;omega)
      clear c9
      have H':=qAA.mk H
      clear H
      have hnb10:=NB187_188.out
      have hnc10:=NB188_187.out
      have hcz11_0:w5.cell? ⟨gb187,0,none⟩=some (.int .i64 a0_0):=(qAB BK187.out 0).trans rfl
      have hcz11_1:w5.cell? ⟨gb187,1,none⟩=some (.int .i64 a0_1):=(qAB BK187.out 1).trans rfl
      have hcz11_2:w5.cell? ⟨gb187,2,none⟩=some (.string a0_2):=(qAB BK187.out 2).trans rfl
      have hcz11_3:w5.cell? ⟨gb187,3,none⟩=some (.slice A0_3 l0_3.length c0_3):=(qAB BK187.out 3).trans rfl
      have hcz11_4:w5.cell? ⟨gb187,4,none⟩=some (.slice A0_4 l0_4.length c0_4):=(qAB BK187.out 4).trans rfl
      have hfz11_0:=qAC BK187.out 0
      have hfz11_1:=qAC BK187.out 1
      have hfz11_2:=qAC BK187.out 2
      have hfz11_3:=qAC BK187.out 3
      have hfz11_4:=qAC BK187.out 4
      have hcz12_0:w5.cell? ⟨gb188,0,none⟩=some (.int .i64 a1_0):=(qAB BK188.out 0).trans rfl
      have hcz12_1:w5.cell? ⟨gb188,1,none⟩=some (.int .i64 a1_1):=(qAB BK188.out 1).trans rfl
      have hcz12_2:w5.cell? ⟨gb188,2,none⟩=some (.string a1_2):=(qAB BK188.out 2).trans rfl
      have hcz12_3:w5.cell? ⟨gb188,3,none⟩=some (.slice A1_3 l1_3.length c1_3):=(qAB BK188.out 3).trans rfl
      have hcz12_4:w5.cell? ⟨gb188,4,none⟩=some (.slice A1_4 l1_4.length c1_4):=(qAB BK188.out 4).trans rfl
      have hfz12_0:=qAC BK188.out 0
      have hfz12_1:=qAC BK188.out 1
      have hfz12_2:=qAC BK188.out 2
      have hfz12_3:=qAC BK188.out 3
      have hfz12_4:=qAC BK188.out 4
      go_wp2
      go_meet
      case rel=>exact ⟨_,(((l0_4.length:Int) != (l1_4.length:Int))),(by first | rfl | (simp;done) | (simp [*];done)),H',⟨by first | omega | exact Nat.le_refl _⟩,⟨by (with_reducible repeat (first | refine qAN ?_ _ | refine qAM ?_ | refine qAK ?_ _));exact BK187.out⟩,⟨by (with_reducible repeat (first | refine qAN ?_ _ | refine qAM ?_ | refine qAK ?_ _));exact BK188.out⟩,⟨by repeat (first | (with_reducible first | exact HB.out | apply qAF | apply qAD | apply qAG | refine qAL ?_ GE187.out | refine qAL ?_ GE188.out) | exact HB.out)⟩⟩
     ·rw [if_neg c9] at H
      have c9b0:((l0_3.length:Int) == (l1_3.length:Int))=false:=beq_eq_false_iff_ne.mpr c9
      have c9b1:((l0_3.length:Int) != (l1_3.length:Int))=true:=bne_iff_ne.mpr c9
      have c9b2:(l0_3.length == l1_3.length)=false:=by first | simpa using c9 | (simp at c9 ⊢;omega)
      have H':=qAA.mk H
      clear H
      have hnb13:=NB187_188.out
      have hnc13:=NB188_187.out
      have hcz14_0:w5.cell? ⟨gb187,0,none⟩=some (.int .i64 a0_0):=(qAB BK187.out 0).trans rfl
      have hcz14_1:w5.cell? ⟨gb187,1,none⟩=some (.int .i64 a0_1):=(qAB BK187.out 1).trans rfl
      have hcz14_2:w5.cell? ⟨gb187,2,none⟩=some (.string a0_2):=(qAB BK187.out 2).trans rfl
      have hcz14_3:w5.cell? ⟨gb187,3,none⟩=some (.slice A0_3 l0_3.length c0_3):=(qAB BK187.out 3).trans rfl
      have hcz14_4:w5.cell? ⟨gb187,4,none⟩=some (.slice A0_4 l0_4.length c0_4):=(qAB BK187.out 4).trans rfl
      have hfz14_0:=qAC BK187.out 0
      have hfz14_1:=qAC BK187.out 1
      have hfz14_2:=qAC BK187.out 2
      have hfz14_3:=qAC BK187.out 3
      have hfz14_4:=qAC BK187.out 4
      have hcz15_0:w5.cell? ⟨gb188,0,none⟩=some (.int .i64 a1_0):=(qAB BK188.out 0).trans rfl
      have hcz15_1:w5.cell? ⟨gb188,1,none⟩=some (.int .i64 a1_1):=(qAB BK188.out 1).trans rfl
      have hcz15_2:w5.cell? ⟨gb188,2,none⟩=some (.string a1_2):=(qAB BK188.out 2).trans rfl
      have hcz15_3:w5.cell? ⟨gb188,3,none⟩=some (.slice A1_3 l1_3.length c1_3):=(qAB BK188.out 3).trans rfl
      have hcz15_4:w5.cell? ⟨gb188,4,none⟩=some (.slice A1_4 l1_4.length c1_4):=(qAB BK188.out 4).trans rfl
      have hfz15_0:=qAC BK188.out 0
      have hfz15_1:=qAC BK188.out 1
      have hfz15_2:=qAC BK188.out 2
      have hfz15_3:=qAC BK188.out 3
      have hfz15_4:=qAC BK188.out 4
      go_wp2
      go_meet
      case rel=>exact ⟨_,(true),(by first | rfl | (simp;done) | (simp [*];done)),H',⟨by first | omega | exact Nat.le_refl _⟩,⟨by (with_reducible repeat (first | refine qAN ?_ _ | refine qAM ?_ | refine qAK ?_ _));exact BK187.out⟩,⟨by (with_reducible repeat (first | refine qAN ?_ _ | refine qAM ?_ | refine qAK ?_ _));exact BK188.out⟩,⟨by repeat (first | (with_reducible first | exact HB.out | apply qAF | apply qAD | apply qAG | refine qAL ?_ GE187.out | refine qAL ?_ GE188.out) | exact HB.out)⟩⟩
    ·rw [if_neg c8] at H
     have c8b0:(a0_2.toList == a1_2.toList)=false:=beq_eq_false_iff_ne.mpr c8
     have c8b1:(a0_2.toList != a1_2.toList)=true:=bne_iff_ne.mpr c8
     have H':=qAA.mk H
     clear H
     have hnb16:=NB187_188.out
     have hnc16:=NB188_187.out
     have hcz17_0:w5.cell? ⟨gb187,0,none⟩=some (.int .i64 a0_0):=(qAB BK187.out 0).trans rfl
     have hcz17_1:w5.cell? ⟨gb187,1,none⟩=some (.int .i64 a0_1):=(qAB BK187.out 1).trans rfl
     have hcz17_2:w5.cell? ⟨gb187,2,none⟩=some (.string a0_2):=(qAB BK187.out 2).trans rfl
     have hcz17_3:w5.cell? ⟨gb187,3,none⟩=some (.slice A0_3 l0_3.length c0_3):=(qAB BK187.out 3).trans rfl
     have hcz17_4:w5.cell? ⟨gb187,4,none⟩=some (.slice A0_4 l0_4.length c0_4):=(qAB BK187.out 4).trans rfl
     have hfz17_0:=qAC BK187.out 0
     have hfz17_1:=qAC BK187.out 1
     have hfz17_2:=qAC BK187.out 2
     have hfz17_3:=qAC BK187.out 3
     have hfz17_4:=qAC BK187.out 4
     have hcz18_0:w5.cell? ⟨gb188,0,none⟩=some (.int .i64 a1_0):=(qAB BK188.out 0).trans rfl
     have hcz18_1:w5.cell? ⟨gb188,1,none⟩=some (.int .i64 a1_1):=(qAB BK188.out 1).trans rfl
     have hcz18_2:w5.cell? ⟨gb188,2,none⟩=some (.string a1_2):=(qAB BK188.out 2).trans rfl
     have hcz18_3:w5.cell? ⟨gb188,3,none⟩=some (.slice A1_3 l1_3.length c1_3):=(qAB BK188.out 3).trans rfl
     have hcz18_4:w5.cell? ⟨gb188,4,none⟩=some (.slice A1_4 l1_4.length c1_4):=(qAB BK188.out 4).trans rfl
     have hfz18_0:=qAC BK188.out 0
     have hfz18_1:=qAC BK188.out 1
     have hfz18_2:=qAC BK188.out 2
     have hfz18_3:=qAC BK188.out 3
     have hfz18_4:=qAC BK188.out 4
     go_wp2
     go_meet
     case rel=>exact ⟨_,(true),(by first | rfl | (simp;done) | (simp [*];done)),H',⟨by first | omega | exact Nat.le_refl _⟩,⟨by (with_reducible repeat (first | refine qAN ?_ _ | refine qAM ?_ | refine qAK ?_ _));exact BK187.out⟩,⟨by (with_reducible repeat (first | refine qAN ?_ _ | refine qAM ?_ | refine qAK ?_ _));exact BK188.out⟩,⟨by repeat (first | (with_reducible first | exact HB.out | apply qAF | apply qAD | apply qAG | refine qAL ?_ GE187.out | refine qAL ?_ GE188.out) | exact HB.out)⟩⟩
   ·rw [if_neg c7] at H
    have c7b0:(a0_1 == a1_1)=false:=beq_eq_false_iff_ne.mpr c7
    have c7b1:(a0_1 != a1_1)=true:=bne_iff_ne.mpr c7
    have H':=qAA.mk H
    clear H
    have hnb19:=NB187_188.out
    have hnc19:=NB188_187.out
    have hcz20_0:w5.cell? ⟨gb187,0,none⟩=some (.int .i64 a0_0):=(qAB BK187.out 0).trans rfl
    have hcz20_1:w5.cell? ⟨gb187,1,none⟩=some (.int .i64 a0_1):=(qAB BK187.out 1).trans rfl
    have hcz20_2:w5.cell? ⟨gb187,2,none⟩=some (.string a0_2):=(qAB BK187.out 2).trans rfl
    have hcz20_3:w5.cell? ⟨gb187,3,none⟩=some (.slice A0_3 l0_3.length c0_3):=(qAB BK187.out 3).trans rfl
    have hcz20_4:w5.cell? ⟨gb187,4,none⟩=some (.slice A0_4 l0_4.length c0_4):=(qAB BK187.out 4).trans rfl
    have hfz20_0:=qAC BK187.out 0
    have hfz20_1:=qAC BK187.out 1
    have hfz20_2:=qAC BK187.out 2
    have hfz20_3:=qAC BK187.out 3
    have hfz20_4:=qAC BK187.out 4
    have hcz21_0:w5.cell? ⟨gb188,0,none⟩=some (.int .i64 a1_0):=(qAB BK188.out 0).trans rfl
    have hcz21_1:w5.cell? ⟨gb188,1,none⟩=some (.int .i64 a1_1):=(qAB BK188.out 1).trans rfl
    have hcz21_2:w5.cell? ⟨gb188,2,none⟩=some (.string a1_2):=(qAB BK188.out 2).trans rfl
    have hcz21_3:w5.cell? ⟨gb188,3,none⟩=some (.slice A1_3 l1_3.length c1_3):=(qAB BK188.out 3).trans rfl
    have hcz21_4:w5.cell? ⟨gb188,4,none⟩=some (.slice A1_4 l1_4.length c1_4):=(qAB BK188.out 4).trans rfl
    have hfz21_0:=qAC BK188.out 0
    have hfz21_1:=qAC BK188.out 1
    have hfz21_2:=qAC BK188.out 2
    have hfz21_3:=qAC BK188.out 3
    have hfz21_4:=qAC BK188.out 4
    go_wp2
    go_meet
    case rel=>exact ⟨_,(true),(by first | rfl | (simp;done) | (simp [*];done)),H',⟨by first | omega | exact Nat.le_refl _⟩,⟨by (with_reducible repeat (first | refine qAN ?_ _ | refine qAM ?_ | refine qAK ?_ _));exact BK187.out⟩,⟨by (with_reducible repeat (first | refine qAN ?_ _ | refine qAM ?_ | refine qAK ?_ _));exact BK188.out⟩,⟨by repeat (first | (with_reducible first | exact HB.out | apply qAF | apply qAD | apply qAG | refine qAL ?_ GE187.out | refine qAL ?_ GE188.out) | exact HB.out)⟩⟩
  ·rw [if_neg c6] at H
   have c6b0:(a0_0 == a1_0)=false:=beq_eq_false_iff_ne.mpr c6
   have c6b1:(a0_0 != a1_0)=true:=bne_iff_ne.mpr c6
   (first | rw [c6b0] | (simp only [qAR,qAT];rw [c6b0]) | rw [c6b1] | (simp only [qAR,qAT];rw [c6b1]) | skip)
   have H':=qAA.mk H
   clear H
   have hnb22:=NB187_188.out
   have hnc22:=NB188_187.out
   have hcz23_0:w5.cell? ⟨gb187,0,none⟩=some (.int .i64 a0_0):=(qAB BK187.out 0).trans rfl
   have hcz23_1:w5.cell? ⟨gb187,1,none⟩=some (.int .i64 a0_1):=(qAB BK187.out 1).trans rfl
   have hcz23_2:w5.cell? ⟨gb187,2,none⟩=some (.string a0_2):=(qAB BK187.out 2).trans rfl
   have hcz23_3:w5.cell? ⟨gb187,3,none⟩=some (.slice A0_3 l0_3.length c0_3):=(qAB BK187.out 3).trans rfl
   have hcz23_4:w5.cell? ⟨gb187,4,none⟩=some (.slice A0_4 l0_4.length c0_4):=(qAB BK187.out 4).trans rfl
   have hfz23_0:=qAC BK187.out 0
   have hfz23_1:=qAC BK187.out 1
   have hfz23_2:=qAC BK187.out 2
   have hfz23_3:=qAC BK187.out 3
   have hfz23_4:=qAC BK187.out 4
   have hcz24_0:w5.cell? ⟨gb188,0,none⟩=some (.int .i64 a1_0):=(qAB BK188.out 0).trans rfl
   have hcz24_1:w5.cell? ⟨gb188,1,none⟩=some (.int .i64 a1_1):=(qAB BK188.out 1).trans rfl
   have hcz24_2:w5.cell? ⟨gb188,2,none⟩=some (.string a1_2):=(qAB BK188.out 2).trans rfl
   have hcz24_3:w5.cell? ⟨gb188,3,none⟩=some (.slice A1_3 l1_3.length c1_3):=(qAB BK188.out 3).trans rfl
   have hcz24_4:w5.cell? ⟨gb188,4,none⟩=some (.slice A1_4 l1_4.length c1_4):=(qAB BK188.out 4).trans rfl
   have hfz24_0:=qAC BK188.out 0
   have hfz24_1:=qAC BK188.out 1
   have hfz24_2:=qAC BK188.out 2
   have hfz24_3:=qAC BK188.out 3
   have hfz24_4:=qAC BK188.out 4
   go_wp2
   go_meet
   case rel=>exact ⟨_,(true),(by first | rfl | (simp;done) | (simp [*];done)),H',⟨by first | omega | exact Nat.le_refl _⟩,⟨by (with_reducible repeat (first | refine qAN ?_ _ | refine qAM ?_ | refine qAK ?_ _));exact BK187.out⟩,⟨by (with_reducible repeat (first | refine qAN ?_ _ | refine qAM ?_ | refine qAK ?_ _));exact BK188.out⟩,⟨by repeat (first | (with_reducible first | exact HB.out | apply qAF | apply qAD | apply qAG | refine qAL ?_ GE187.out | refine qAL ?_ GE188.out) | exact HB.out)⟩⟩
 case rest =>
  clear HC3
  try clear c1
  try clear c2
  try clear p2
  try clear c3
  try clear c6
  try clear c6b0
  try clear c6b1
  try clear c7
  try clear c7b0
  try clear c7b1
  try clear c8
  try clear c8b0
  try clear c8b1
  try clear c9
  try clear c9b0
  try clear c9b1
  try clear c9b2
  try clear c10
  try clear c13
  try clear c16
  try clear c19
  try clear c22
  try clear hcz11_0
  try clear hcz11_1
  try clear hcz11_2
  try clear hcz11_3
  try clear hcz11_4
  try clear hcz12_0
  try clear hcz12_1
  try clear hcz12_2
  try clear hcz12_3
  try clear hcz12_4
  try clear hcz14_0
  try clear hcz14_1
  try clear hcz14_2
  try clear hcz14_3
  try clear hcz14_4
  try clear hcz15_0
  try clear hcz15_1
  try clear hcz15_2
  try clear hcz15_3
  try clear hcz15_4
  try clear hcz17_0
  try clear hcz17_1
  try clear hcz17_2
  try clear hcz17_3
  try clear hcz17_4
  try clear hcz18_0
  try clear hcz18_1
  try clear hcz18_2
  try clear hcz18_3
  try clear hcz18_4
  try clear hcz20_0
  try clear hcz20_1
  try clear hcz20_2
  try clear hcz20_3
  try clear hcz20_4
  try clear hcz21_0
  try clear hcz21_1
  try clear hcz21_2
  try clear hcz21_3
  try clear hcz21_4
  try clear hcz23_0
  try clear hcz23_1
  try clear hcz23_2
  try clear hcz23_3
  try clear hcz23_4
  try clear hcz24_0
  try clear hcz24_1
  try clear hcz24_2
  try clear hcz24_3
  try clear hcz24_4
  try clear hfz11_0
  try clear hfz11_1
  try clear hfz11_2
  try clear hfz11_3
  try clear hfz11_4
  try clear hfz12_0
  try clear hfz12_1
  try clear hfz12_2
  try clear hfz12_3
  try clear hfz12_4
  try clear hfz14_0
  try clear hfz14_1
  try clear hfz14_2
  try clear hfz14_3
  try clear hfz14_4
  try clear hfz15_0
  try clear hfz15_1
  try clear hfz15_2
  try clear hfz15_3
  try clear hfz15_4
  try clear hfz17_0
  try clear hfz17_1
  try clear hfz17_2
  try clear hfz17_3
  try clear hfz17_4
  try clear hfz18_0
  try clear hfz18_1
  try clear hfz18_2
  try clear hfz18_3
  try clear hfz18_4
  try clear hfz20_0
  try clear hfz20_1
  try clear hfz20_2
  try clear hfz20_3
  try clear hfz20_4
  try clear hfz21_0
  try clear hfz21_1
  try clear hfz21_2
  try clear hfz21_3
  try clear hfz21_4
  try clear hfz23_0
  try clear hfz23_1
  try clear hfz23_2
  try clear hfz23_3
  try clear hfz23_4
  try clear hfz24_0
  try clear hfz24_1
  try clear hfz24_2
  try clear hfz24_3
  try clear hfz24_4
  obtain ⟨kq,x44_2,rfl,HA,HJ2,BK187,BK188,HB⟩:=hcut
  cases kq with
  | zero=>exact absurd HA.out (by simp [qAH.j0])
  | succ kj2 =>
   have H:=HA.out
   clear HA
   simp only [qAH.j0] at H
   by_cases c25:x44_2=true
   ·subst c25
    have H1:(some false)=some r:=by rw [if_pos rfl] at H;exact H
    clear H
    have H:=H1
    clear H1
    obtain rfl:=Option.some.inj H
    simp only [Option.some.injEq,Prod.mk.injEq] at H
    obtain ⟨rfl⟩:=H
    go_wp2
    go_ret
    exact ⟨by first | rfl | (simp [qAa,qAZ] <;> rfl) | (simp [*,qAa,qAZ] <;> rfl),by repeat (first | (with_reducible first | exact HB.out | apply qAF | apply qAD | apply qAG | refine qAL ?_ GE187.out | refine qAL ?_ GE188.out) | exact HB.out)⟩
   ·replace c25:=Bool.eq_false_iff.mpr c25
    subst c25
    have H1:(qAH.l0 kj2 0 a0_0 a0_1 a0_2 l0_3 l0_4 a1_0 a1_1 a1_2 l1_3 l1_4)=some r:=by rw [if_neg (show ¬ (false=true) by decide)] at H;exact H
    clear H
    have H:=H1
    clear H1
    have H':=qAA.mk H
    clear H
    go_wp2
    go_loopg [5] kj2 (fun kq v5 w'=>∃ (x5_2:Int),v5=.int .i64 x5_2∧qAA (qAH.l0 kq x5_2 a0_0 a0_1 a0_2 l0_3 l0_4 a1_0 a1_1 a1_2 l1_3 l1_4=some r)∧qAA (kq≤kj2)∧qAA (w'.heap[gb187]?=some (.cells #[.int .i64 a0_0,.int .i64 a0_1,.string a0_2,(.slice A0_3 l0_3.length c0_3),(.slice A0_4 l0_4.length c0_4)] 25 (0,0)))∧qAA (w'.heap[gb188]?=some (.cells #[.int .i64 a1_0,.int .i64 a1_1,.string a1_2,(.slice A1_3 l1_3.length c1_3),(.slice A1_4 l1_4.length c1_4)] 25 (0,0)))∧qAA (Below w.heap.size w w'))
    case atStart=>exact ⟨(0),(by first | rfl | (simp;done) | (simp [*];done)),H',⟨Nat.le_refl _⟩,⟨by (with_reducible repeat (first | refine qAN ?_ _ | refine qAM ?_ | refine qAK ?_ _));exact BK187.out⟩,⟨by (with_reducible repeat (first | refine qAN ?_ _ | refine qAM ?_ | refine qAK ?_ _));exact BK188.out⟩,⟨by repeat (first | (with_reducible first | exact HB.out | apply qAF | apply qAD | apply qAG | refine qAL ?_ GE187.out | refine qAL ?_ GE188.out) | exact HB.out)⟩⟩
    case round =>
     clear H'
     try clear c1
     try clear c2
     try clear p2
     try clear c3
     try clear c6
     try clear c6b0
     try clear c6b1
     try clear c7
     try clear c7b0
     try clear c7b1
     try clear c8
     try clear c8b0
     try clear c8b1
     try clear c9
     try clear c9b0
     try clear c9b1
     try clear c9b2
     try clear c10
     try clear c13
     try clear c16
     try clear c19
     try clear c22
     try clear c25
     try clear hcz11_0
     try clear hcz11_1
     try clear hcz11_2
     try clear hcz11_3
     try clear hcz11_4
     try clear hcz12_0
     try clear hcz12_1
     try clear hcz12_2
     try clear hcz12_3
     try clear hcz12_4
     try clear hcz14_0
     try clear hcz14_1
     try clear hcz14_2
     try clear hcz14_3
     try clear hcz14_4
     try clear hcz15_0
     try clear hcz15_1
     try clear hcz15_2
     try clear hcz15_3
     try clear hcz15_4
     try clear hcz17_0
     try clear hcz17_1
     try clear hcz17_2
     try clear hcz17_3
     try clear hcz17_4
     try clear hcz18_0
     try clear hcz18_1
     try clear hcz18_2
     try clear hcz18_3
     try clear hcz18_4
     try clear hcz20_0
     try clear hcz20_1
     try clear hcz20_2
     try clear hcz20_3
     try clear hcz20_4
     try clear hcz21_0
     try clear hcz21_1
     try clear hcz21_2
     try clear hcz21_3
     try clear hcz21_4
     try clear hcz23_0
     try clear hcz23_1
     try clear hcz23_2
     try clear hcz23_3
     try clear hcz23_4
     try clear hcz24_0
     try clear hcz24_1
     try clear hcz24_2
     try clear hcz24_3
     try clear hcz24_4
     try clear hfz11_0
     try clear hfz11_1
     try clear hfz11_2
     try clear hfz11_3
     try clear hfz11_4
     try clear hfz12_0
     try clear hfz12_1
     try clear hfz12_2
     try clear hfz12_3
     try clear hfz12_4
     try clear hfz14_0
     try clear hfz14_1
     try clear hfz14_2
     try clear hfz14_3
     try clear hfz14_4
     try clear hfz15_0
     try clear hfz15_1
     try clear hfz15_2
     try clear hfz15_3
     try clear hfz15_4
     try clear hfz17_0
     try clear hfz17_1
     try clear hfz17_2
     try clear hfz17_3
     try clear hfz17_4
     try clear hfz18_0
     try clear hfz18_1
     try clear hfz18_2
     try clear hfz18_3
     try clear hfz18_4
     try clear hfz20_0
     try clear hfz20_1
     try clear hfz20_2
     try clear hfz20_3
     try clear hfz20_4
     try clear hfz21_0
     try clear hfz21_1
     try clear hfz21_2
     try clear hfz21_3
     try clear hfz21_4
     try clear hfz23_0
     try clear hfz23_1
     try clear hfz23_2
     try clear hfz23_3
     try clear hfz23_4
     try clear hfz24_0
     try clear hfz24_1
     try clear hfz24_2
     try clear hfz24_3
     try clear hfz24_4
     try clear p2
     obtain ⟨x5_2,rfl,HA,HK2,BK187,BK188,HB⟩:=hrel
     cases gk with
     | zero=>exact absurd HA.out (by simp [qAH.l0])
     | succ k2 =>
      have H:=HA.out
      clear HA
      simp only [qAH.l0] at H
      by_cases c26:x5_2 < (l0_4.length:Int)
      ·rw [if_pos c26] at H
       have c26b0:decide (x5_2 < (l0_4.length:Int))=true:=decide_eq_true c26
       clear c26
       by_cases c27:0≤x5_2
       ·rw [if_pos c27] at H
        have c27b0:decide (0≤x5_2)=true:=decide_eq_true c27
        clear c27
        by_cases c28:x5_2 < (l1_4.length:Int)
        ·rw [if_pos c28] at H
         have c28b0:decide (x5_2 < (l1_4.length:Int))=true:=decide_eq_true c28
         clear c28
         by_cases c29:(rdOf ByteArray.empty l0_4 x5_2).toList=(rdOf ByteArray.empty l1_4 x5_2).toList
         ·rw [if_pos c29] at H
          have c29b0:((rdOf ByteArray.empty l0_4 x5_2).toList == (rdOf ByteArray.empty l1_4 x5_2).toList)=true:=beq_iff_eq.mpr c29
          have c29b1:((rdOf ByteArray.empty l0_4 x5_2).toList != (rdOf ByteArray.empty l1_4 x5_2).toList)=false:=bne_eq_false_iff_eq.mpr c29
          clear c29
          have H':=qAA.mk H
          clear H
          have hnb30:=NB187_188.out
          have hnc30:=NB188_187.out
          have hcz31_0:wr.cell? ⟨gb187,0,none⟩=some (.int .i64 a0_0):=(qAB BK187.out 0).trans rfl
          have hcz31_1:wr.cell? ⟨gb187,1,none⟩=some (.int .i64 a0_1):=(qAB BK187.out 1).trans rfl
          have hcz31_2:wr.cell? ⟨gb187,2,none⟩=some (.string a0_2):=(qAB BK187.out 2).trans rfl
          have hcz31_3:wr.cell? ⟨gb187,3,none⟩=some (.slice A0_3 l0_3.length c0_3):=(qAB BK187.out 3).trans rfl
          have hcz31_4:wr.cell? ⟨gb187,4,none⟩=some (.slice A0_4 l0_4.length c0_4):=(qAB BK187.out 4).trans rfl
          have hfz31_0:=qAC BK187.out 0
          have hfz31_1:=qAC BK187.out 1
          have hfz31_2:=qAC BK187.out 2
          have hfz31_3:=qAC BK187.out 3
          have hfz31_4:=qAC BK187.out 4
          try go_wp2
          have n0_:=qAA.mk (qAM BK187.out)
          have n1_:=qAA.mk (qAM BK188.out)
          have n2_:=qAA.mk (qAG HB.out)
          clear BK187
          clear BK188
          clear HB
          have BK187:=n0_
          have BK188:=n1_
          have HB:=n2_
          clear n0_ n1_ n2_
          have p189:0≤(x5_2:Int):=of_decide_eq_true (by first | (with_reducible assumption) | assumption)
          have q189:x5_2 < (l0_4.length:Int):=of_decide_eq_true (by first | (with_reducible assumption) | assumption)
          obtain ⟨ad189,e189,hx189_0⟩:=Kd.qBT HR0_4.out x5_2 p189 q189
          have hw189_0:=hx189_0
          cases e189
          replace hx189_0:=(HB.out.cell (qs4 w _ hx189_0)).trans hx189_0
          replace p189:=eq_true p189
          replace q189:=eq_true q189
          have p190:0≤(x5_2:Int):=of_decide_eq_true (by first | (with_reducible assumption) | assumption)
          have q190:x5_2 < (l1_4.length:Int):=of_decide_eq_true (by first | (with_reducible assumption) | assumption)
          obtain ⟨ad190,e190,hx190_0⟩:=Kd.qBT HR1_4.out x5_2 p190 q190
          have hw190_0:=hx190_0
          cases e190
          replace hx190_0:=(HB.out.cell (qs4 w _ hx190_0)).trans hx190_0
          replace p190:=eq_true p190
          replace q190:=eq_true q190
          refine qBd (n:=11) (S:=fun w'=>w'.cell? ⟨gb187,0,none⟩=some (.int .i64 a0_0)∧w'.cell? ⟨gb187,1,none⟩=some (.int .i64 a0_1)∧w'.cell? ⟨gb187,2,none⟩=some (.string a0_2)∧w'.cell? ⟨gb187,3,none⟩=some (.slice A0_3 l0_3.length c0_3)∧w'.cell? ⟨gb187,4,none⟩=some (.slice (some ad189) l0_4.length c0_4)∧w'.cell? ⟨gb188,0,none⟩=some (.int .i64 a1_0)∧w'.cell? ⟨gb188,1,none⟩=some (.int .i64 a1_1)∧w'.cell? ⟨gb188,2,none⟩=some (.string a1_2)∧w'.cell? ⟨gb188,3,none⟩=some (.slice A1_3 l1_3.length c1_3)∧w'.cell? ⟨gb188,4,none⟩=some (.slice (some ad190) l1_4.length c1_4)∧w'.cell? (ad189.add (x5_2).toNat)=some (.string (rdOf ByteArray.empty l0_4 x5_2))∧w'.cell? (ad190.add (x5_2).toNat)=some (.string (rdOf ByteArray.empty l1_4 x5_2))) (ds:=[]) #[qF,qF,qF,qF,qF,qF,qF,qF,qF,qF,qF] (by kernel_rfl) rfl rfl ⟨(qAB BK187.out 0).trans rfl,(qAB BK187.out 1).trans rfl,(qAB BK187.out 2).trans rfl,(qAB BK187.out 3).trans rfl,(qAB BK187.out 4).trans rfl,(qAB BK188.out 0).trans rfl,(qAB BK188.out 1).trans rfl,(qAB BK188.out 2).trans rfl,(qAB BK188.out 3).trans rfl,(qAB BK188.out 4).trans rfl,((HB.out.cell (qs4 w _ hw189_0)).trans hw189_0),((HB.out.cell (qs4 w _ hw190_0)).trans hw190_0)⟩ (fun hHeld => ?_);refine qCU qAH.tab6 qAH.bits6 (fun HT_ HW_ => ?_)
          generalize wr.drew=w32 at BK187 BK188 HB hx189_0 hx190_0 hHeld ⊢
          refine qAd (i:=0) (N:=some 52) (v := ?_) (a' := ?_) #[qT,qF,qF,qF,qF,qF,qF,qF,qF,qF,qF] rfl rfl (qBY HT_.out (by kernel_rfl)) (fun _ _ _ h=>h) (Or.inl ⟨by rfl, ?_⟩) ?_ ?_
          rotate_left
          ·intro w'
           go_simp
           with_reducible rfl
          rotate_left
          ·simp only [Act.put,qs1,qs2,qs3,qAR,qAT]
           rfl
          refine qAd (i:=2) (N:=some 54) (v := ?_) (a' := ?_) #[qT,qF,qT,qF,qF,qF,qF,qF,qF,qF,qF] rfl rfl (qBY HT_.out (by kernel_rfl)) (fun _ _ _ h=>h) (Or.inl ⟨by rfl, ?_⟩) ?_ ?_
          rotate_left
          ·intro w'
           go_simp
           with_reducible rfl
          rotate_left
          ·simp only [Act.put,qs1,qs2,qs3,qAR,qAT]
           rfl
          refine qAd (i:=5) (N:=some 57) (v := ?_) (a' := ?_) #[qT,qF,qT,qF,qF,qT,qF,qF,qF,qF,qF] rfl rfl (qBY HT_.out (by kernel_rfl)) (fun _ _ _ h=>h) (Or.inl ⟨by rfl, ?_⟩) ?_ ?_
          rotate_left
          ·intro w'
           go_simp
           with_reducible rfl
          rotate_left
          ·simp only [Act.put,qs1,qs2,qs3,qAR,qAT]
           rfl
          refine qAd (i:=7) (N:=some 59) (v := ?_) (a' := ?_) #[qT,qF,qT,qF,qF,qT,qF,qT,qF,qF,qF] rfl rfl (qBY HT_.out (by kernel_rfl)) (fun _ _ _ h=>h) (Or.inl ⟨by rfl, ?_⟩) ?_ ?_
          rotate_left
          ·intro w'
           go_simp
           with_reducible rfl
          rotate_left
          ·simp only [Act.put,qs1,qs2,qs3,qAR,qAT]
           rfl
          refine qBP (i:=1) (N:=some 53) (v := ?_) (a' := ?_) #[qT,qT,qT,qF,qF,qT,qF,qT,qF,qF,qF] rfl rfl (qBe HT_.out HW_.out (by kernel_rfl)) (fun _ _ _ h=>h) (Or.inl ⟨by rfl, ?_⟩) hHeld ?_ ?_
          rotate_left
          ·rintro w' ⟨s0,s1,s2,s3,s4,s5,s6,s7,s8,s9,s10,s11⟩
           go_simp
           with_reducible rfl
          rotate_left
          ·simp only [Act.put,qs1,qs2,qs3,qAR,qAT]
           rfl
          refine qAd (i:=3) (N:=some 55) (v := ?_) (a' := ?_) #[qT,qT,qT,qT,qF,qT,qF,qT,qF,qF,qF] rfl rfl (qBY HT_.out (by kernel_rfl)) (fun _ _ _ h=>h) (Or.inl ⟨by rfl, ?_⟩) ?_ ?_
          rotate_left
          ·intro w'
           go_simp
           with_reducible rfl
          rotate_left
          ·simp only [Act.put,qs1,qs2,qs3,qAR,qAT]
           rfl
          refine qBP (i:=4) (N:=some 56) (v := ?_) (a' := ?_) #[qT,qT,qT,qT,qT,qT,qF,qT,qF,qF,qF] rfl rfl (qBe HT_.out HW_.out (by kernel_rfl)) (fun _ _ _ h=>h) (Or.inl ⟨by rfl, ?_⟩) hHeld ?_ ?_
          rotate_left
          ·rintro w' ⟨s0,s1,s2,s3,s4,s5,s6,s7,s8,s9,s10,s11⟩
           go_simp
           with_reducible rfl
          rotate_left
          ·simp only [Act.put,qs1,qs2,qs3,qAR,qAT]
           rfl
          refine qBP (i:=6) (N:=some 58) (v := ?_) (a' := ?_) #[qT,qT,qT,qT,qT,qT,qT,qT,qF,qF,qF] rfl rfl (qBe HT_.out HW_.out (by kernel_rfl)) (fun _ _ _ h=>h) (Or.inl ⟨by rfl, ?_⟩) hHeld ?_ ?_
          rotate_left
          ·rintro w' ⟨s0,s1,s2,s3,s4,s5,s6,s7,s8,s9,s10,s11⟩
           go_simp
           with_reducible rfl
          rotate_left
          ·simp only [Act.put,qs1,qs2,qs3,qAR,qAT]
           rfl
          refine qAd (i:=8) (N:=some 60) (v := ?_) (a' := ?_) #[qT,qT,qT,qT,qT,qT,qT,qT,qT,qF,qF] rfl rfl (qBY HT_.out (by kernel_rfl)) (fun _ _ _ h=>h) (Or.inl ⟨by rfl, ?_⟩) ?_ ?_
          rotate_left
          ·intro w'
           go_simp
           with_reducible rfl
          rotate_left
          ·simp only [Act.put,qs1,qs2,qs3,qAR,qAT]
           rfl
          refine qBP (i:=9) (N:=some 61) (v := ?_) (a' := ?_) #[qT,qT,qT,qT,qT,qT,qT,qT,qT,qT,qF] rfl rfl (qBe HT_.out HW_.out (by kernel_rfl)) (fun _ _ _ h=>h) (Or.inl ⟨by rfl, ?_⟩) hHeld ?_ ?_
          rotate_left
          ·rintro w' ⟨s0,s1,s2,s3,s4,s5,s6,s7,s8,s9,s10,s11⟩
           go_simp
           with_reducible rfl
          rotate_left
          ·simp only [Act.put,qs1,qs2,qs3,qAR,qAT]
           rfl
          refine qAd (i:=10) (N:=some 62) (v := ?_) (a' := ?_) #[qT,qT,qT,qT,qT,qT,qT,qT,qT,qT,qT] rfl rfl (qBY HT_.out (by kernel_rfl)) (fun _ _ _ h=>h) (Or.inl ⟨by rfl, ?_⟩) ?_ ?_
          rotate_left
          ·intro w'
           go_simp
           with_reducible rfl
          rotate_left
          ·simp only [Act.put,qs1,qs2,qs3,qAR,qAT]
           rfl
          refine qBu (done_of HT_.out (by kernel_rfl)) ?_
          try go_wp2
          go_roundg k2
          case measure=>have:=HJ2.out;have:=HK2.out;omega
          case rel=>exact ⟨(wrap64 (x5_2+1)),(by first | rfl | (simp;done) | (simp [*];done)),H',⟨by have:=HJ2.out;have:=HK2.out;omega⟩,⟨by (with_reducible repeat (first | refine qAN ?_ _ | refine qAM ?_ | refine qAK ?_ _));exact BK187.out⟩,⟨by (with_reducible repeat (first | refine qAN ?_ _ | refine qAM ?_ | refine qAK ?_ _));exact BK188.out⟩,⟨by repeat (first | (with_reducible first | exact HB.out | apply qAF | apply qAD | apply qAG | refine qAL ?_ GE187.out | refine qAL ?_ GE188.out) | exact HB.out)⟩⟩
         ·rw [if_neg c29] at H
          have c29b0:((rdOf ByteArray.empty l0_4 x5_2).toList == (rdOf ByteArray.empty l1_4 x5_2).toList)=false:=beq_eq_false_iff_ne.mpr c29
          have c29b1:((rdOf ByteArray.empty l0_4 x5_2).toList != (rdOf ByteArray.empty l1_4 x5_2).toList)=true:=bne_iff_ne.mpr c29
          obtain rfl:=Option.some.inj H
          simp only [Option.some.injEq,Prod.mk.injEq] at H
          obtain ⟨rfl⟩:=H
          have hnb33:=NB187_188.out
          have hnc33:=NB188_187.out
          have hcz34_0:wr.cell? ⟨gb187,0,none⟩=some (.int .i64 a0_0):=(qAB BK187.out 0).trans rfl
          have hcz34_1:wr.cell? ⟨gb187,1,none⟩=some (.int .i64 a0_1):=(qAB BK187.out 1).trans rfl
          have hcz34_2:wr.cell? ⟨gb187,2,none⟩=some (.string a0_2):=(qAB BK187.out 2).trans rfl
          have hcz34_3:wr.cell? ⟨gb187,3,none⟩=some (.slice A0_3 l0_3.length c0_3):=(qAB BK187.out 3).trans rfl
          have hcz34_4:wr.cell? ⟨gb187,4,none⟩=some (.slice A0_4 l0_4.length c0_4):=(qAB BK187.out 4).trans rfl
          have hfz34_0:=qAC BK187.out 0
          have hfz34_1:=qAC BK187.out 1
          have hfz34_2:=qAC BK187.out 2
          have hfz34_3:=qAC BK187.out 3
          have hfz34_4:=qAC BK187.out 4
          try go_wp2
          have n0_:=qAA.mk (qAM BK187.out)
          have n1_:=qAA.mk (qAM BK188.out)
          have n2_:=qAA.mk (qAG HB.out)
          clear BK187
          clear BK188
          clear HB
          have BK187:=n0_
          have BK188:=n1_
          have HB:=n2_
          clear n0_ n1_ n2_
          have p189:0≤(x5_2:Int):=of_decide_eq_true (by first | (with_reducible assumption) | assumption)
          have q189:x5_2 < (l0_4.length:Int):=of_decide_eq_true (by first | (with_reducible assumption) | assumption)
          obtain ⟨ad189,e189,hx189_0⟩:=Kd.qBT HR0_4.out x5_2 p189 q189
          have hw189_0:=hx189_0
          cases e189
          replace hx189_0:=(HB.out.cell (qs4 w _ hx189_0)).trans hx189_0
          replace p189:=eq_true p189
          replace q189:=eq_true q189
          have p190:0≤(x5_2:Int):=of_decide_eq_true (by first | (with_reducible assumption) | assumption)
          have q190:x5_2 < (l1_4.length:Int):=of_decide_eq_true (by first | (with_reducible assumption) | assumption)
          obtain ⟨ad190,e190,hx190_0⟩:=Kd.qBT HR1_4.out x5_2 p190 q190
          have hw190_0:=hx190_0
          cases e190
          replace hx190_0:=(HB.out.cell (qs4 w _ hx190_0)).trans hx190_0
          replace p190:=eq_true p190
          replace q190:=eq_true q190
          refine qBd (n:=11) (S:=fun w'=>w'.cell? ⟨gb187,0,none⟩=some (.int .i64 a0_0)∧w'.cell? ⟨gb187,1,none⟩=some (.int .i64 a0_1)∧w'.cell? ⟨gb187,2,none⟩=some (.string a0_2)∧w'.cell? ⟨gb187,3,none⟩=some (.slice A0_3 l0_3.length c0_3)∧w'.cell? ⟨gb187,4,none⟩=some (.slice (some ad189) l0_4.length c0_4)∧w'.cell? ⟨gb188,0,none⟩=some (.int .i64 a1_0)∧w'.cell? ⟨gb188,1,none⟩=some (.int .i64 a1_1)∧w'.cell? ⟨gb188,2,none⟩=some (.string a1_2)∧w'.cell? ⟨gb188,3,none⟩=some (.slice A1_3 l1_3.length c1_3)∧w'.cell? ⟨gb188,4,none⟩=some (.slice (some ad190) l1_4.length c1_4)∧w'.cell? (ad189.add (x5_2).toNat)=some (.string (rdOf ByteArray.empty l0_4 x5_2))∧w'.cell? (ad190.add (x5_2).toNat)=some (.string (rdOf ByteArray.empty l1_4 x5_2))) (ds:=[]) #[qF,qF,qF,qF,qF,qF,qF,qF,qF,qF,qF] (by kernel_rfl) rfl rfl ⟨(qAB BK187.out 0).trans rfl,(qAB BK187.out 1).trans rfl,(qAB BK187.out 2).trans rfl,(qAB BK187.out 3).trans rfl,(qAB BK187.out 4).trans rfl,(qAB BK188.out 0).trans rfl,(qAB BK188.out 1).trans rfl,(qAB BK188.out 2).trans rfl,(qAB BK188.out 3).trans rfl,(qAB BK188.out 4).trans rfl,((HB.out.cell (qs4 w _ hw189_0)).trans hw189_0),((HB.out.cell (qs4 w _ hw190_0)).trans hw190_0)⟩ (fun hHeld => ?_);refine qCU qAH.tab6 qAH.bits6 (fun HT_ HW_ => ?_)
          generalize wr.drew=w35 at BK187 BK188 HB hx189_0 hx190_0 hHeld ⊢
          refine qAd (i:=0) (N:=some 52) (v := ?_) (a' := ?_) #[qT,qF,qF,qF,qF,qF,qF,qF,qF,qF,qF] rfl rfl (qBY HT_.out (by kernel_rfl)) (fun _ _ _ h=>h) (Or.inl ⟨by rfl, ?_⟩) ?_ ?_
          rotate_left
          ·intro w'
           go_simp
           with_reducible rfl
          rotate_left
          ·simp only [Act.put,qs1,qs2,qs3,qAR,qAT]
           rfl
          refine qAd (i:=2) (N:=some 54) (v := ?_) (a' := ?_) #[qT,qF,qT,qF,qF,qF,qF,qF,qF,qF,qF] rfl rfl (qBY HT_.out (by kernel_rfl)) (fun _ _ _ h=>h) (Or.inl ⟨by rfl, ?_⟩) ?_ ?_
          rotate_left
          ·intro w'
           go_simp
           with_reducible rfl
          rotate_left
          ·simp only [Act.put,qs1,qs2,qs3,qAR,qAT]
           rfl
          refine qAd (i:=5) (N:=some 57) (v := ?_) (a' := ?_) #[qT,qF,qT,qF,qF,qT,qF,qF,qF,qF,qF] rfl rfl (qBY HT_.out (by kernel_rfl)) (fun _ _ _ h=>h) (Or.inl ⟨by rfl, ?_⟩) ?_ ?_
          rotate_left
          ·intro w'
           go_simp
           with_reducible rfl
          rotate_left
          ·simp only [Act.put,qs1,qs2,qs3,qAR,qAT]
           rfl
          refine qAd (i:=7) (N:=some 59) (v := ?_) (a' := ?_) #[qT,qF,qT,qF,qF,qT,qF,qT,qF,qF,qF] rfl rfl (qBY HT_.out (by kernel_rfl)) (fun _ _ _ h=>h) (Or.inl ⟨by rfl, ?_⟩) ?_ ?_
          rotate_left
          ·intro w'
           go_simp
           with_reducible rfl
          rotate_left
          ·simp only [Act.put,qs1,qs2,qs3,qAR,qAT]
           rfl
          refine qBP (i:=1) (N:=some 53) (v := ?_) (a' := ?_) #[qT,qT,qT,qF,qF,qT,qF,qT,qF,qF,qF] rfl rfl (qBe HT_.out HW_.out (by kernel_rfl)) (fun _ _ _ h=>h) (Or.inl ⟨by rfl, ?_⟩) hHeld ?_ ?_
          rotate_left
          ·rintro w' ⟨s0,s1,s2,s3,s4,s5,s6,s7,s8,s9,s10,s11⟩
           go_simp
           with_reducible rfl
          rotate_left
          ·simp only [Act.put,qs1,qs2,qs3,qAR,qAT]
           rfl
          refine qAd (i:=3) (N:=some 55) (v := ?_) (a' := ?_) #[qT,qT,qT,qT,qF,qT,qF,qT,qF,qF,qF] rfl rfl (qBY HT_.out (by kernel_rfl)) (fun _ _ _ h=>h) (Or.inl ⟨by rfl, ?_⟩) ?_ ?_
          rotate_left
          ·intro w'
           go_simp
           with_reducible rfl
          rotate_left
          ·simp only [Act.put,qs1,qs2,qs3,qAR,qAT]
           rfl
          refine qBP (i:=4) (N:=some 56) (v := ?_) (a' := ?_) #[qT,qT,qT,qT,qT,qT,qF,qT,qF,qF,qF] rfl rfl (qBe HT_.out HW_.out (by kernel_rfl)) (fun _ _ _ h=>h) (Or.inl ⟨by rfl, ?_⟩) hHeld ?_ ?_
          rotate_left
          ·rintro w' ⟨s0,s1,s2,s3,s4,s5,s6,s7,s8,s9,s10,s11⟩
           go_simp
           with_reducible rfl
          rotate_left
          ·simp only [Act.put,qs1,qs2,qs3,qAR,qAT]
           rfl
          refine qBP (i:=6) (N:=some 58) (v := ?_) (a' := ?_) #[qT,qT,qT,qT,qT,qT,qT,qT,qF,qF,qF] rfl rfl (qBe HT_.out HW_.out (by kernel_rfl)) (fun _ _ _ h=>h) (Or.inl ⟨by rfl, ?_⟩) hHeld ?_ ?_
          rotate_left
          ·rintro w' ⟨s0,s1,s2,s3,s4,s5,s6,s7,s8,s9,s10,s11⟩
           go_simp
           with_reducible rfl
          rotate_left
          ·simp only [Act.put,qs1,qs2,qs3,qAR,qAT]
           rfl
          refine qAd (i:=8) (N:=some 60) (v := ?_) (a' := ?_) #[qT,qT,qT,qT,qT,qT,qT,qT,qT,qF,qF] rfl rfl (qBY HT_.out (by kernel_rfl)) (fun _ _ _ h=>h) (Or.inl ⟨by rfl, ?_⟩) ?_ ?_
          rotate_left
          ·intro w'
           go_simp
           with_reducible rfl
          rotate_left
          ·simp only [Act.put,qs1,qs2,qs3,qAR,qAT]
           rfl
          refine qBP (i:=9) (N:=some 61) (v := ?_) (a' := ?_) #[qT,qT,qT,qT,qT,qT,qT,qT,qT,qT,qF] rfl rfl (qBe HT_.out HW_.out (by kernel_rfl)) (fun _ _ _ h=>h) (Or.inl ⟨by rfl, ?_⟩) hHeld ?_ ?_
          rotate_left
          ·rintro w' ⟨s0,s1,s2,s3,s4,s5,s6,s7,s8,s9,s10,s11⟩
           go_simp
           with_reducible rfl
          rotate_left
          ·simp only [Act.put,qs1,qs2,qs3,qAR,qAT]
           rfl
          refine qAd (i:=10) (N:=some 62) (v := ?_) (a' := ?_) #[qT,qT,qT,qT,qT,qT,qT,qT,qT,qT,qT] rfl rfl (qBY HT_.out (by kernel_rfl)) (fun _ _ _ h=>h) (Or.inl ⟨by rfl, ?_⟩) ?_ ?_
          rotate_left
          ·intro w'
           go_simp
           with_reducible rfl
          rotate_left
          ·simp only [Act.put,qs1,qs2,qs3,qAR,qAT]
           rfl
          refine qBu (done_of HT_.out (by kernel_rfl)) ?_
          try go_wp2
          go_ret
          exact ⟨by first | rfl | (simp [qAa,qAZ] <;> rfl) | (simp [*,qAa,qAZ] <;> rfl),by repeat (first | (with_reducible first | exact HB.out | apply qAF | apply qAD | apply qAG | refine qAL ?_ GE187.out | refine qAL ?_ GE188.out) | exact HB.out)⟩
        ·rw [if_neg c28] at H
         exact absurd H (by simp)
       ·rw [if_neg c27] at H
        exact absurd H (by simp)
      ·rw [if_neg c26] at H
       have c26b0:decide (x5_2 < (l0_4.length:Int))=false:=decide_eq_false c26
       clear c26
       have H':=qAA.mk H
       clear H
       have hnb36:=NB187_188.out
       have hnc36:=NB188_187.out
       have hcz37_0:wr.cell? ⟨gb187,0,none⟩=some (.int .i64 a0_0):=(qAB BK187.out 0).trans rfl
       have hcz37_1:wr.cell? ⟨gb187,1,none⟩=some (.int .i64 a0_1):=(qAB BK187.out 1).trans rfl
       have hcz37_2:wr.cell? ⟨gb187,2,none⟩=some (.string a0_2):=(qAB BK187.out 2).trans rfl
       have hcz37_3:wr.cell? ⟨gb187,3,none⟩=some (.slice A0_3 l0_3.length c0_3):=(qAB BK187.out 3).trans rfl
       have hcz37_4:wr.cell? ⟨gb187,4,none⟩=some (.slice A0_4 l0_4.length c0_4):=(qAB BK187.out 4).trans rfl
       have hfz37_0:=qAC BK187.out 0
       have hfz37_1:=qAC BK187.out 1
       have hfz37_2:=qAC BK187.out 2
       have hfz37_3:=qAC BK187.out 3
       have hfz37_4:=qAC BK187.out 4
       go_wp2
       go_loopg [6] k2 (fun kq v6 w'=>∃ (x6_3:Int),v6=.int .i64 x6_3∧qAA (qAH.l1 kq x6_3 a0_0 a0_1 a0_2 l0_3 l0_4 a1_0 a1_1 a1_2 l1_3 l1_4=some r)∧qAA (kq≤k2)∧qAA (w'.heap[gb187]?=some (.cells #[.int .i64 a0_0,.int .i64 a0_1,.string a0_2,(.slice A0_3 l0_3.length c0_3),(.slice A0_4 l0_4.length c0_4)] 25 (0,0)))∧qAA (w'.heap[gb188]?=some (.cells #[.int .i64 a1_0,.int .i64 a1_1,.string a1_2,(.slice A1_3 l1_3.length c1_3),(.slice A1_4 l1_4.length c1_4)] 25 (0,0)))∧qAA (Below w.heap.size w w'))
       case atStart=>exact ⟨(0),(by first | rfl | (simp;done) | (simp [*];done)),H',⟨Nat.le_refl _⟩,⟨by (with_reducible repeat (first | refine qAN ?_ _ | refine qAM ?_ | refine qAK ?_ _));exact BK187.out⟩,⟨by (with_reducible repeat (first | refine qAN ?_ _ | refine qAM ?_ | refine qAK ?_ _));exact BK188.out⟩,⟨by repeat (first | (with_reducible first | exact HB.out | apply qAF | apply qAD | apply qAG | refine qAL ?_ GE187.out | refine qAL ?_ GE188.out) | exact HB.out)⟩⟩
       case round =>
        clear H'
        try clear c1
        try clear p1
        try clear q1
        try clear hx1
        try clear c2
        try clear p2
        try clear c3
        try clear c6
        try clear c6b0
        try clear c6b1
        try clear p6
        try clear c7
        try clear c7b0
        try clear c7b1
        try clear c8
        try clear c8b0
        try clear c8b1
        try clear c9
        try clear c9b0
        try clear c9b1
        try clear c9b2
        try clear c10
        try clear c13
        try clear c16
        try clear p18
        try clear q18
        try clear hx18
        try clear c19
        try clear p19
        try clear q19
        try clear hx19
        try clear c22
        try clear c25
        try clear c26
        try clear c26b0
        try clear c27
        try clear c27b0
        try clear c28
        try clear c28b0
        try clear c29
        try clear c29b0
        try clear c29b1
        try clear c30
        try clear c33
        try clear c36
        try clear hcz11_0
        try clear hcz11_1
        try clear hcz11_2
        try clear hcz11_3
        try clear hcz11_4
        try clear hcz12_0
        try clear hcz12_1
        try clear hcz12_2
        try clear hcz12_3
        try clear hcz12_4
        try clear hcz14_0
        try clear hcz14_1
        try clear hcz14_2
        try clear hcz14_3
        try clear hcz14_4
        try clear hcz15_0
        try clear hcz15_1
        try clear hcz15_2
        try clear hcz15_3
        try clear hcz15_4
        try clear hcz17_0
        try clear hcz17_1
        try clear hcz17_2
        try clear hcz17_3
        try clear hcz17_4
        try clear hcz18_0
        try clear hcz18_1
        try clear hcz18_2
        try clear hcz18_3
        try clear hcz18_4
        try clear hcz20_0
        try clear hcz20_1
        try clear hcz20_2
        try clear hcz20_3
        try clear hcz20_4
        try clear hcz21_0
        try clear hcz21_1
        try clear hcz21_2
        try clear hcz21_3
        try clear hcz21_4
        try clear hcz23_0
        try clear hcz23_1
        try clear hcz23_2
        try clear hcz23_3
        try clear hcz23_4
        try clear hcz24_0
        try clear hcz24_1
        try clear hcz24_2
        try clear hcz24_3
        try clear hcz24_4
        try clear hcz31_0
        try clear hcz31_1
        try clear hcz31_2
        try clear hcz31_3
        try clear hcz31_4
        try clear hcz34_0
        try clear hcz34_1
        try clear hcz34_2
        try clear hcz34_3
        try clear hcz34_4
        try clear hcz37_0
        try clear hcz37_1
        try clear hcz37_2
        try clear hcz37_3
        try clear hcz37_4
        try clear hfz11_0
        try clear hfz11_1
        try clear hfz11_2
        try clear hfz11_3
        try clear hfz11_4
        try clear hfz12_0
        try clear hfz12_1
        try clear hfz12_2
        try clear hfz12_3
        try clear hfz12_4
        try clear hfz14_0
        try clear hfz14_1
        try clear hfz14_2
        try clear hfz14_3
        try clear hfz14_4
        try clear hfz15_0
        try clear hfz15_1
        try clear hfz15_2
        try clear hfz15_3
        try clear hfz15_4
        try clear hfz17_0
        try clear hfz17_1
        try clear hfz17_2
        try clear hfz17_3
        try clear hfz17_4
        try clear hfz18_0
        try clear hfz18_1
        try clear hfz18_2
        try clear hfz18_3
        try clear hfz18_4
        try clear hfz20_0
        try clear hfz20_1
        try clear hfz20_2
        try clear hfz20_3
        try clear hfz20_4
        try clear hfz21_0
        try clear hfz21_1
        try clear hfz21_2
        try clear hfz21_3
        try clear hfz21_4
        try clear hfz23_0
        try clear hfz23_1
        try clear hfz23_2
        try clear hfz23_3
        try clear hfz23_4
        try clear hfz24_0
        try clear hfz24_1
        try clear hfz24_2
        try clear hfz24_3
        try clear hfz24_4
        try clear hfz31_0
        try clear hfz31_1
        try clear hfz31_2
        try clear hfz31_3
        try clear hfz31_4
        try clear hfz34_0
        try clear hfz34_1
        try clear hfz34_2
        try clear hfz34_3
        try clear hfz34_4
        try clear hfz37_0
        try clear hfz37_1
        try clear hfz37_2
        try clear hfz37_3
        try clear hfz37_4
        try clear hx189_0
        try clear hx190_0
        try clear p189
        try clear p190
        try clear p2
        try clear q189
        try clear q190
        obtain ⟨x6_3,rfl,HA,HK3,BK187,BK188,HB⟩:=hrel
        cases gk with
        | zero=>exact absurd HA.out (by simp [qAH.l1])
        | succ k3 =>
         have H:=HA.out
         clear HA
         simp only [qAH.l1] at H
         by_cases c38:x6_3 < (l0_3.length:Int)
         ·rw [if_pos c38] at H
          have c38b0:decide (x6_3 < (l0_3.length:Int))=true:=decide_eq_true c38
          clear c38
          by_cases c39:0≤x6_3
          ·rw [if_pos c39] at H
           have c39b0:decide (0≤x6_3)=true:=decide_eq_true c39
           clear c39
           by_cases c40:x6_3 < (l1_3.length:Int)
           ·rw [if_pos c40] at H
            have c40b0:decide (x6_3 < (l1_3.length:Int))=true:=decide_eq_true c40
            clear c40
            replace H:=Option.bind_eq_some_iff.mp H
            obtain ⟨t193,A410,H⟩:=H
            replace H:(if t193=true then (qAH.l1 k3 (wrap64 (x6_3+1)) a0_0 a0_1 a0_2 l0_3 l0_4 a1_0 a1_1 a1_2 l1_3 l1_4) else (some false))=some r:=H
            have A41:=qAA.mk A410
            clear A410
            by_cases c42:t193=true
            ·subst c42
             have H1:(qAH.l1 k3 (wrap64 (x6_3+1)) a0_0 a0_1 a0_2 l0_3 l0_4 a1_0 a1_1 a1_2 l1_3 l1_4)=some r:=by rw [if_pos rfl] at H;exact H
             clear H
             have H:=H1
             clear H1
             have H':=qAA.mk H
             clear H
             have hnb43:=NB187_188.out
             have hnc43:=NB188_187.out
             have hcz44_0:wr.cell? ⟨gb187,0,none⟩=some (.int .i64 a0_0):=(qAB BK187.out 0).trans rfl
             have hcz44_1:wr.cell? ⟨gb187,1,none⟩=some (.int .i64 a0_1):=(qAB BK187.out 1).trans rfl
             have hcz44_2:wr.cell? ⟨gb187,2,none⟩=some (.string a0_2):=(qAB BK187.out 2).trans rfl
             have hcz44_3:wr.cell? ⟨gb187,3,none⟩=some (.slice A0_3 l0_3.length c0_3):=(qAB BK187.out 3).trans rfl
             have hcz44_4:wr.cell? ⟨gb187,4,none⟩=some (.slice A0_4 l0_4.length c0_4):=(qAB BK187.out 4).trans rfl
             have hfz44_0:=qAC BK187.out 0
             have hfz44_1:=qAC BK187.out 1
             have hfz44_2:=qAC BK187.out 2
             have hfz44_3:=qAC BK187.out 3
             have hfz44_4:=qAC BK187.out 4
             try go_wp2
             have n0_:=qAA.mk (qAM BK187.out)
             have n1_:=qAA.mk (qAM BK188.out)
             have n2_:=qAA.mk (qAG HB.out)
             clear BK187
             clear BK188
             clear HB
             have BK187:=n0_
             have BK188:=n1_
             have HB:=n2_
             clear n0_ n1_ n2_
             have p191:0≤(x6_3:Int):=of_decide_eq_true (by first | (with_reducible assumption) | assumption)
             have q191:x6_3 < (l0_3.length:Int):=of_decide_eq_true (by first | (with_reducible assumption) | assumption)
             obtain ⟨ad191,A191_3,c191_3,A191_4,c191_4,e191,hx191_0,hx191_1,hx191_2,hx191_3,hx191_4,hl191_3,hi191_3,hl191_4,hi191_4⟩:=qCL HR0_3.out x6_3 p191 q191
             have hw191_4:=hx191_4
             have hw191_3:=hx191_3
             have hw191_2:=hx191_2
             have hw191_1:=hx191_1
             have hw191_0:=hx191_0
             cases e191
             replace hx191_0:=(HB.out.cell (qs4 w _ hx191_0)).trans hx191_0
             replace hx191_1:=(HB.out.cell (qs4 w _ hx191_1)).trans hx191_1
             replace hx191_2:=(HB.out.cell (qs4 w _ hx191_2)).trans hx191_2
             replace hx191_3:=(HB.out.cell (qs4 w _ hx191_3)).trans hx191_3
             replace hx191_4:=(HB.out.cell (qs4 w _ hx191_4)).trans hx191_4
             have HR191_3:=qAA.mk hi191_3
             have HC191_3:=qAA.mk hl191_3
             clear hi191_3 hl191_3
             have HR191_4:=qAA.mk hi191_4
             have HC191_4:=qAA.mk hl191_4
             clear hi191_4 hl191_4
             replace p191:=eq_true p191
             replace q191:=eq_true q191
             have p192:0≤(x6_3:Int):=of_decide_eq_true (by first | (with_reducible assumption) | assumption)
             have q192:x6_3 < (l1_3.length:Int):=of_decide_eq_true (by first | (with_reducible assumption) | assumption)
             obtain ⟨ad192,A192_3,c192_3,A192_4,c192_4,e192,hx192_0,hx192_1,hx192_2,hx192_3,hx192_4,hl192_3,hi192_3,hl192_4,hi192_4⟩:=qCL HR1_3.out x6_3 p192 q192
             have hw192_4:=hx192_4
             have hw192_3:=hx192_3
             have hw192_2:=hx192_2
             have hw192_1:=hx192_1
             have hw192_0:=hx192_0
             cases e192
             replace hx192_0:=(HB.out.cell (qs4 w _ hx192_0)).trans hx192_0
             replace hx192_1:=(HB.out.cell (qs4 w _ hx192_1)).trans hx192_1
             replace hx192_2:=(HB.out.cell (qs4 w _ hx192_2)).trans hx192_2
             replace hx192_3:=(HB.out.cell (qs4 w _ hx192_3)).trans hx192_3
             replace hx192_4:=(HB.out.cell (qs4 w _ hx192_4)).trans hx192_4
             have HR192_3:=qAA.mk hi192_3
             have HC192_3:=qAA.mk hl192_3
             clear hi192_3 hl192_3
             have HR192_4:=qAA.mk hi192_4
             have HC192_4:=qAA.mk hl192_4
             clear hi192_4 hl192_4
             replace p192:=eq_true p192
             replace q192:=eq_true q192
             refine qBd (n:=12) (S:=fun w'=>w'.cell? ⟨gb187,0,none⟩=some (.int .i64 a0_0)∧w'.cell? ⟨gb187,1,none⟩=some (.int .i64 a0_1)∧w'.cell? ⟨gb187,2,none⟩=some (.string a0_2)∧w'.cell? ⟨gb187,3,none⟩=some (.slice (some ad191) l0_3.length c0_3)∧w'.cell? ⟨gb187,4,none⟩=some (.slice A0_4 l0_4.length c0_4)∧w'.cell? ⟨gb188,0,none⟩=some (.int .i64 a1_0)∧w'.cell? ⟨gb188,1,none⟩=some (.int .i64 a1_1)∧w'.cell? ⟨gb188,2,none⟩=some (.string a1_2)∧w'.cell? ⟨gb188,3,none⟩=some (.slice (some ad192) l1_3.length c1_3)∧w'.cell? ⟨gb188,4,none⟩=some (.slice A1_4 l1_4.length c1_4)∧w'.cell? (ad191.add ((x6_3).toNat * 5))=some (.int .i64 ((qAU l0_3 x6_3).f0))∧w'.cell? ⟨(ad191.add ((x6_3).toNat * 5)).block,(ad191.add ((x6_3).toNat * 5)).off+1,none⟩=some (.int .i64 ((qAU l0_3 x6_3).f1))∧w'.cell? ⟨(ad191.add ((x6_3).toNat * 5)).block,(ad191.add ((x6_3).toNat * 5)).off+2,none⟩=some (.string ((qAU l0_3 x6_3).f2))∧w'.cell? ⟨(ad191.add ((x6_3).toNat * 5)).block,(ad191.add ((x6_3).toNat * 5)).off+3,none⟩=some (.slice A191_3 ((qAU l0_3 x6_3).f3).length c191_3)∧w'.cell? ⟨(ad191.add ((x6_3).toNat * 5)).block,(ad191.add ((x6_3).toNat * 5)).off+4,none⟩=some (.slice A191_4 ((qAU l0_3 x6_3).f4).length c191_4)∧w'.cell? (ad192.add ((x6_3).toNat * 5))=some (.int .i64 ((qAU l1_3 x6_3).f0))∧w'.cell? ⟨(ad192.add ((x6_3).toNat * 5)).block,(ad192.add ((x6_3).toNat * 5)).off+1,none⟩=some (.int .i64 ((qAU l1_3 x6_3).f1))∧w'.cell? ⟨(ad192.add ((x6_3).toNat * 5)).block,(ad192.add ((x6_3).toNat * 5)).off+2,none⟩=some (.string ((qAU l1_3 x6_3).f2))∧w'.cell? ⟨(ad192.add ((x6_3).toNat * 5)).block,(ad192.add ((x6_3).toNat * 5)).off+3,none⟩=some (.slice A192_3 ((qAU l1_3 x6_3).f3).length c192_3)∧w'.cell? ⟨(ad192.add ((x6_3).toNat * 5)).block,(ad192.add ((x6_3).toNat * 5)).off+4,none⟩=some (.slice A192_4 ((qAU l1_3 x6_3).f4).length c192_4)) (ds:=[]) #[qF,qF,qF,qF,qF,qF,qF,qF,qF,qF,qF,qF] (by kernel_rfl) rfl rfl ⟨(qAB BK187.out 0).trans rfl,(qAB BK187.out 1).trans rfl,(qAB BK187.out 2).trans rfl,(qAB BK187.out 3).trans rfl,(qAB BK187.out 4).trans rfl,(qAB BK188.out 0).trans rfl,(qAB BK188.out 1).trans rfl,(qAB BK188.out 2).trans rfl,(qAB BK188.out 3).trans rfl,(qAB BK188.out 4).trans rfl,((HB.out.cell (qs4 w _ hw191_0)).trans hw191_0),((HB.out.cell (qs4 w _ hw191_1)).trans hw191_1),((HB.out.cell (qs4 w _ hw191_2)).trans hw191_2),((HB.out.cell (qs4 w _ hw191_3)).trans hw191_3),((HB.out.cell (qs4 w _ hw191_4)).trans hw191_4),((HB.out.cell (qs4 w _ hw192_0)).trans hw192_0),((HB.out.cell (qs4 w _ hw192_1)).trans hw192_1),((HB.out.cell (qs4 w _ hw192_2)).trans hw192_2),((HB.out.cell (qs4 w _ hw192_3)).trans hw192_3),((HB.out.cell (qs4 w _ hw192_4)).trans hw192_4)⟩ (fun hHeld => ?_);refine qCU qAH.tab11 qAH.bits11 (fun HT_ HW_ => ?_)
             generalize wr.drew=w45 at BK187 BK188 HB HR191_3 HR191_4 HR192_3 HR192_4 hx191_0 hx191_1 hx191_2 hx191_3 hx191_4 hx192_0 hx192_1 hx192_2 hx192_3 hx192_4 hHeld ⊢
             refine qAd (i:=0) (N:=some 70) (v := ?_) (a' := ?_) #[qT,qF,qF,qF,qF,qF,qF,qF,qF,qF,qF,qF] rfl rfl (qBY HT_.out (by kernel_rfl)) (fun _ _ _ h=>h) (Or.inl ⟨by rfl, ?_⟩) ?_ ?_
             rotate_left
             ·intro w'
              go_simp
              with_reducible rfl
             rotate_left
             ·simp only [Act.put,qs1,qs2,qs3,qAR,qAT]
              rfl
             refine qAd (i:=2) (N:=some 72) (v := ?_) (a' := ?_) #[qT,qF,qT,qF,qF,qF,qF,qF,qF,qF,qF,qF] rfl rfl (qBY HT_.out (by kernel_rfl)) (fun _ _ _ h=>h) (Or.inl ⟨by rfl, ?_⟩) ?_ ?_
             rotate_left
             ·intro w'
              go_simp
              with_reducible rfl
             rotate_left
             ·simp only [Act.put,qs1,qs2,qs3,qAR,qAT]
              rfl
             refine qAd (i:=5) (N:=some 75) (v := ?_) (a' := ?_) #[qT,qF,qT,qF,qF,qT,qF,qF,qF,qF,qF,qF] rfl rfl (qBY HT_.out (by kernel_rfl)) (fun _ _ _ h=>h) (Or.inl ⟨by rfl, ?_⟩) ?_ ?_
             rotate_left
             ·intro w'
              go_simp
              with_reducible rfl
             rotate_left
             ·simp only [Act.put,qs1,qs2,qs3,qAR,qAT]
              rfl
             refine qAd (i:=7) (N:=some 77) (v := ?_) (a' := ?_) #[qT,qF,qT,qF,qF,qT,qF,qT,qF,qF,qF,qF] rfl rfl (qBY HT_.out (by kernel_rfl)) (fun _ _ _ h=>h) (Or.inl ⟨by rfl, ?_⟩) ?_ ?_
             rotate_left
             ·intro w'
              go_simp
              with_reducible rfl
             rotate_left
             ·simp only [Act.put,qs1,qs2,qs3,qAR,qAT]
              rfl
             refine qBP (i:=1) (N:=some 71) (v := ?_) (a' := ?_) #[qT,qT,qT,qF,qF,qT,qF,qT,qF,qF,qF,qF] rfl rfl (qBe HT_.out HW_.out (by kernel_rfl)) (fun _ _ _ h=>h) (Or.inl ⟨by rfl, ?_⟩) hHeld ?_ ?_
             rotate_left
             ·rintro w' ⟨s0,s1,s2,s3,s4,s5,s6,s7,s8,s9,s10,s11,s12,s13,s14,s15,s16,s17,s18,s19⟩
              go_simp
              with_reducible rfl
             rotate_left
             ·simp only [Act.put,qs1,qs2,qs3,qAR,qAT]
              rfl
             refine qAd (i:=3) (N:=some 73) (v := ?_) (a' := ?_) #[qT,qT,qT,qT,qF,qT,qF,qT,qF,qF,qF,qF] rfl rfl (qBY HT_.out (by kernel_rfl)) (fun _ _ _ h=>h) (Or.inl ⟨by rfl, ?_⟩) ?_ ?_
             rotate_left
             ·intro w'
              go_simp
              with_reducible rfl
             rotate_left
             ·simp only [Act.put,qs1,qs2,qs3,qAR,qAT]
              rfl
             refine qBP (i:=4) (N:=some 74) (v := ?_) (a' := ?_) #[qT,qT,qT,qT,qT,qT,qF,qT,qF,qF,qF,qF] rfl rfl (qBe HT_.out HW_.out (by kernel_rfl)) (fun _ _ _ h=>h) (Or.inl ⟨by rfl, ?_⟩) hHeld ?_ ?_
             rotate_left
             ·rintro w' ⟨s0,s1,s2,s3,s4,s5,s6,s7,s8,s9,s10,s11,s12,s13,s14,s15,s16,s17,s18,s19⟩
              go_simp
              with_reducible rfl
             rotate_left
             ·simp only [Act.put,qs1,qs2,qs3,qAR,qAT]
              rfl
             refine qBP (i:=6) (N:=some 76) (v := ?_) (a' := ?_) #[qT,qT,qT,qT,qT,qT,qT,qT,qF,qF,qF,qF] rfl rfl (qBe HT_.out HW_.out (by kernel_rfl)) (fun _ _ _ h=>h) (Or.inl ⟨by rfl, ?_⟩) hHeld ?_ ?_
             rotate_left
             ·rintro w' ⟨s0,s1,s2,s3,s4,s5,s6,s7,s8,s9,s10,s11,s12,s13,s14,s15,s16,s17,s18,s19⟩
              go_simp
              with_reducible rfl
             rotate_left
             ·simp only [Act.put,qs1,qs2,qs3,qAR,qAT]
              rfl
             refine qAd (i:=8) (N:=some 78) (v := ?_) (a' := ?_) #[qT,qT,qT,qT,qT,qT,qT,qT,qT,qF,qF,qF] rfl rfl (qBY HT_.out (by kernel_rfl)) (fun _ _ _ h=>h) (Or.inl ⟨by rfl, ?_⟩) ?_ ?_
             rotate_left
             ·intro w'
              go_simp
              with_reducible rfl
             rotate_left
             ·simp only [Act.put,qs1,qs2,qs3,qAR,qAT]
              rfl
             refine qBP (i:=9) (N:=some 79) (v := ?_) (a' := ?_) #[qT,qT,qT,qT,qT,qT,qT,qT,qT,qT,qF,qF] rfl rfl (qBe HT_.out HW_.out (by kernel_rfl)) (fun _ _ _ h=>h) (Or.inl ⟨by rfl, ?_⟩) hHeld ?_ ?_
             rotate_left
             ·rintro w' ⟨s0,s1,s2,s3,s4,s5,s6,s7,s8,s9,s10,s11,s12,s13,s14,s15,s16,s17,s18,s19⟩
              go_simp
              with_reducible rfl
             rotate_left
             ·simp only [Act.put,qs1,qs2,qs3,qAR,qAT]
              rfl
             refine one_ (i:=10) (N:=some 80) #[qT,qT,qT,qT,qT,qT,qT,qT,qT,qT,qT,qF] rfl rfl (one_of HT_.out (by kernel_rfl)) (by decide) (fun K hK => ?_)
             refine qB2 Try.func30 (by kernel_rfl) rfl #[.agg #[.int .i64 ((qAU l0_3 x6_3).f0),.int .i64 ((qAU l0_3 x6_3).f1),.string ((qAU l0_3 x6_3).f2),.slice A191_3 ((qAU l0_3 x6_3).f3).length c191_3,.slice A191_4 ((qAU l0_3 x6_3).f4).length c191_4],.agg #[.int .i64 ((qAU l1_3 x6_3).f0),.int .i64 ((qAU l1_3 x6_3).f1),.string ((qAU l1_3 x6_3).f2),.slice A192_3 ((qAU l1_3 x6_3).f3).length c192_3,.slice A192_4 ((qAU l1_3 x6_3).f4).length c192_4]] (by rfl) rfl rfl (by (try simp only [List.map_toArray,List.map_cons,List.map_nil]);first | done | rfl | (simp only [List.length_drop,List.length_take];rfl)) ?_
             with_reducible refine (ih k3 (by have:=HJ2.out;have:=HK2.out;have:=HK3.out;omega) ((qAU l0_3 x6_3).f0) ((qAU l0_3 x6_3).f1) ((qAU l0_3 x6_3).f2) _ _ ((qAU l0_3 x6_3).f3) _ _ ((qAU l0_3 x6_3).f4) ((qAU l1_3 x6_3).f0) ((qAU l1_3 x6_3).f1) ((qAU l1_3 x6_3).f2) _ _ ((qAU l1_3 x6_3).f3) _ _ ((qAU l1_3 x6_3).f4) true _ ?side1 ?side2 ?side3 ?side4 ?side5 ?side6 ?side7 ?side8 A41.out).mono ?_
             (case side1=>repeat (first | exact (Kd.qAe HR191_3.out HB.out) | (with_reducible refine Kd.qAs ?_ _) | (with_reducible refine Kd.qAr ?_ _) | (with_reducible refine Kd.qA0 ?_)))
             (case side2=>exact HC191_3.out)
             (case side3=>repeat (first | exact (Kd.qAe HR191_4.out HB.out) | (with_reducible refine Kd.qAs ?_ _) | (with_reducible refine Kd.qAr ?_ _) | (with_reducible refine Kd.qA0 ?_)))
             (case side4=>exact HC191_4.out)
             (case side5=>repeat (first | exact (Kd.qAe HR192_3.out HB.out) | (with_reducible refine Kd.qAs ?_ _) | (with_reducible refine Kd.qAr ?_ _) | (with_reducible refine Kd.qA0 ?_)))
             (case side6=>exact HC192_3.out)
             (case side7=>repeat (first | exact (Kd.qAe HR192_4.out HB.out) | (with_reducible refine Kd.qAs ?_ _) | (with_reducible refine Kd.qAr ?_ _) | (with_reducible refine Kd.qA0 ?_)))
             (case side8=>exact HC192_4.out)
             rintro e w46 ⟨rfl,hb⟩
             refine ⟨_,rfl, ?_⟩
             have n0_:=qAA.mk (qAW (g:=gb187) (o:=.cells #[.int .i64 a0_0,.int .i64 a0_1,.string a0_2,.slice (some ad191) l0_3.length c0_3,.slice A0_4 l0_4.length c0_4] 25 (0,0)) (by (with_reducible repeat (first | refine qAN ?_ _ | refine qAM ?_ | refine qAK ?_ _));exact BK187.out) hb)
             have n1_:=qAA.mk (qAW (g:=gb188) (o:=.cells #[.int .i64 a1_0,.int .i64 a1_1,.string a1_2,.slice (some ad192) l1_3.length c1_3,.slice A1_4 l1_4.length c1_4] 25 (0,0)) (by (with_reducible repeat (first | refine qAN ?_ _ | refine qAM ?_ | refine qAK ?_ _));exact BK188.out) hb)
             have n2_:=qAA.mk (qAX (by repeat (first | (with_reducible first | exact HB.out | apply qAF | apply qAD | apply qAG | refine qAL ?_ GE187.out | refine qAL ?_ GE188.out) | exact HB.out)) hb)
             clear BK187
             clear BK188
             clear HB
             have BK187:=n0_
             have BK188:=n1_
             have HB:=n2_
             clear n0_ n1_ n2_
             (try clear hb)
             (try clear hb2)
             (try clear hk)
             (try clear hi)
             refine hK.out _ _ ⟨(qAB BK187.out 0).trans rfl,(qAB BK187.out 1).trans rfl,(qAB BK187.out 2).trans rfl,(qAB BK187.out 3).trans rfl,(qAB BK187.out 4).trans rfl,(qAB BK188.out 0).trans rfl,(qAB BK188.out 1).trans rfl,(qAB BK188.out 2).trans rfl,(qAB BK188.out 3).trans rfl,(qAB BK188.out 4).trans rfl,((HB.out.cell (qs4 w _ hw191_0)).trans hw191_0),((HB.out.cell (qs4 w _ hw191_1)).trans hw191_1),((HB.out.cell (qs4 w _ hw191_2)).trans hw191_2),((HB.out.cell (qs4 w _ hw191_3)).trans hw191_3),((HB.out.cell (qs4 w _ hw191_4)).trans hw191_4),((HB.out.cell (qs4 w _ hw192_0)).trans hw192_0),((HB.out.cell (qs4 w _ hw192_1)).trans hw192_1),((HB.out.cell (qs4 w _ hw192_2)).trans hw192_2),((HB.out.cell (qs4 w _ hw192_3)).trans hw192_3),((HB.out.cell (qs4 w _ hw192_4)).trans hw192_4)⟩ (fun hHeld => ?_)
             clear hK K
             refine qBS (a' := ?_) ?_ ?_
             rotate_left
             ·show Act.put _ (some 80) _=_
              simp only [Act.put,qs1,qs2,qs3,qAR,qAT]
              rfl
             refine qAd (i:=11) (N:=some 7) (v := ?_) (a' := ?_) #[qT,qT,qT,qT,qT,qT,qT,qT,qT,qT,qT,qT] rfl rfl (qBY HT_.out (by kernel_rfl)) (fun _ _ _ h=>h) (Or.inl ⟨by rfl, ?_⟩) ?_ ?_
             rotate_left
             ·intro w'
              go_simp
              with_reducible rfl
             rotate_left
             ·simp only [Act.put,qs1,qs2,qs3,qAR,qAT]
              rfl
             refine qBu (done_of HT_.out (by kernel_rfl)) ?_
             try go_wp2
             go_roundg k3
             case measure=>have:=HJ2.out;have:=HK2.out;have:=HK3.out;omega
             case rel=>exact ⟨(wrap64 (x6_3+1)),(by first | rfl | (simp;done) | (simp [*];done)),H',⟨by have:=HJ2.out;have:=HK2.out;have:=HK3.out;omega⟩,⟨by (with_reducible repeat (first | refine qAN ?_ _ | refine qAM ?_ | refine qAK ?_ _));exact BK187.out⟩,⟨by (with_reducible repeat (first | refine qAN ?_ _ | refine qAM ?_ | refine qAK ?_ _));exact BK188.out⟩,⟨by repeat (first | (with_reducible first | exact HB.out | apply qAF | apply qAD | apply qAG | refine qAL ?_ GE187.out | refine qAL ?_ GE188.out) | exact HB.out)⟩⟩
            ·replace c42:=Bool.eq_false_iff.mpr c42
             subst c42
             have H1:(some false)=some r:=by rw [if_neg (show ¬ (false=true) by decide)] at H;exact H
             clear H
             have H:=H1
             clear H1
             obtain rfl:=Option.some.inj H
             simp only [Option.some.injEq,Prod.mk.injEq] at H
             obtain ⟨rfl⟩:=H
             have hnb47:=NB187_188.out
             have hnc47:=NB188_187.out
             have hcz48_0:wr.cell? ⟨gb187,0,none⟩=some (.int .i64 a0_0):=(qAB BK187.out 0).trans rfl
             have hcz48_1:wr.cell? ⟨gb187,1,none⟩=some (.int .i64 a0_1):=(qAB BK187.out 1).trans rfl
             have hcz48_2:wr.cell? ⟨gb187,2,none⟩=some (.string a0_2):=(qAB BK187.out 2).trans rfl
             have hcz48_3:wr.cell? ⟨gb187,3,none⟩=some (.slice A0_3 l0_3.length c0_3):=(qAB BK187.out 3).trans rfl
             have hcz48_4:wr.cell? ⟨gb187,4,none⟩=some (.slice A0_4 l0_4.length c0_4):=(qAB BK187.out 4).trans rfl
             have hfz48_0:=qAC BK187.out 0
             have hfz48_1:=qAC BK187.out 1
             have hfz48_2:=qAC BK187.out 2
             have hfz48_3:=qAC BK187.out 3
             have hfz48_4:=qAC BK187.out 4
             try go_wp2
             have n0_:=qAA.mk (qAM BK187.out)
             have n1_:=qAA.mk (qAM BK188.out)
             have n2_:=qAA.mk (qAG HB.out)
             clear BK187
             clear BK188
             clear HB
             have BK187:=n0_
             have BK188:=n1_
             have HB:=n2_
             clear n0_ n1_ n2_
             have p191:0≤(x6_3:Int):=of_decide_eq_true (by first | (with_reducible assumption) | assumption)
             have q191:x6_3 < (l0_3.length:Int):=of_decide_eq_true (by first | (with_reducible assumption) | assumption)
             obtain ⟨ad191,A191_3,c191_3,A191_4,c191_4,e191,hx191_0,hx191_1,hx191_2,hx191_3,hx191_4,hl191_3,hi191_3,hl191_4,hi191_4⟩:=qCL HR0_3.out x6_3 p191 q191
             have hw191_4:=hx191_4
             have hw191_3:=hx191_3
             have hw191_2:=hx191_2
             have hw191_1:=hx191_1
             have hw191_0:=hx191_0
             cases e191
             replace hx191_0:=(HB.out.cell (qs4 w _ hx191_0)).trans hx191_0
             replace hx191_1:=(HB.out.cell (qs4 w _ hx191_1)).trans hx191_1
             replace hx191_2:=(HB.out.cell (qs4 w _ hx191_2)).trans hx191_2
             replace hx191_3:=(HB.out.cell (qs4 w _ hx191_3)).trans hx191_3
             replace hx191_4:=(HB.out.cell (qs4 w _ hx191_4)).trans hx191_4
             have HR191_3:=qAA.mk hi191_3
             have HC191_3:=qAA.mk hl191_3
             clear hi191_3 hl191_3
             have HR191_4:=qAA.mk hi191_4
             have HC191_4:=qAA.mk hl191_4
             clear hi191_4 hl191_4
             replace p191:=eq_true p191
             replace q191:=eq_true q191
             have p192:0≤(x6_3:Int):=of_decide_eq_true (by first | (with_reducible assumption) | assumption)
             have q192:x6_3 < (l1_3.length:Int):=of_decide_eq_true (by first | (with_reducible assumption) | assumption)
             obtain ⟨ad192,A192_3,c192_3,A192_4,c192_4,e192,hx192_0,hx192_1,hx192_2,hx192_3,hx192_4,hl192_3,hi192_3,hl192_4,hi192_4⟩:=qCL HR1_3.out x6_3 p192 q192
             have hw192_4:=hx192_4
             have hw192_3:=hx192_3
             have hw192_2:=hx192_2
             have hw192_1:=hx192_1
             have hw192_0:=hx192_0
             cases e192
             replace hx192_0:=(HB.out.cell (qs4 w _ hx192_0)).trans hx192_0
             replace hx192_1:=(HB.out.cell (qs4 w _ hx192_1)).trans hx192_1
             replace hx192_2:=(HB.out.cell (qs4 w _ hx192_2)).trans hx192_2
             replace hx192_3:=(HB.out.cell (qs4 w _ hx192_3)).trans hx192_3
             replace hx192_4:=(HB.out.cell (qs4 w _ hx192_4)).trans hx192_4
             have HR192_3:=qAA.mk hi192_3
             have HC192_3:=qAA.mk hl192_3
             clear hi192_3 hl192_3
             have HR192_4:=qAA.mk hi192_4
             have HC192_4:=qAA.mk hl192_4
             clear hi192_4 hl192_4
             replace p192:=eq_true p192
             replace q192:=eq_true q192
             refine qBd (n:=12) (S:=fun w'=>w'.cell? ⟨gb187,0,none⟩=some (.int .i64 a0_0)∧w'.cell? ⟨gb187,1,none⟩=some (.int .i64 a0_1)∧w'.cell? ⟨gb187,2,none⟩=some (.string a0_2)∧w'.cell? ⟨gb187,3,none⟩=some (.slice (some ad191) l0_3.length c0_3)∧w'.cell? ⟨gb187,4,none⟩=some (.slice A0_4 l0_4.length c0_4)∧w'.cell? ⟨gb188,0,none⟩=some (.int .i64 a1_0)∧w'.cell? ⟨gb188,1,none⟩=some (.int .i64 a1_1)∧w'.cell? ⟨gb188,2,none⟩=some (.string a1_2)∧w'.cell? ⟨gb188,3,none⟩=some (.slice (some ad192) l1_3.length c1_3)∧w'.cell? ⟨gb188,4,none⟩=some (.slice A1_4 l1_4.length c1_4)∧w'.cell? (ad191.add ((x6_3).toNat * 5))=some (.int .i64 ((qAU l0_3 x6_3).f0))∧w'.cell? ⟨(ad191.add ((x6_3).toNat * 5)).block,(ad191.add ((x6_3).toNat * 5)).off+1,none⟩=some (.int .i64 ((qAU l0_3 x6_3).f1))∧w'.cell? ⟨(ad191.add ((x6_3).toNat * 5)).block,(ad191.add ((x6_3).toNat * 5)).off+2,none⟩=some (.string ((qAU l0_3 x6_3).f2))∧w'.cell? ⟨(ad191.add ((x6_3).toNat * 5)).block,(ad191.add ((x6_3).toNat * 5)).off+3,none⟩=some (.slice A191_3 ((qAU l0_3 x6_3).f3).length c191_3)∧w'.cell? ⟨(ad191.add ((x6_3).toNat * 5)).block,(ad191.add ((x6_3).toNat * 5)).off+4,none⟩=some (.slice A191_4 ((qAU l0_3 x6_3).f4).length c191_4)∧w'.cell? (ad192.add ((x6_3).toNat * 5))=some (.int .i64 ((qAU l1_3 x6_3).f0))∧w'.cell? ⟨(ad192.add ((x6_3).toNat * 5)).block,(ad192.add ((x6_3).toNat * 5)).off+1,none⟩=some (.int .i64 ((qAU l1_3 x6_3).f1))∧w'.cell? ⟨(ad192.add ((x6_3).toNat * 5)).block,(ad192.add ((x6_3).toNat * 5)).off+2,none⟩=some (.string ((qAU l1_3 x6_3).f2))∧w'.cell? ⟨(ad192.add ((x6_3).toNat * 5)).block,(ad192.add ((x6_3).toNat * 5)).off+3,none⟩=some (.slice A192_3 ((qAU l1_3 x6_3).f3).length c192_3)∧w'.cell? ⟨(ad192.add ((x6_3).toNat * 5)).block,(ad192.add ((x6_3).toNat * 5)).off+4,none⟩=some (.slice A192_4 ((qAU l1_3 x6_3).f4).length c192_4)) (ds:=[]) #[qF,qF,qF,qF,qF,qF,qF,qF,qF,qF,qF,qF] (by kernel_rfl) rfl rfl ⟨(qAB BK187.out 0).trans rfl,(qAB BK187.out 1).trans rfl,(qAB BK187.out 2).trans rfl,(qAB BK187.out 3).trans rfl,(qAB BK187.out 4).trans rfl,(qAB BK188.out 0).trans rfl,(qAB BK188.out 1).trans rfl,(qAB BK188.out 2).trans rfl,(qAB BK188.out 3).trans rfl,(qAB BK188.out 4).trans rfl,((HB.out.cell (qs4 w _ hw191_0)).trans hw191_0),((HB.out.cell (qs4 w _ hw191_1)).trans hw191_1),((HB.out.cell (qs4 w _ hw191_2)).trans hw191_2),((HB.out.cell (qs4 w _ hw191_3)).trans hw191_3),((HB.out.cell (qs4 w _ hw191_4)).trans hw191_4),((HB.out.cell (qs4 w _ hw192_0)).trans hw192_0),((HB.out.cell (qs4 w _ hw192_1)).trans hw192_1),((HB.out.cell (qs4 w _ hw192_2)).trans hw192_2),((HB.out.cell (qs4 w _ hw192_3)).trans hw192_3),((HB.out.cell (qs4 w _ hw192_4)).trans hw192_4)⟩ (fun hHeld => ?_);refine qCU qAH.tab11 qAH.bits11 (fun HT_ HW_ => ?_)
             generalize wr.drew=w49 at BK187 BK188 HB HR191_3 HR191_4 HR192_3 HR192_4 hx191_0 hx191_1 hx191_2 hx191_3 hx191_4 hx192_0 hx192_1 hx192_2 hx192_3 hx192_4 hHeld ⊢
             refine qAd (i:=0) (N:=some 70) (v := ?_) (a' := ?_) #[qT,qF,qF,qF,qF,qF,qF,qF,qF,qF,qF,qF] rfl rfl (qBY HT_.out (by kernel_rfl)) (fun _ _ _ h=>h) (Or.inl ⟨by rfl, ?_⟩) ?_ ?_
             rotate_left
             ·intro w'
              go_simp
              with_reducible rfl
             rotate_left
             ·simp only [Act.put,qs1,qs2,qs3,qAR,qAT]
              rfl
             refine qAd (i:=2) (N:=some 72) (v := ?_) (a' := ?_) #[qT,qF,qT,qF,qF,qF,qF,qF,qF,qF,qF,qF] rfl rfl (qBY HT_.out (by kernel_rfl)) (fun _ _ _ h=>h) (Or.inl ⟨by rfl, ?_⟩) ?_ ?_
             rotate_left
             ·intro w'
              go_simp
              with_reducible rfl
             rotate_left
             ·simp only [Act.put,qs1,qs2,qs3,qAR,qAT]
              rfl
             refine qAd (i:=5) (N:=some 75) (v := ?_) (a' := ?_) #[qT,qF,qT,qF,qF,qT,qF,qF,qF,qF,qF,qF] rfl rfl (qBY HT_.out (by kernel_rfl)) (fun _ _ _ h=>h) (Or.inl ⟨by rfl, ?_⟩) ?_ ?_
             rotate_left
             ·intro w'
              go_simp
              with_reducible rfl
             rotate_left
             ·simp only [Act.put,qs1,qs2,qs3,qAR,qAT]
              rfl
             refine qAd (i:=7) (N:=some 77) (v := ?_) (a' := ?_) #[qT,qF,qT,qF,qF,qT,qF,qT,qF,qF,qF,qF] rfl rfl (qBY HT_.out (by kernel_rfl)) (fun _ _ _ h=>h) (Or.inl ⟨by rfl, ?_⟩) ?_ ?_
             rotate_left
             ·intro w'
              go_simp
              with_reducible rfl
             rotate_left
             ·simp only [Act.put,qs1,qs2,qs3,qAR,qAT]
              rfl
             refine qBP (i:=1) (N:=some 71) (v := ?_) (a' := ?_) #[qT,qT,qT,qF,qF,qT,qF,qT,qF,qF,qF,qF] rfl rfl (qBe HT_.out HW_.out (by kernel_rfl)) (fun _ _ _ h=>h) (Or.inl ⟨by rfl, ?_⟩) hHeld ?_ ?_
             rotate_left
             ·rintro w' ⟨s0,s1,s2,s3,s4,s5,s6,s7,s8,s9,s10,s11,s12,s13,s14,s15,s16,s17,s18,s19⟩
              go_simp
              with_reducible rfl
             rotate_left
             ·simp only [Act.put,qs1,qs2,qs3,qAR,qAT]
              rfl
             refine qAd (i:=3) (N:=some 73) (v := ?_) (a' := ?_) #[qT,qT,qT,qT,qF,qT,qF,qT,qF,qF,qF,qF] rfl rfl (qBY HT_.out (by kernel_rfl)) (fun _ _ _ h=>h) (Or.inl ⟨by rfl, ?_⟩) ?_ ?_
             rotate_left
             ·intro w'
              go_simp
              with_reducible rfl
             rotate_left
             ·simp only [Act.put,qs1,qs2,qs3,qAR,qAT]
              rfl
             refine qBP (i:=4) (N:=some 74) (v := ?_) (a' := ?_) #[qT,qT,qT,qT,qT,qT,qF,qT,qF,qF,qF,qF] rfl rfl (qBe HT_.out HW_.out (by kernel_rfl)) (fun _ _ _ h=>h) (Or.inl ⟨by rfl, ?_⟩) hHeld ?_ ?_
             rotate_left
             ·rintro w' ⟨s0,s1,s2,s3,s4,s5,s6,s7,s8,s9,s10,s11,s12,s13,s14,s15,s16,s17,s18,s19⟩
              go_simp
              with_reducible rfl
             rotate_left
             ·simp only [Act.put,qs1,qs2,qs3,qAR,qAT]
              rfl
             refine qBP (i:=6) (N:=some 76) (v := ?_) (a' := ?_) #[qT,qT,qT,qT,qT,qT,qT,qT,qF,qF,qF,qF] rfl rfl (qBe HT_.out HW_.out (by kernel_rfl)) (fun _ _ _ h=>h) (Or.inl ⟨by rfl, ?_⟩) hHeld ?_ ?_
             rotate_left
             ·rintro w' ⟨s0,s1,s2,s3,s4,s5,s6,s7,s8,s9,s10,s11,s12,s13,s14,s15,s16,s17,s18,s19⟩
              go_simp
              with_reducible rfl
             rotate_left
             ·simp only [Act.put,qs1,qs2,qs3,qAR,qAT]
              rfl
             refine qAd (i:=8) (N:=some 78) (v := ?_) (a' := ?_) #[qT,qT,qT,qT,qT,qT,qT,qT,qT,qF,qF,qF] rfl rfl (qBY HT_.out (by kernel_rfl)) (fun _ _ _ h=>h) (Or.inl ⟨by rfl, ?_⟩) ?_ ?_
             rotate_left
             ·intro w'
              go_simp
              with_reducible rfl
             rotate_left
             ·simp only [Act.put,qs1,qs2,qs3,qAR,qAT]
              rfl
             refine qBP (i:=9) (N:=some 79) (v := ?_) (a' := ?_) #[qT,qT,qT,qT,qT,qT,qT,qT,qT,qT,qF,qF] rfl rfl (qBe HT_.out HW_.out (by kernel_rfl)) (fun _ _ _ h=>h) (Or.inl ⟨by rfl, ?_⟩) hHeld ?_ ?_
             rotate_left
             ·rintro w' ⟨s0,s1,s2,s3,s4,s5,s6,s7,s8,s9,s10,s11,s12,s13,s14,s15,s16,s17,s18,s19⟩
              go_simp
              with_reducible rfl
             rotate_left
             ·simp only [Act.put,qs1,qs2,qs3,qAR,qAT]
              rfl
             refine one_ (i:=10) (N:=some 80) #[qT,qT,qT,qT,qT,qT,qT,qT,qT,qT,qT,qF] rfl rfl (one_of HT_.out (by kernel_rfl)) (by decide) (fun K hK => ?_)
             refine qB2 Try.func30 (by kernel_rfl) rfl #[.agg #[.int .i64 ((qAU l0_3 x6_3).f0),.int .i64 ((qAU l0_3 x6_3).f1),.string ((qAU l0_3 x6_3).f2),.slice A191_3 ((qAU l0_3 x6_3).f3).length c191_3,.slice A191_4 ((qAU l0_3 x6_3).f4).length c191_4],.agg #[.int .i64 ((qAU l1_3 x6_3).f0),.int .i64 ((qAU l1_3 x6_3).f1),.string ((qAU l1_3 x6_3).f2),.slice A192_3 ((qAU l1_3 x6_3).f3).length c192_3,.slice A192_4 ((qAU l1_3 x6_3).f4).length c192_4]] (by rfl) rfl rfl (by (try simp only [List.map_toArray,List.map_cons,List.map_nil]);first | done | rfl | (simp only [List.length_drop,List.length_take];rfl)) ?_
             with_reducible refine (ih k3 (by have:=HJ2.out;have:=HK2.out;have:=HK3.out;omega) ((qAU l0_3 x6_3).f0) ((qAU l0_3 x6_3).f1) ((qAU l0_3 x6_3).f2) _ _ ((qAU l0_3 x6_3).f3) _ _ ((qAU l0_3 x6_3).f4) ((qAU l1_3 x6_3).f0) ((qAU l1_3 x6_3).f1) ((qAU l1_3 x6_3).f2) _ _ ((qAU l1_3 x6_3).f3) _ _ ((qAU l1_3 x6_3).f4) false _ ?side1 ?side2 ?side3 ?side4 ?side5 ?side6 ?side7 ?side8 A41.out).mono ?_
             (case side1=>repeat (first | exact (Kd.qAe HR191_3.out HB.out) | (with_reducible refine Kd.qAs ?_ _) | (with_reducible refine Kd.qAr ?_ _) | (with_reducible refine Kd.qA0 ?_)))
             (case side2=>exact HC191_3.out)
             (case side3=>repeat (first | exact (Kd.qAe HR191_4.out HB.out) | (with_reducible refine Kd.qAs ?_ _) | (with_reducible refine Kd.qAr ?_ _) | (with_reducible refine Kd.qA0 ?_)))
             (case side4=>exact HC191_4.out)
             (case side5=>repeat (first | exact (Kd.qAe HR192_3.out HB.out) | (with_reducible refine Kd.qAs ?_ _) | (with_reducible refine Kd.qAr ?_ _) | (with_reducible refine Kd.qA0 ?_)))
             (case side6=>exact HC192_3.out)
             (case side7=>repeat (first | exact (Kd.qAe HR192_4.out HB.out) | (with_reducible refine Kd.qAs ?_ _) | (with_reducible refine Kd.qAr ?_ _) | (with_reducible refine Kd.qA0 ?_)))
             (case side8=>exact HC192_4.out)
             rintro e w50 ⟨rfl,hb⟩
             refine ⟨_,rfl, ?_⟩
             have n0_:=qAA.mk (qAW (g:=gb187) (o:=.cells #[.int .i64 a0_0,.int .i64 a0_1,.string a0_2,.slice (some ad191) l0_3.length c0_3,.slice A0_4 l0_4.length c0_4] 25 (0,0)) (by (with_reducible repeat (first | refine qAN ?_ _ | refine qAM ?_ | refine qAK ?_ _));exact BK187.out) hb)
             have n1_:=qAA.mk (qAW (g:=gb188) (o:=.cells #[.int .i64 a1_0,.int .i64 a1_1,.string a1_2,.slice (some ad192) l1_3.length c1_3,.slice A1_4 l1_4.length c1_4] 25 (0,0)) (by (with_reducible repeat (first | refine qAN ?_ _ | refine qAM ?_ | refine qAK ?_ _));exact BK188.out) hb)
             have n2_:=qAA.mk (qAX (by repeat (first | (with_reducible first | exact HB.out | apply qAF | apply qAD | apply qAG | refine qAL ?_ GE187.out | refine qAL ?_ GE188.out) | exact HB.out)) hb)
             clear BK187
             clear BK188
             clear HB
             have BK187:=n0_
             have BK188:=n1_
             have HB:=n2_
             clear n0_ n1_ n2_
             (try clear hb)
             (try clear hb2)
             (try clear hk)
             (try clear hi)
             refine hK.out _ _ ⟨(qAB BK187.out 0).trans rfl,(qAB BK187.out 1).trans rfl,(qAB BK187.out 2).trans rfl,(qAB BK187.out 3).trans rfl,(qAB BK187.out 4).trans rfl,(qAB BK188.out 0).trans rfl,(qAB BK188.out 1).trans rfl,(qAB BK188.out 2).trans rfl,(qAB BK188.out 3).trans rfl,(qAB BK188.out 4).trans rfl,((HB.out.cell (qs4 w _ hw191_0)).trans hw191_0),((HB.out.cell (qs4 w _ hw191_1)).trans hw191_1),((HB.out.cell (qs4 w _ hw191_2)).trans hw191_2),((HB.out.cell (qs4 w _ hw191_3)).trans hw191_3),((HB.out.cell (qs4 w _ hw191_4)).trans hw191_4),((HB.out.cell (qs4 w _ hw192_0)).trans hw192_0),((HB.out.cell (qs4 w _ hw192_1)).trans hw192_1),((HB.out.cell (qs4 w _ hw192_2)).trans hw192_2),((HB.out.cell (qs4 w _ hw192_3)).trans hw192_3),((HB.out.cell (qs4 w _ hw192_4)).trans hw192_4)⟩ (fun hHeld => ?_)
             clear hK K
             refine qBS (a' := ?_) ?_ ?_
             rotate_left
             ·show Act.put _ (some 80) _=_
              simp only [Act.put,qs1,qs2,qs3,qAR,qAT]
              rfl
             refine qAd (i:=11) (N:=some 7) (v := ?_) (a' := ?_) #[qT,qT,qT,qT,qT,qT,qT,qT,qT,qT,qT,qT] rfl rfl (qBY HT_.out (by kernel_rfl)) (fun _ _ _ h=>h) (Or.inl ⟨by rfl, ?_⟩) ?_ ?_
             rotate_left
             ·intro w'
              go_simp
              with_reducible rfl
             rotate_left
             ·simp only [Act.put,qs1,qs2,qs3,qAR,qAT]
              rfl
             refine qBu (done_of HT_.out (by kernel_rfl)) ?_
             try go_wp2
             go_ret
             exact ⟨by first | rfl | (simp [qAa,qAZ] <;> rfl) | (simp [*,qAa,qAZ] <;> rfl),by repeat (first | (with_reducible first | exact HB.out | apply qAF | apply qAD | apply qAG | refine qAL ?_ GE187.out | refine qAL ?_ GE188.out) | exact HB.out)⟩
           ·rw [if_neg c40] at H
            exact absurd H (by simp)
          ·rw [if_neg c39] at H
           exact absurd H (by simp)
         ·rw [if_neg c38] at H
          have c38b0:decide (x6_3 < (l0_3.length:Int))=false:=decide_eq_false c38
          clear c38
          obtain rfl:=Option.some.inj H
          simp only [Option.some.injEq,Prod.mk.injEq] at H
          obtain ⟨rfl⟩:=H
          have hnb51:=NB187_188.out
          have hnc51:=NB188_187.out
          have hcz52_0:wr.cell? ⟨gb187,0,none⟩=some (.int .i64 a0_0):=(qAB BK187.out 0).trans rfl
          have hcz52_1:wr.cell? ⟨gb187,1,none⟩=some (.int .i64 a0_1):=(qAB BK187.out 1).trans rfl
          have hcz52_2:wr.cell? ⟨gb187,2,none⟩=some (.string a0_2):=(qAB BK187.out 2).trans rfl
          have hcz52_3:wr.cell? ⟨gb187,3,none⟩=some (.slice A0_3 l0_3.length c0_3):=(qAB BK187.out 3).trans rfl
          have hcz52_4:wr.cell? ⟨gb187,4,none⟩=some (.slice A0_4 l0_4.length c0_4):=(qAB BK187.out 4).trans rfl
          have hfz52_0:=qAC BK187.out 0
          have hfz52_1:=qAC BK187.out 1
          have hfz52_2:=qAC BK187.out 2
          have hfz52_3:=qAC BK187.out 3
          have hfz52_4:=qAC BK187.out 4
          go_wp2
          go_ret
          exact ⟨by first | rfl | (simp [qAa,qAZ] <;> rfl) | (simp [*,qAa,qAZ] <;> rfl),by repeat (first | (with_reducible first | exact HB.out | apply qAF | apply qAD | apply qAG | refine qAL ?_ GE187.out | refine qAL ?_ GE188.out) | exact HB.out)⟩
end Go.Proofs.Ytnkbobblnhaclaa.X
