import Derived.Test.YtnkbobblnhaclaaZWireCodes3
set_option linter.unusedVariables false
set_option linter.unusedSimpArgs false
namespace Go.Proofs.Ytnkbobblnhaclaa.X
open Go.RowKit Go.Proofs.YtnkbobblnhaclaaW.PrintWords Go.Proofs.YtnkbobblnhaclaaW.PrintLast Go.Proofs.YtnkbobblnhaclaaW.PrintMore Go.Proofs.YtnkbobblnhaclaaW
attribute [local go_sem] qBF qBE qBX qBW qA6 qA5 qBJ qBI
mutual
def qAJ.j0:Nat→Int→Int→ByteArray→List (S25)→List ByteArray→Int→Int→ByteArray→List ByteArray→Option (Int × Int × ByteArray × (List (S25)) × List ByteArray)
 | 0,_,_,_,_,_,_,_,_,_=>none
 | k+1,x135000,x135001,x135002,x135003,x135004,x137000,x137001,x137002,x137004=>if (x135003.length:Int) > 0 then (if 0≤(wrap64 ((x135003.length:Int)+3)) then (if (wrap64 ((x135003.length:Int)+3):Int).toNat≤3518437208883 then (qAJ.j1 k x135000 x135001 x135002 x135003 x135004 x137000 x137001 x137002 (List.replicate 0 z25) x137004) else (none)) else (none)) else (qAJ.j1 k x135000 x135001 x135002 x135003 x135004 x137000 x137001 x137002 ([]:List (S25)) x137004)
def qAJ.j1:Nat→Int→Int→ByteArray→List (S25)→List ByteArray→Int→Int→ByteArray→List (S25)→List ByteArray→Option (Int × Int × ByteArray × (List (S25)) × List ByteArray)
 | 0,_,_,_,_,_,_,_,_,_,_=>none
 | k+1,x135000,x135001,x135002,x135003,x135004,x137000,x137001,x137002,x137003,x137004=>qAJ.l0 k 0 x135000 x135001 x135002 x135003 x135004 x137000 x137001 x137002 x137003 x137004
def qAJ.l0:Nat→Int→Int→Int→ByteArray→List (S25)→List ByteArray→Int→Int→ByteArray→List (S25)→List ByteArray→Option (Int × Int × ByteArray × (List (S25)) × List ByteArray)
 | 0,_,_,_,_,_,_,_,_,_,_,_=>none
 | k+1,x4,x135000,x135001,x135002,x135003,x135004,x137000,x137001,x137002,x137003,x137004=>if x4 < (x135003.length:Int) then (if 0≤x4 then ((qAJ.f k ((qAU x135003 x4).f0) ((qAU x135003 x4).f1) ((qAU x135003 x4).f2) ((qAU x135003 x4).f3) ((qAU x135003 x4).f4)).bind fun bt147=>(if x137003.length < 1759218604441 then (qAJ.l0 k (wrap64 (x4+1)) x135000 x135001 x135002 x135003 x135004 x137000 x137001 x137002 (x137003 ++ [(⟨bt147.1,bt147.2.1,bt147.2.2.1,bt147.2.2.2.1,bt147.2.2.2.2⟩:S25)]) x137004) else (none))) else (none)) else (some (x137000,x137001,x137002,x137003,x137004))
def qAJ.f:Nat→Int→Int→ByteArray→List (S25)→List ByteArray→Option (Int × Int × ByteArray × (List (S25)) × List ByteArray)
 | 0,_,_,_,_,_=>none
 | k+1,a0_0,a0_1,a0_2,l0_3,l0_4=>if (l0_4.length:Int) > 0 then (if 0≤(wrap64 ((l0_4.length:Int)+3)) then (if (wrap64 ((l0_4.length:Int)+3):Int).toNat≤17592186044416 then ((some (List.replicate 0 (⟨#[]⟩:ByteArray):List ByteArray)).bind fun y137=>(if y137.length+l0_4.length < 8796093022208 then (qAJ.j0 k a0_0 a0_1 a0_2 l0_3 l0_4 a0_0 a0_1 a0_2 (y137 ++ l0_4)) else (none))) else (none)) else (none)) else (qAJ.j0 k a0_0 a0_1 a0_2 l0_3 l0_4 a0_0 a0_1 a0_2 ([]:List ByteArray))
end
theorem qAJ.qBj:∀ k,(∀ y0 y1 y2 y3 y4,LeO (qAJ.f k y0 y1 y2 y3 y4) (qAJ.f (k+1) y0 y1 y2 y3 y4))∧(∀ y0 y1 y2 y3 y4 y5 y6 y7 y8,LeO (qAJ.j0 k y0 y1 y2 y3 y4 y5 y6 y7 y8) (qAJ.j0 (k+1) y0 y1 y2 y3 y4 y5 y6 y7 y8))∧(∀ y0 y1 y2 y3 y4 y5 y6 y7 y8 y9,LeO (qAJ.j1 k y0 y1 y2 y3 y4 y5 y6 y7 y8 y9) (qAJ.j1 (k+1) y0 y1 y2 y3 y4 y5 y6 y7 y8 y9))∧(∀ y0 y1 y2 y3 y4 y5 y6 y7 y8 y9 y10,LeO (qAJ.l0 k y0 y1 y2 y3 y4 y5 y6 y7 y8 y9 y10) (qAJ.l0 (k+1) y0 y1 y2 y3 y4 y5 y6 y7 y8 y9 y10))
 | 0=>⟨fun _ _ _ _ _ r h=>by simp [qAJ.f] at h,fun _ _ _ _ _ _ _ _ _ r h=>by simp [qAJ.j0] at h,fun _ _ _ _ _ _ _ _ _ _ r h=>by simp [qAJ.j1] at h,fun _ _ _ _ _ _ _ _ _ _ _ r h=>by simp [qAJ.l0] at h⟩
 | k+1=>by
  obtain ⟨ih0,ih1,ih2,ih3⟩:=qAJ.qBj k
  refine ⟨?_, ?_, ?_, ?_⟩
  ·intro y0 y1 y2 y3 y4
   unfold qAJ.f
   repeat' first
   | (with_reducible exact ih0 _ _ _ _ _)
   | (with_reducible exact ih1 _ _ _ _ _ _ _ _ _)
   | (with_reducible exact ih2 _ _ _ _ _ _ _ _ _ _)
   | (with_reducible exact ih3 _ _ _ _ _ _ _ _ _ _ _)
   | (with_reducible exact LeO.refl _)
   | (with_reducible exact LeO.none _)
   | (with_reducible refine LeO.ite ?_ ?_)
   | (with_reducible refine LeO.bind ?_ (fun _ => ?_))
   | exact ih0 _ _ _ _ _
   | exact ih1 _ _ _ _ _ _ _ _ _
   | exact ih2 _ _ _ _ _ _ _ _ _ _
   | exact ih3 _ _ _ _ _ _ _ _ _ _ _
   | exact LeO.none _
   | refine LeO.ite ?_ ?_
   | refine LeO.bind ?_ (fun _ => ?_)
  ·intro y0 y1 y2 y3 y4 y5 y6 y7 y8
   unfold qAJ.j0
   repeat' first
   | (with_reducible exact ih0 _ _ _ _ _)
   | (with_reducible exact ih1 _ _ _ _ _ _ _ _ _)
   | (with_reducible exact ih2 _ _ _ _ _ _ _ _ _ _)
   | (with_reducible exact ih3 _ _ _ _ _ _ _ _ _ _ _)
   | (with_reducible exact LeO.refl _)
   | (with_reducible exact LeO.none _)
   | (with_reducible refine LeO.ite ?_ ?_)
   | (with_reducible refine LeO.bind ?_ (fun _ => ?_))
   | exact ih0 _ _ _ _ _
   | exact ih1 _ _ _ _ _ _ _ _ _
   | exact ih2 _ _ _ _ _ _ _ _ _ _
   | exact ih3 _ _ _ _ _ _ _ _ _ _ _
   | exact LeO.none _
   | refine LeO.ite ?_ ?_
   | refine LeO.bind ?_ (fun _ => ?_)
  ·intro y0 y1 y2 y3 y4 y5 y6 y7 y8 y9
   unfold qAJ.j1
   repeat' first
   | (with_reducible exact ih0 _ _ _ _ _)
   | (with_reducible exact ih1 _ _ _ _ _ _ _ _ _)
   | (with_reducible exact ih2 _ _ _ _ _ _ _ _ _ _)
   | (with_reducible exact ih3 _ _ _ _ _ _ _ _ _ _ _)
   | (with_reducible exact LeO.refl _)
   | (with_reducible exact LeO.none _)
   | (with_reducible refine LeO.ite ?_ ?_)
   | (with_reducible refine LeO.bind ?_ (fun _ => ?_))
   | exact ih0 _ _ _ _ _
   | exact ih1 _ _ _ _ _ _ _ _ _
   | exact ih2 _ _ _ _ _ _ _ _ _ _
   | exact ih3 _ _ _ _ _ _ _ _ _ _ _
   | exact LeO.none _
   | refine LeO.ite ?_ ?_
   | refine LeO.bind ?_ (fun _ => ?_)
  ·intro y0 y1 y2 y3 y4 y5 y6 y7 y8 y9 y10
   unfold qAJ.l0
   repeat' first
   | (with_reducible exact ih0 _ _ _ _ _)
   | (with_reducible exact ih1 _ _ _ _ _ _ _ _ _)
   | (with_reducible exact ih2 _ _ _ _ _ _ _ _ _ _)
   | (with_reducible exact ih3 _ _ _ _ _ _ _ _ _ _ _)
   | (with_reducible exact LeO.refl _)
   | (with_reducible exact LeO.none _)
   | (with_reducible refine LeO.ite ?_ ?_)
   | (with_reducible refine LeO.bind ?_ (fun _ => ?_))
   | exact ih0 _ _ _ _ _
   | exact ih1 _ _ _ _ _ _ _ _ _
   | exact ih2 _ _ _ _ _ _ _ _ _ _
   | exact ih3 _ _ _ _ _ _ _ _ _ _ _
   | exact LeO.none _
   | refine LeO.ite ?_ ?_
   | refine LeO.bind ?_ (fun _ => ?_)
theorem qAJ.mono:∀ a0 a1 a2 a3 a4 k,LeO (qAJ.f k a0 a1 a2 a3 a4) (qAJ.f (k+1) a0 a1 a2 a3 a4):=by
 intro a0 a1 a2 a3 a4 k
 obtain ⟨ih0,ih1,ih2,ih3⟩:=qAJ.qBj k
 exact ih0 a0 a1 a2 a3 a4
def qAJ.T3:Bool × List (List Nat × List Nat):=(true,[([],[]),([0],[0]),([1],[1]),([2],[2]),([3],[3]),([],[]),([5],[5]),([4,6],[4,6]),([0,1,2,3,4,5,6,7],[]),([8,7,7,0,1,2,3,4,5,6,7],[7,8])])
def qAJ.B3:List Nat:=[0,1,3,7,15,0,32,127,255,511]
theorem qAJ.tab3:rtab .any (opsOf Try.f28 3)=qAJ.T3:=by kernel_rfl
theorem qAJ.bits3:waitsOk qAJ.T3.2 qAJ.B3=true:=by kernel_rfl
def qAJ.T9:Bool × List (List Nat × List Nat):=(true,[([],[]),([0],[0]),([],[]),([2],[2]),([],[]),([3,4],[3,4]),([5],[5]),([6],[6]),([7],[7]),([1,8,7],[1,8]),([0,1,2,3,4,5,6,7,8,9],[]),([10,9,9,0,1,2,3,4,5,6,7,8,9],[9,10])])
def qAJ.B9:List Nat:=[0,1,0,4,0,28,60,124,252,511,1023,2047]
theorem qAJ.tab9:rtab .any (opsOf Try.f28 9)=qAJ.T9:=by kernel_rfl
theorem qAJ.bits9:waitsOk qAJ.T9.2 qAJ.B9=true:=by kernel_rfl
set_option maxHeartbeats 8000000 in
set_option maxRecDepth 100000 in
theorem qAJ.calls (k:Nat):∀ (a0_0:Int) (a0_1:Int) (a0_2:ByteArray) (A0_3:Option Addr) (c0_3:Nat) (l0_3:List (S25)) (A0_4:Option Addr) (c0_4:Nat) (l0_4:List ByteArray) (r1:Int) (r2:Int) (r3:ByteArray) (r4:List (S25)) (r5:List ByteArray) (w:World) (hr0_3:Kd.C k25 w A0_3 l0_3.length l0_3) (hc0_3:l0_3.length≤c0_3) (hr0_4:Kd.C Kd.string w A0_4 l0_4.length l0_4) (hc0_4:l0_4.length≤c0_4) (h:qAJ.f k a0_0 a0_1 a0_2 l0_3 l0_4=some (r1,r2,r3,r4,r5)),
  Calls Try.prog 28 #[.agg #[.int .i64 a0_0,.int .i64 a0_1,.string a0_2,.slice A0_3 l0_3.length c0_3,.slice A0_4 l0_4.length c0_4]] w fun e w'=>∃ v3_ v4_:Value,e=.returned (.agg #[.int .i64 r1,.int .i64 r2,.string r3,v3_,v4_])∧Kd.R k25 25 w' w.heap.size (fun k_=>some k_ ≠ (v4_:Value).ownBlock) v3_ r4∧Kd.R Kd.string 9 w' w.heap.size (fun _=>True) v4_ r5∧Below w.heap.size w w':=by
 induction k using Nat.strongRecOn with
 | _ k ih =>
 intro a0_0 a0_1 a0_2 A0_3 c0_3 l0_3 A0_4 c0_4 l0_4 r1 r2 r3 r4 r5 w hr0_3 hc0_3 hr0_4 hc0_4 h
 cases k with
 | zero=>exact absurd h (by simp [qAJ.f])
 | succ k =>
 simp only [qAJ.f] at h
 have hu25:=Try.underlying25
 have HR0_3:=qAA.mk hr0_3
 have HC0_3:=qAA.mk hc0_3
 clear hr0_3 hc0_3
 have HR0_4:=qAA.mk hr0_4
 have HC0_4:=qAA.mk hc0_4
 clear hr0_4 hc0_4
 have HB:=qAA.mk (Below.refl w.heap.size w)
 have H:(if (l0_4.length:Int) > 0 then (if 0≤(wrap64 ((l0_4.length:Int)+3)) then (if (wrap64 ((l0_4.length:Int)+3):Int).toNat≤17592186044416 then ((some (List.replicate 0 (⟨#[]⟩:ByteArray):List ByteArray)).bind fun y137=>(if y137.length+l0_4.length < 8796093022208 then (qAJ.j0 k a0_0 a0_1 a0_2 l0_3 l0_4 a0_0 a0_1 a0_2 (y137 ++ l0_4)) else (none))) else (none)) else (none)) else (qAJ.j0 k a0_0 a0_1 a0_2 l0_3 l0_4 a0_0 a0_1 a0_2 ([]:List ByteArray)))=some (r1,r2,r3,r4,r5):=h
 clear h
 have HC2:=qAA.mk H
 clear H
 go_enter Try.func28,Try.ntmps28
 go_upto_if 15 with (first | ((with_reducible refine qAj (N:=1) rfl ?_);refine qAf ?hg (N:=1) ?hd (cs:=#[.int .i64 a0_0,.int .i64 a0_1,.string a0_2,.slice A0_3 l0_3.length c0_3,.slice A0_4 l0_4.length c0_4]) (t:=25) ?hr ?_;(case hd=>rfl);(case hg=>rfl);(case hr=>first | (go_simp;done) | (go_simp;rfl));intro gb134 hg w3 hbox hb;have n0_:=qAA.mk (qAX (by repeat (first | (with_reducible first | exact HB.out | apply qAF | apply qAD | apply qAG) | exact HB.out)) hb);have n1_:=qAA.mk (hbox);have n2_:=qAA.mk ((by rw [hg];exact (qAV (by repeat (first | (with_reducible first | exact HB.out | apply qAF | apply qAD | apply qAG) | exact HB.out))):w.heap.size≤gb134));have n3_:=qAA.mk ((by rw [hg];exact (qAV (by repeat (first | (with_reducible first | exact HB.out | apply qAF | apply qAD | apply qAG) | exact HB.out))):w.heap.size≤gb134));clear HB;have HB:=n0_;have BK134:=n1_;have GW134:=n2_;have GE134:=n3_;clear n0_ n1_ n2_ n3_;clear hb hbox hg) | ((with_reducible refine qAj (N:=2) rfl ?_);refine qAf ?hg (N:=2) ?hd (cs:=#[.int .i64 0,.int .i64 0,.string (⟨#[]⟩:ByteArray),.slice none 0 0,.slice none 0 0]) (t:=25) ?hr ?_;(case hd=>rfl);(case hg=>rfl);(case hr=>first | (go_simp;done) | (go_simp;rfl));intro gb135 hg w4 hbox hb;have n0_:=qAA.mk (qAW (g:=gb134) (o:=.cells #[.int .i64 a0_0,.int .i64 a0_1,.string a0_2,.slice A0_3 l0_3.length c0_3,.slice A0_4 l0_4.length c0_4] 25 (0,0)) (by (with_reducible repeat (first | refine qAN ?_ _ | refine qAM ?_ | refine qAK ?_ _));exact BK134.out) hb);have n1_:=qAA.mk (qAX (by repeat (first | (with_reducible first | exact HB.out | apply qAF | apply qAD | apply qAG | refine qAL ?_ GE134.out) | exact HB.out)) hb);have n2_:=qAA.mk (hbox);have n3_:=qAA.mk ((by rw [hg];exact (qAV (by repeat (first | (with_reducible first | exact HB.out | apply qAF | apply qAD | apply qAG | refine qAL ?_ GE134.out) | exact HB.out))):w.heap.size≤gb135));have n4_:=qAA.mk ((by rw [hg];exact (qAV (by repeat (first | (with_reducible first | exact HB.out | apply qAF | apply qAD | apply qAG | refine qAL ?_ GE134.out) | exact HB.out))):w.heap.size≤gb135));have n5_:=qAA.mk ((by rw [hg];exact Nat.ne_of_lt (qAg (g:=gb134) (o:=.cells #[.int .i64 a0_0,.int .i64 a0_1,.string a0_2,.slice A0_3 l0_3.length c0_3,.slice A0_4 l0_4.length c0_4] 25 (0,0)) (by (with_reducible repeat (first | refine qAN ?_ _ | refine qAM ?_ | refine qAK ?_ _));exact BK134.out)):gb134 ≠ gb135));have n6_:=qAA.mk ((by rw [hg];exact Nat.ne_of_gt (qAg (g:=gb134) (o:=.cells #[.int .i64 a0_0,.int .i64 a0_1,.string a0_2,.slice A0_3 l0_3.length c0_3,.slice A0_4 l0_4.length c0_4] 25 (0,0)) (by (with_reducible repeat (first | refine qAN ?_ _ | refine qAM ?_ | refine qAK ?_ _));exact BK134.out)):gb135 ≠ gb134));clear BK134;clear HB;have BK134:=n0_;have HB:=n1_;have BK135:=n2_;have GW135:=n3_;have GE135:=n4_;have NB134_135:=n5_;have NB135_134:=n6_;clear n0_ n1_ n2_ n3_ n4_ n5_ n6_;clear hb hbox hg;have hnb5:=NB134_135.out;have hnc5:=NB135_134.out;have hcz6_0:w4.cell? ⟨gb134,0,none⟩=some (.int .i64 a0_0):=(qAB BK134.out 0).trans rfl;have hcz6_1:w4.cell? ⟨gb134,1,none⟩=some (.int .i64 a0_1):=(qAB BK134.out 1).trans rfl;have hcz6_2:w4.cell? ⟨gb134,2,none⟩=some (.string a0_2):=(qAB BK134.out 2).trans rfl;have hcz6_3:w4.cell? ⟨gb134,3,none⟩=some (.slice A0_3 l0_3.length c0_3):=(qAB BK134.out 3).trans rfl;have hcz6_4:w4.cell? ⟨gb134,4,none⟩=some (.slice A0_4 l0_4.length c0_4):=(qAB BK134.out 4).trans rfl;have hfz6_0:=qAC BK134.out 0;have hfz6_1:=qAC BK134.out 1;have hfz6_2:=qAC BK134.out 2;have hfz6_3:=qAC BK134.out 3;have hfz6_4:=qAC BK134.out 4) | ((with_reducible refine qAj (N:=3) rfl ?_);refine qAf ?hg (N:=3) ?hd (cs:=#[.int .i64 0,.int .i64 0,.string (⟨#[]⟩:ByteArray),.slice none 0 0,.slice none 0 0]) (t:=25) ?hr ?_;(case hd=>rfl);(case hg=>rfl);(case hr=>first | (go_simp;done) | (go_simp;rfl));intro gb136 hg w7 hbox hb;have n0_:=qAA.mk (qAW (g:=gb134) (o:=.cells #[.int .i64 a0_0,.int .i64 a0_1,.string a0_2,.slice A0_3 l0_3.length c0_3,.slice A0_4 l0_4.length c0_4] 25 (0,0)) (by (with_reducible repeat (first | refine qAN ?_ _ | refine qAM ?_ | refine qAK ?_ _));exact BK134.out) hb);have n1_:=qAA.mk (qAW (g:=gb135) (o:=.cells #[.int .i64 0,.int .i64 0,.string (⟨#[]⟩:ByteArray),.slice none 0 0,.slice none 0 0] 25 (0,0)) (by (with_reducible repeat (first | refine qAN ?_ _ | refine qAM ?_ | refine qAK ?_ _));exact BK135.out) hb);have n2_:=qAA.mk (qAX (by repeat (first | (with_reducible first | exact HB.out | apply qAF | apply qAD | apply qAG | refine qAL ?_ GE134.out | refine qAL ?_ GE135.out) | exact HB.out)) hb);have n3_:=qAA.mk (hbox);have n4_:=qAA.mk ((by rw [hg];exact (qAV (by repeat (first | (with_reducible first | exact HB.out | apply qAF | apply qAD | apply qAG | refine qAL ?_ GE134.out | refine qAL ?_ GE135.out) | exact HB.out))):w.heap.size≤gb136));have n5_:=qAA.mk ((by rw [hg];exact (qAV (by repeat (first | (with_reducible first | exact HB.out | apply qAF | apply qAD | apply qAG | refine qAL ?_ GE134.out | refine qAL ?_ GE135.out) | exact HB.out))):w.heap.size≤gb136));have n6_:=qAA.mk ((by rw [hg];exact Nat.ne_of_lt (qAg (g:=gb134) (o:=.cells #[.int .i64 a0_0,.int .i64 a0_1,.string a0_2,.slice A0_3 l0_3.length c0_3,.slice A0_4 l0_4.length c0_4] 25 (0,0)) (by (with_reducible repeat (first | refine qAN ?_ _ | refine qAM ?_ | refine qAK ?_ _));exact BK134.out)):gb134 ≠ gb136));have n7_:=qAA.mk ((by rw [hg];exact Nat.ne_of_gt (qAg (g:=gb134) (o:=.cells #[.int .i64 a0_0,.int .i64 a0_1,.string a0_2,.slice A0_3 l0_3.length c0_3,.slice A0_4 l0_4.length c0_4] 25 (0,0)) (by (with_reducible repeat (first | refine qAN ?_ _ | refine qAM ?_ | refine qAK ?_ _));exact BK134.out)):gb136 ≠ gb134));have n8_:=qAA.mk ((by rw [hg];exact Nat.ne_of_lt (qAg (g:=gb135) (o:=.cells #[.int .i64 0,.int .i64 0,.string (⟨#[]⟩:ByteArray),.slice none 0 0,.slice none 0 0] 25 (0,0)) (by (with_reducible repeat (first | refine qAN ?_ _ | refine qAM ?_ | refine qAK ?_ _));exact BK135.out)):gb135 ≠ gb136));have n9_:=qAA.mk ((by rw [hg];exact Nat.ne_of_gt (qAg (g:=gb135) (o:=.cells #[.int .i64 0,.int .i64 0,.string (⟨#[]⟩:ByteArray),.slice none 0 0,.slice none 0 0] 25 (0,0)) (by (with_reducible repeat (first | refine qAN ?_ _ | refine qAM ?_ | refine qAK ?_ _));exact BK135.out)):gb136 ≠ gb135));clear BK134;clear BK135;clear HB;have BK134:=n0_;have BK135:=n1_;have HB:=n2_;have BK136:=n3_;have GW136:=n4_;have GE136:=n5_;have NB134_136:=n6_;have NB136_134:=n7_;have NB135_136:=n8_;have NB136_135:=n9_;clear n0_ n1_ n2_ n3_ n4_ n5_ n6_ n7_ n8_ n9_;clear hb hbox hg;have hnb8:=NB136_134.out;have hnc8:=NB134_136.out;have hnb9:=NB136_135.out;have hnc9:=NB135_136.out;have hcz10_0:w7.cell? ⟨gb136,0,none⟩=some (.int .i64 0):=(qAB BK136.out 0).trans rfl;have hcz10_1:w7.cell? ⟨gb136,1,none⟩=some (.int .i64 0):=(qAB BK136.out 1).trans rfl;have hcz10_2:w7.cell? ⟨gb136,2,none⟩=some (.string (⟨#[]⟩:ByteArray)):=(qAB BK136.out 2).trans rfl;have hcz10_3:w7.cell? ⟨gb136,3,none⟩=some (.slice none 0 0):=(qAB BK136.out 3).trans rfl;have hcz10_4:w7.cell? ⟨gb136,4,none⟩=some (.slice none 0 0):=(qAB BK136.out 4).trans rfl;have hfz10_0:=qAC BK136.out 0;have hfz10_1:=qAC BK136.out 1;have hfz10_2:=qAC BK136.out 2;have hfz10_3:=qAC BK136.out 3;have hfz10_4:=qAC BK136.out 4;have hcz11_0:w7.cell? ⟨gb134,0,none⟩=some (.int .i64 a0_0):=(qAB BK134.out 0).trans rfl;have hcz11_1:w7.cell? ⟨gb134,1,none⟩=some (.int .i64 a0_1):=(qAB BK134.out 1).trans rfl;have hcz11_2:w7.cell? ⟨gb134,2,none⟩=some (.string a0_2):=(qAB BK134.out 2).trans rfl;have hcz11_3:w7.cell? ⟨gb134,3,none⟩=some (.slice A0_3 l0_3.length c0_3):=(qAB BK134.out 3).trans rfl;have hcz11_4:w7.cell? ⟨gb134,4,none⟩=some (.slice A0_4 l0_4.length c0_4):=(qAB BK134.out 4).trans rfl;have hfz11_0:=qAC BK134.out 0;have hfz11_1:=qAC BK134.out 1;have hfz11_2:=qAC BK134.out 2;have hfz11_3:=qAC BK134.out 3;have hfz11_4:=qAC BK134.out 4))
 (try simp only [Act.put,qs1,qs2,qs3])
 go_cut [] (fun wc=>∃ (kq:Nat) (x137004_1:List ByteArray) (u137004:Value),qAA (qAJ.j0 kq a0_0 a0_1 a0_2 l0_3 l0_4 a0_0 a0_1 a0_2 x137004_1=some (r1,r2,r3,r4,r5))∧qAA (kq≤k)∧qAA (Kd.R Kd.string 9 wc w.heap.size (fun _=>True) u137004 x137004_1)∧qAA (wc.heap[gb134]?=some (.cells #[.int .i64 a0_0,.int .i64 a0_1,.string a0_2,(.slice A0_3 l0_3.length c0_3),(.slice A0_4 l0_4.length c0_4)] 25 (0,0)))∧qAA (wc.heap[gb135]?=some (.cells #[.int .i64 0,.int .i64 0,.string (⟨#[]⟩:ByteArray),(.slice none 0 0),(.slice none 0 0)] 25 (0,0)))∧qAA (wc.heap[gb136]?=some (.cells #[.int .i64 a0_0,.int .i64 a0_1,.string a0_2,(.slice none 0 0),u137004] 25 (0,0)))∧qAA (Below w.heap.size w wc))
 case first =>
  have H:=HC2.out
  clear HC2
  by_cases c12:(l0_4.length:Int) > 0
  ·rw [if_pos c12] at H
   have c12b0:decide (0 < (l0_4.length:Int))=true:=decide_eq_true c12
   have c12b1:decide (0 < l0_4.length)=true:=decide_eq_true (by omega)
   clear c12
   (first | rw [c12b0] | (simp only [qAR,qAT];rw [c12b0]) | rw [c12b1] | (simp only [qAR,qAT];rw [c12b1]) | skip)
   obtain ⟨ji13,hji13⟩:∃ j_:Int,(wrap64 ((l0_4.length:Int)+3))=j_:=⟨_,rfl⟩
   replace H:(if 0≤(ji13) then (if (ji13:Int).toNat≤17592186044416 then ((some (List.replicate 0 (⟨#[]⟩:ByteArray):List ByteArray)).bind fun y137=>(if y137.length+l0_4.length < 8796093022208 then (qAJ.j0 k a0_0 a0_1 a0_2 l0_3 l0_4 a0_0 a0_1 a0_2 (y137 ++ l0_4)) else (none))) else (none)) else (none))=some (r1,r2,r3,r4,r5):=by first | (rw [hji13] at H;exact H) | (simp only [hji13] at H ⊢;exact H)
   have hji13w:(IntKind.i64.wrap ((l0_4.length:Int)+3))=ji13:=(qAR _).trans hji13
   by_cases c14:0≤(ji13)
   ·rw [if_pos c14] at H
    have LMc14:=qAA.mk c14
    clear c14
    by_cases c15:(ji13:Int).toNat≤17592186044416
    ·rw [if_pos c15] at H
     have LMc15:=qAA.mk c15
     clear c15
     obtain ⟨y137,hy137⟩:∃ y_:List ByteArray,y_=(List.replicate 0 (⟨#[]⟩:ByteArray)):=⟨_,rfl⟩
     replace H:(if y137.length+l0_4.length < 8796093022208 then (qAJ.j0 k a0_0 a0_1 a0_2 l0_3 l0_4 a0_0 a0_1 a0_2 (y137 ++ l0_4)) else (none))=some (r1,r2,r3,r4,r5):=by first | (rw [hy137];with_reducible exact H) | (have H2_:=(Option.bind_some _ _).symm.trans H;rw [hy137];with_reducible exact H2_) | (have H2_:=(Option.bind_some _ _).symm.trans H;with_reducible exact H2_) | with_reducible exact H | (rw [hy137];exact H) | exact H
     have Ny137:=qAA.mk hy137
     clear hy137
     by_cases c16:y137.length+l0_4.length < 8796093022208
     ·rw [if_pos c16] at H
      have LMc16:=qAA.mk c16
      clear c16
      obtain ⟨y140,hy140⟩:∃ y_:List ByteArray,y_=(y137 ++ l0_4):=⟨_,rfl⟩
      replace H:(qAJ.j0 k a0_0 a0_1 a0_2 l0_3 l0_4 a0_0 a0_1 a0_2 y140)=some (r1,r2,r3,r4,r5):=by first | (rw [hy140];with_reducible exact H) | (have H2_:=(Option.bind_some _ _).symm.trans H;rw [hy140];with_reducible exact H2_) | (have H2_:=(Option.bind_some _ _).symm.trans H;with_reducible exact H2_) | with_reducible exact H | (rw [hy140];exact H) | exact H
      have Ny140:=qAA.mk hy140
      clear hy140
      have H':=qAA.mk H
      clear H
      try go_wp2
      have n0_:qAA ((((((w7.setCell ⟨gb136,0,none⟩ (.int .i64 a0_0)).setCell ⟨gb136,1,none⟩ (.int .i64 a0_1)).setCell ⟨gb136,2,none⟩ (.string a0_2)).setCell ⟨gb136,3,none⟩ (.slice none 0 0)).setCell ⟨gb136,4,none⟩ (.slice none 0 0)).heap[gb134]?=some (.cells #[.int .i64 a0_0,.int .i64 a0_1,.string a0_2,.slice A0_3 l0_3.length c0_3,.slice A0_4 l0_4.length c0_4] 25 (0,0))):=⟨by (with_reducible repeat (first | refine qAN ?_ _ | refine qAM ?_ | refine qAK ?_ _));refine qBR ?_ NB134_136.out _;(with_reducible repeat (first | refine qAN ?_ _ | refine qAM ?_ | refine qAK ?_ _));refine qBR ?_ NB134_136.out _;(with_reducible repeat (first | refine qAN ?_ _ | refine qAM ?_ | refine qAK ?_ _));refine qBR ?_ NB134_136.out _;(with_reducible repeat (first | refine qAN ?_ _ | refine qAM ?_ | refine qAK ?_ _));refine qBR ?_ NB134_136.out _;(with_reducible repeat (first | refine qAN ?_ _ | refine qAM ?_ | refine qAK ?_ _));refine qBR ?_ NB134_136.out _;(with_reducible repeat (first | refine qAN ?_ _ | refine qAM ?_ | refine qAK ?_ _));exact BK134.out⟩
      have n1_:qAA ((((((w7.setCell ⟨gb136,0,none⟩ (.int .i64 a0_0)).setCell ⟨gb136,1,none⟩ (.int .i64 a0_1)).setCell ⟨gb136,2,none⟩ (.string a0_2)).setCell ⟨gb136,3,none⟩ (.slice none 0 0)).setCell ⟨gb136,4,none⟩ (.slice none 0 0)).heap[gb135]?=some (.cells #[.int .i64 0,.int .i64 0,.string (⟨#[]⟩:ByteArray),.slice none 0 0,.slice none 0 0] 25 (0,0))):=⟨by (with_reducible repeat (first | refine qAN ?_ _ | refine qAM ?_ | refine qAK ?_ _));refine qBR ?_ NB135_136.out _;(with_reducible repeat (first | refine qAN ?_ _ | refine qAM ?_ | refine qAK ?_ _));refine qBR ?_ NB135_136.out _;(with_reducible repeat (first | refine qAN ?_ _ | refine qAM ?_ | refine qAK ?_ _));refine qBR ?_ NB135_136.out _;(with_reducible repeat (first | refine qAN ?_ _ | refine qAM ?_ | refine qAK ?_ _));refine qBR ?_ NB135_136.out _;(with_reducible repeat (first | refine qAN ?_ _ | refine qAM ?_ | refine qAK ?_ _));refine qBR ?_ NB135_136.out _;(with_reducible repeat (first | refine qAN ?_ _ | refine qAM ?_ | refine qAK ?_ _));exact BK135.out⟩
      have n2_:qAA ((((((w7.setCell ⟨gb136,0,none⟩ (.int .i64 a0_0)).setCell ⟨gb136,1,none⟩ (.int .i64 a0_1)).setCell ⟨gb136,2,none⟩ (.string a0_2)).setCell ⟨gb136,3,none⟩ (.slice none 0 0)).setCell ⟨gb136,4,none⟩ (.slice none 0 0)).heap[gb136]?=some (.cells #[.int .i64 a0_0,.int .i64 a0_1,.string a0_2,.slice none 0 0,.slice none 0 0] 25 (0,0))):=⟨by (with_reducible repeat (first | refine qAN ?_ _ | refine qAM ?_ | refine qAK ?_ _));refine qA2 (cs:=#[.int .i64 a0_0,.int .i64 a0_1,.string a0_2,.slice none 0 0,.slice none 0 0]) ?_ 4 _ rfl;(with_reducible repeat (first | refine qAN ?_ _ | refine qAM ?_ | refine qAK ?_ _));refine qA2 (cs:=#[.int .i64 a0_0,.int .i64 a0_1,.string a0_2,.slice none 0 0,.slice none 0 0]) ?_ 3 _ rfl;(with_reducible repeat (first | refine qAN ?_ _ | refine qAM ?_ | refine qAK ?_ _));refine qA2 (cs:=#[.int .i64 a0_0,.int .i64 a0_1,.string (⟨#[]⟩:ByteArray),.slice none 0 0,.slice none 0 0]) ?_ 2 _ rfl;(with_reducible repeat (first | refine qAN ?_ _ | refine qAM ?_ | refine qAK ?_ _));refine qA2 (cs:=#[.int .i64 a0_0,.int .i64 0,.string (⟨#[]⟩:ByteArray),.slice none 0 0,.slice none 0 0]) ?_ 1 _ rfl;(with_reducible repeat (first | refine qAN ?_ _ | refine qAM ?_ | refine qAK ?_ _));refine qA2 (cs:=#[.int .i64 0,.int .i64 0,.string (⟨#[]⟩:ByteArray),.slice none 0 0,.slice none 0 0]) ?_ 0 _ rfl;(with_reducible repeat (first | refine qAN ?_ _ | refine qAM ?_ | refine qAK ?_ _));exact BK136.out⟩
      have n3_:qAA (Below w.heap.size w (((((w7.setCell ⟨gb136,0,none⟩ (.int .i64 a0_0)).setCell ⟨gb136,1,none⟩ (.int .i64 a0_1)).setCell ⟨gb136,2,none⟩ (.string a0_2)).setCell ⟨gb136,3,none⟩ (.slice none 0 0)).setCell ⟨gb136,4,none⟩ (.slice none 0 0))):=⟨by repeat (first | (with_reducible first | exact HB.out | apply qAF | apply qAD | apply qAG | refine qAL ?_ GE134.out | refine qAL ?_ GE135.out | refine qAL ?_ GE136.out) | exact HB.out)⟩
      (try clear BK134)
      (try clear BK135)
      (try clear BK136)
      (try clear HB)
      generalize (((((w7.setCell ⟨gb136,0,none⟩ (.int .i64 a0_0)).setCell ⟨gb136,1,none⟩ (.int .i64 a0_1)).setCell ⟨gb136,2,none⟩ (.string a0_2)).setCell ⟨gb136,3,none⟩ (.slice none 0 0)).setCell ⟨gb136,4,none⟩ (.slice none 0 0))=w17 at n0_ n1_ n2_ n3_ ⊢
      have BK134:=n0_
      have BK135:=n1_
      have BK136:=n2_
      have HB:=n3_
      clear n0_ n1_ n2_ n3_
      have n0_:=qAA.mk (qAM BK134.out)
      have n1_:=qAA.mk (qAM BK135.out)
      have n2_:=qAA.mk (qAM BK136.out)
      have n3_:=qAA.mk (qAG HB.out)
      clear BK134
      clear BK135
      clear BK136
      clear HB
      have BK134:=n0_
      have BK135:=n1_
      have BK136:=n2_
      have HB:=n3_
      clear n0_ n1_ n2_ n3_
      refine qBd (n:=10) (S:=fun w'=>w'.cell? ⟨gb134,0,none⟩=some (.int .i64 a0_0)∧w'.cell? ⟨gb134,1,none⟩=some (.int .i64 a0_1)∧w'.cell? ⟨gb134,2,none⟩=some (.string a0_2)∧w'.cell? ⟨gb134,3,none⟩=some (.slice A0_3 l0_3.length c0_3)∧w'.cell? ⟨gb134,4,none⟩=some (.slice A0_4 l0_4.length c0_4)) (ds:=[]) #[qF,qF,qF,qF,qF,qF,qF,qF,qF,qF] (by kernel_rfl) rfl rfl ⟨(qAB BK134.out 0).trans rfl,(qAB BK134.out 1).trans rfl,(qAB BK134.out 2).trans rfl,(qAB BK134.out 3).trans rfl,(qAB BK134.out 4).trans rfl⟩ (fun hHeld => ?_);refine qCU qAJ.tab3 qAJ.bits3 (fun HT_ HW_ => ?_)
      generalize w17.drew=w18 at BK134 BK135 BK136 HB hHeld ⊢
      refine qAd (i:=0) (N:=some 16) (v := ?_) (a' := ?_) #[qT,qF,qF,qF,qF,qF,qF,qF,qF,qF] rfl rfl (qBY HT_.out (by kernel_rfl)) (fun _ _ _ h=>h) (Or.inl ⟨by rfl, ?_⟩) ?_ ?_
      rotate_left
      ·intro w'
       go_simp
       with_reducible rfl
      rotate_left
      ·simp only [Act.put,qs1,qs2,qs3,qAR,qAT]
       rfl
      refine qAd (i:=5) (N:=some 21) (v := ?_) (a' := ?_) #[qT,qF,qF,qF,qF,qT,qF,qF,qF,qF] rfl rfl (qBY HT_.out (by kernel_rfl)) (fun _ _ _ h=>h) (Or.inl ⟨by rfl, ?_⟩) ?_ ?_
      rotate_left
      ·intro w'
       go_simp
       with_reducible rfl
      rotate_left
      ·simp only [Act.put,qs1,qs2,qs3,qAR,qAT]
       rfl
      refine qBP (i:=1) (N:=some 17) (v := ?_) (a' := ?_) #[qT,qT,qF,qF,qF,qT,qF,qF,qF,qF] rfl rfl (qBe HT_.out HW_.out (by kernel_rfl)) (fun _ _ _ h=>h) (Or.inl ⟨by rfl, ?_⟩) hHeld ?_ ?_
      rotate_left
      ·rintro w' ⟨s0,s1,s2,s3,s4⟩
       go_simp
       with_reducible rfl
      rotate_left
      ·simp only [Act.put,qs1,qs2,qs3,qAR,qAT]
       rfl
      refine qAd (i:=2) (N:=some 18) (v := ?_) (a' := ?_) #[qT,qT,qT,qF,qF,qT,qF,qF,qF,qF] rfl rfl (qBY HT_.out (by kernel_rfl)) (fun _ _ _ h=>h) (Or.inl ⟨by rfl, ?_⟩) ?_ ?_
      rotate_left
      ·intro w'
       go_simp
       with_reducible rfl
      rotate_left
      ·simp only [Act.put,qs1,qs2,qs3,qAR,qAT]
       rfl
      refine qAd (i:=3) (N:=some 19) (v := ?_) (a' := ?_) #[qT,qT,qT,qT,qF,qT,qF,qF,qF,qF] rfl rfl (qBY HT_.out (by kernel_rfl)) (fun _ _ _ h=>h) (Or.inl ⟨by rfl, ?_⟩) ?_ ?_
      rotate_left
      ·intro w'
       go_simp
       with_reducible rfl
      rotate_left
      ·simp only [Act.put,qs1,qs2,qs3,qAR,qAT]
       rfl
      refine qBP (i:=6) (N:=some 22) (v := ?_) (a' := ?_) #[qT,qT,qT,qT,qF,qT,qT,qF,qF,qF] rfl rfl (qBe HT_.out HW_.out (by kernel_rfl)) (fun _ _ _ h=>h) (Or.inl ⟨by rfl, ?_⟩) hHeld ?_ ?_
      rotate_left
      ·rintro w' ⟨s0,s1,s2,s3,s4⟩
       go_simp
       with_reducible rfl
      rotate_left
      ·simp only [Act.put,qs1,qs2,qs3,qAR,qAT]
       rfl
      refine one_ (i:=4) (N:=some 20) #[qT,qT,qT,qT,qT,qT,qT,qF,qF,qF] rfl rfl (one_of HT_.out (by kernel_rfl)) (by decide) (fun K hK => ?_)
      refine XWords.R_make_c_step Kd.string _ 9 (by rfl) (N:=20) rfl 23 _ _ rfl 0 ji13 rfl rfl Try.underlying23 (.string ⟨#[]⟩) 16 info9 rfl (by decide) (by omega) (⟨#[]⟩:ByteArray) (ok:=fun _=>True) (okp:=fun _=>True) rfl (fun _ hk=>hk) trivial (by omega) LMc14.out (Nat.le_trans (Nat.mul_le_mul_right _ (show ji13.toNat≤17592186044416 from LMc15.out)) (by omega)) (Below.refl _ _) (Nat.le_refl _) ?_
      intro v138 w19 ho20 hb hg_ hnew_
      clear hg_ hnew_
      (first | rw [← Ny137.out] at ho20 | (simp only [Int.reduceToNat] at ho20;rw [← Ny137.out] at ho20))
      have n0_:=qAA.mk (Kd.qBk ho20 (qAV (by repeat (first | (with_reducible first | exact HB.out | apply qAF | apply qAD | apply qAG | refine qAL ?_ GE134.out | refine qAL ?_ GE135.out | refine qAL ?_ GE136.out) | exact HB.out))))
      have n1_:=qAA.mk (qAW (g:=gb134) (o:=.cells #[.int .i64 a0_0,.int .i64 a0_1,.string a0_2,.slice A0_3 l0_3.length c0_3,.slice A0_4 l0_4.length c0_4] 25 (0,0)) (by (with_reducible repeat (first | refine qAN ?_ _ | refine qAM ?_ | refine qAK ?_ _));exact BK134.out) hb)
      have n2_:=qAA.mk (qAW (g:=gb135) (o:=.cells #[.int .i64 0,.int .i64 0,.string (⟨#[]⟩:ByteArray),.slice none 0 0,.slice none 0 0] 25 (0,0)) (by (with_reducible repeat (first | refine qAN ?_ _ | refine qAM ?_ | refine qAK ?_ _));exact BK135.out) hb)
      have n3_:=qAA.mk (qAW (g:=gb136) (o:=.cells #[.int .i64 a0_0,.int .i64 a0_1,.string a0_2,.slice none 0 0,.slice none 0 0] 25 (0,0)) (by (with_reducible repeat (first | refine qAN ?_ _ | refine qAM ?_ | refine qAK ?_ _));exact BK136.out) hb)
      have n4_:=qAA.mk (qAX (by repeat (first | (with_reducible first | exact HB.out | apply qAF | apply qAD | apply qAG | refine qAL ?_ GE134.out | refine qAL ?_ GE135.out | refine qAL ?_ GE136.out) | exact HB.out)) hb)
      clear BK134
      clear BK135
      clear BK136
      clear HB
      have HO139:=n0_
      have BK134:=n1_
      have BK135:=n2_
      have BK136:=n3_
      have HB:=n4_
      clear n0_ n1_ n2_ n3_ n4_
      clear hb ho20
      refine hK.out _ _ ⟨(qAB BK134.out 0).trans rfl,(qAB BK134.out 1).trans rfl,(qAB BK134.out 2).trans rfl,(qAB BK134.out 3).trans rfl,(qAB BK134.out 4).trans rfl⟩ (fun hHeld => ?_)
      clear hK K
      refine qBS (a' := ?_) ?_ ?_
      rotate_left
      ·show Act.put _ (some 20) _=_
       simp only [Act.put,qs1,qs2,qs3,qAR,qAT]
       rfl
      refine one_ (i:=7) (N:=some 23) #[qT,qT,qT,qT,qT,qT,qT,qT,qF,qF] rfl rfl (one_of HT_.out (by kernel_rfl)) (by decide) (fun K hK => ?_)
      refine Kd.qCR Kd.string (w0:=w) w.heap.size (by rfl) (.tmp 20) (.tmp 22) 23 9 (.string ⟨#[]⟩) 16 rfl Try.underlying23 info9 rfl (by decide) (by omega) v138 y137 l0_4 _ _ _ (fun _=>True) (fun _=>False) rfl rfl ?aO ?aR (fun _ _ h=>h) (fun _ h=>h.elim) ?aF ?aB ?aS ?aL ?_
      (case aR=>repeat (first | exact (Kd.qAe HR0_4.out HB.out) | (with_reducible refine Kd.qAs ?_ _) | (with_reducible refine Kd.qAr ?_ _) | (with_reducible refine Kd.qA0 ?_)))
      (case aB=>exact (by repeat (first | (with_reducible first | exact HB.out | apply qAF | apply qAD | apply qAG | refine qAL ?_ GE134.out | refine qAL ?_ GE135.out | refine qAL ?_ GE136.out) | exact HB.out)))
      (case aF=>exact (fun _ _=>trivial))
      (case aO=>exact (by (with_reducible repeat (first | apply Kd.qA7 | apply Kd.qBA | apply Kd.qBC));exact HO139.out))
      (case aS=>exact (qAV (by repeat (first | (with_reducible first | exact HB.out | apply qAF | apply qAD | apply qAG | refine qAL ?_ GE134.out | refine qAL ?_ GE135.out | refine qAL ?_ GE136.out) | exact HB.out))))
      (case aL=>have:=LMc16.out;omega)
      intro v141 w21 ho hb hg hat
      rw [← Ny140.out] at ho
      have n0_:=qAA.mk (qAz (g:=gb134) (o:=.cells #[.int .i64 a0_0,.int .i64 a0_1,.string a0_2,.slice A0_3 l0_3.length c0_3,.slice A0_4 l0_4.length c0_4] 25 (0,0)) (by (with_reducible repeat (first | refine qAN ?_ _ | refine qAM ?_ | refine qAK ?_ _));exact BK134.out) hg (Kd.R_ne HO139.out BK134.out (by decide)))
      have n1_:=qAA.mk (qAz (g:=gb135) (o:=.cells #[.int .i64 0,.int .i64 0,.string (⟨#[]⟩:ByteArray),.slice none 0 0,.slice none 0 0] 25 (0,0)) (by (with_reducible repeat (first | refine qAN ?_ _ | refine qAM ?_ | refine qAK ?_ _));exact BK135.out) hg (Kd.R_ne HO139.out BK135.out (by decide)))
      have n2_:=qAA.mk (qAz (g:=gb136) (o:=.cells #[.int .i64 a0_0,.int .i64 a0_1,.string a0_2,.slice none 0 0,.slice none 0 0] 25 (0,0)) (by (with_reducible repeat (first | refine qAN ?_ _ | refine qAM ?_ | refine qAK ?_ _));exact BK136.out) hg (Kd.R_ne HO139.out BK136.out (by decide)))
      have n3_:=qAA.mk (hb)
      have n4_:=qAA.mk (ho)
      clear BK134
      clear BK135
      clear BK136
      clear HB
      clear HO139
      have BK134:=n0_
      have BK135:=n1_
      have BK136:=n2_
      have HB:=n3_
      have HO142:=n4_
      clear n0_ n1_ n2_ n3_ n4_
      clear ho hb hg hat
      obtain ⟨Ao22,co22,eo22⟩:=Kd.qA4 HO142.out
      (first | subst eo22 | (injection eo22 with f1_ f2_ f3_;have f4_:=f1_.symm;have f5_:=f3_.symm;clear f1_ f2_ f3_;subst f4_;subst f5_))
      refine hK.out _ _ ⟨(qAB BK134.out 0).trans rfl,(qAB BK134.out 1).trans rfl,(qAB BK134.out 2).trans rfl,(qAB BK134.out 3).trans rfl,(qAB BK134.out 4).trans rfl⟩ (fun hHeld => ?_)
      clear hK K
      refine qBS (a' := ?_) ?_ ?_
      rotate_left
      ·show Act.put _ (some 23) _=_
       simp only [Act.put,qs1,qs2,qs3,qAR,qAT]
       rfl
      refine qAd (i:=8) (N:=some 24) (v := ?_) (a' := ?_) #[qT,qT,qT,qT,qT,qT,qT,qT,qT,qF] rfl rfl (qBY HT_.out (by kernel_rfl)) (fun _ _ _ h=>h) (Or.inl ⟨by rfl, ?_⟩) ?_ ?_
      rotate_left
      ·intro w'
       go_simp
       with_reducible rfl
      rotate_left
      ·simp only [Act.put,qs1,qs2,qs3,qAR,qAT]
       rfl
      refine one_ (i:=9) (N:=none) #[qT,qT,qT,qT,qT,qT,qT,qT,qT,qT] rfl rfl (one_of HT_.out (by kernel_rfl)) (by decide) (fun K hK => ?_)
      have hs23:w21.cell? ⟨gb136,4,none⟩=some (.slice none 0 0):=(qAB BK136.out 4).trans rfl
      have hfs23:=qAC BK136.out 4
      have hns23_0:=NB134_136.out
      have hns23_1:=NB135_136.out
      have hms23_0:=NB136_134.out
      have hms23_1:=NB136_135.out
      refine skip_ (w1 := ?_) (by rfl) rfl ?_ ?_
      rotate_left
      ·go_simp
       rfl
      refine hK.out _ _ ⟨((cell_far (p:=⟨gb136,_,none⟩) NB134_136.out _).trans (hHeld.1)),((cell_far (p:=⟨gb136,_,none⟩) NB134_136.out _).trans (hHeld.2.1)),((cell_far (p:=⟨gb136,_,none⟩) NB134_136.out _).trans (hHeld.2.2.1)),((cell_far (p:=⟨gb136,_,none⟩) NB134_136.out _).trans (hHeld.2.2.2.1)),((cell_far (p:=⟨gb136,_,none⟩) NB134_136.out _).trans (hHeld.2.2.2.2))⟩ (fun hHeld => ?_)
      clear hK K
      refine qBu (done_of HT_.out (by kernel_rfl)) ?_
      try go_wp2
      go_meet
      case rel=>exact ⟨_,(y140),(.slice Ao22 y140.length co22),H',⟨by first | omega | exact Nat.le_refl _⟩,⟨by (with_reducible repeat (first | apply Kd.qA7 | apply Kd.qBA | apply Kd.qBC));exact Kd.qA9 (Kd.qBy (p:=⟨gb136,4,none⟩) (Kd.qBn HO142.out BK136.out (by decide)) (fun _ hk=>hk.2) (.slice Ao22 y140.length co22)) (fun _ hk=>trivial)⟩,⟨by (with_reducible repeat (first | refine qAN ?_ _ | refine qAM ?_ | refine qAK ?_ _));refine qBR ?_ NB134_136.out _;(with_reducible repeat (first | refine qAN ?_ _ | refine qAM ?_ | refine qAK ?_ _));exact BK134.out⟩,⟨by (with_reducible repeat (first | refine qAN ?_ _ | refine qAM ?_ | refine qAK ?_ _));refine qBR ?_ NB135_136.out _;(with_reducible repeat (first | refine qAN ?_ _ | refine qAM ?_ | refine qAK ?_ _));exact BK135.out⟩,⟨by (with_reducible repeat (first | refine qAN ?_ _ | refine qAM ?_ | refine qAK ?_ _));refine qA2 (cs:=#[.int .i64 a0_0,.int .i64 a0_1,.string a0_2,.slice none 0 0,.slice none 0 0]) ?_ 4 _ rfl;(with_reducible repeat (first | refine qAN ?_ _ | refine qAM ?_ | refine qAK ?_ _));exact BK136.out⟩,⟨by repeat (first | (with_reducible first | exact HB.out | apply qAF | apply qAD | apply qAG | refine qAL ?_ GE134.out | refine qAL ?_ GE135.out | refine qAL ?_ GE136.out) | exact HB.out)⟩⟩
     ·rw [if_neg c16] at H
      exact absurd H (by simp)
    ·rw [if_neg c15] at H
     exact absurd H (by simp)
   ·rw [if_neg c14] at H
    exact absurd H (by simp)
  ·rw [if_neg c12] at H
   have c12b0:decide (0 < (l0_4.length:Int))=false:=decide_eq_false c12
   have c12b1:decide (0 < l0_4.length)=false:=decide_eq_false (by omega)
   clear c12
   (first | rw [c12b0] | (simp only [qAR,qAT];rw [c12b0]) | rw [c12b1] | (simp only [qAR,qAT];rw [c12b1]) | skip)
   have H':=qAA.mk H
   clear H
   go_wp2
   go_meet
   case rel=>exact ⟨_,(([]:List ByteArray)),(.slice none 0 0),H',⟨by first | omega | exact Nat.le_refl _⟩,⟨by first | exact Kd.qBB _ _ _ _ _ | exact Kd.N_nil _ _ _ _ _ | exact Kd.V_nil _ _ _ _ _ | exact Kd.Q_nil _ _ _ _ _ | exact Kd.S_nil _ _ _ _ _⟩,⟨by (with_reducible repeat (first | refine qAN ?_ _ | refine qAM ?_ | refine qAK ?_ _));refine qBR ?_ NB134_136.out _;(with_reducible repeat (first | refine qAN ?_ _ | refine qAM ?_ | refine qAK ?_ _));refine qBR ?_ NB134_136.out _;(with_reducible repeat (first | refine qAN ?_ _ | refine qAM ?_ | refine qAK ?_ _));refine qBR ?_ NB134_136.out _;(with_reducible repeat (first | refine qAN ?_ _ | refine qAM ?_ | refine qAK ?_ _));refine qBR ?_ NB134_136.out _;(with_reducible repeat (first | refine qAN ?_ _ | refine qAM ?_ | refine qAK ?_ _));refine qBR ?_ NB134_136.out _;(with_reducible repeat (first | refine qAN ?_ _ | refine qAM ?_ | refine qAK ?_ _));exact BK134.out⟩,⟨by (with_reducible repeat (first | refine qAN ?_ _ | refine qAM ?_ | refine qAK ?_ _));refine qBR ?_ NB135_136.out _;(with_reducible repeat (first | refine qAN ?_ _ | refine qAM ?_ | refine qAK ?_ _));refine qBR ?_ NB135_136.out _;(with_reducible repeat (first | refine qAN ?_ _ | refine qAM ?_ | refine qAK ?_ _));refine qBR ?_ NB135_136.out _;(with_reducible repeat (first | refine qAN ?_ _ | refine qAM ?_ | refine qAK ?_ _));refine qBR ?_ NB135_136.out _;(with_reducible repeat (first | refine qAN ?_ _ | refine qAM ?_ | refine qAK ?_ _));refine qBR ?_ NB135_136.out _;(with_reducible repeat (first | refine qAN ?_ _ | refine qAM ?_ | refine qAK ?_ _));exact BK135.out⟩,⟨by (with_reducible repeat (first | refine qAN ?_ _ | refine qAM ?_ | refine qAK ?_ _));refine qA2 (cs:=#[.int .i64 a0_0,.int .i64 a0_1,.string a0_2,.slice none 0 0,.slice none 0 0]) ?_ 4 _ rfl;(with_reducible repeat (first | refine qAN ?_ _ | refine qAM ?_ | refine qAK ?_ _));refine qA2 (cs:=#[.int .i64 a0_0,.int .i64 a0_1,.string a0_2,.slice none 0 0,.slice none 0 0]) ?_ 3 _ rfl;(with_reducible repeat (first | refine qAN ?_ _ | refine qAM ?_ | refine qAK ?_ _));refine qA2 (cs:=#[.int .i64 a0_0,.int .i64 a0_1,.string (⟨#[]⟩:ByteArray),.slice none 0 0,.slice none 0 0]) ?_ 2 _ rfl;(with_reducible repeat (first | refine qAN ?_ _ | refine qAM ?_ | refine qAK ?_ _));refine qA2 (cs:=#[.int .i64 a0_0,.int .i64 0,.string (⟨#[]⟩:ByteArray),.slice none 0 0,.slice none 0 0]) ?_ 1 _ rfl;(with_reducible repeat (first | refine qAN ?_ _ | refine qAM ?_ | refine qAK ?_ _));refine qA2 (cs:=#[.int .i64 0,.int .i64 0,.string (⟨#[]⟩:ByteArray),.slice none 0 0,.slice none 0 0]) ?_ 0 _ rfl;(with_reducible repeat (first | refine qAN ?_ _ | refine qAM ?_ | refine qAK ?_ _));exact BK136.out⟩,⟨by repeat (first | (with_reducible first | exact HB.out | apply qAF | apply qAD | apply qAG | refine qAL ?_ GE134.out | refine qAL ?_ GE135.out | refine qAL ?_ GE136.out) | exact HB.out)⟩⟩
 case rest =>
  clear HC2
  try clear c1
  try clear c2
  try clear p2
  try clear c5
  try clear p6
  try clear c8
  try clear c9
  try clear c12
  try clear c12b0
  try clear c12b1
  try clear c14
  try clear c15
  try clear c16
  try clear hcz10_0
  try clear hcz10_1
  try clear hcz10_2
  try clear hcz10_3
  try clear hcz10_4
  try clear hcz11_0
  try clear hcz11_1
  try clear hcz11_2
  try clear hcz11_3
  try clear hcz11_4
  try clear hcz6_0
  try clear hcz6_1
  try clear hcz6_2
  try clear hcz6_3
  try clear hcz6_4
  try clear hfz10_0
  try clear hfz10_1
  try clear hfz10_2
  try clear hfz10_3
  try clear hfz10_4
  try clear hfz11_0
  try clear hfz11_1
  try clear hfz11_2
  try clear hfz11_3
  try clear hfz11_4
  try clear hfz6_0
  try clear hfz6_1
  try clear hfz6_2
  try clear hfz6_3
  try clear hfz6_4
  obtain ⟨kq,x137004_1,u137004,HA,HJ1,HO_137004,BK134,BK135,BK136,HB⟩:=hcut
  cases kq with
  | zero=>exact absurd HA.out (by simp [qAJ.j0])
  | succ kj1 =>
   have H:=HA.out
   clear HA
   simp only [qAJ.j0] at H
   have HC24:=qAA.mk H
   clear H
   have hnb25:=NB134_135.out
   have hnc25:=NB135_134.out
   have hnb26:=NB134_136.out
   have hnc26:=NB136_134.out
   have hcz27_0:wc.cell? ⟨gb134,0,none⟩=some (.int .i64 a0_0):=(qAB BK134.out 0).trans rfl
   have hcz27_1:wc.cell? ⟨gb134,1,none⟩=some (.int .i64 a0_1):=(qAB BK134.out 1).trans rfl
   have hcz27_2:wc.cell? ⟨gb134,2,none⟩=some (.string a0_2):=(qAB BK134.out 2).trans rfl
   have hcz27_3:wc.cell? ⟨gb134,3,none⟩=some (.slice A0_3 l0_3.length c0_3):=(qAB BK134.out 3).trans rfl
   have hcz27_4:wc.cell? ⟨gb134,4,none⟩=some (.slice A0_4 l0_4.length c0_4):=(qAB BK134.out 4).trans rfl
   have hfz27_0:=qAC BK134.out 0
   have hfz27_1:=qAC BK134.out 1
   have hfz27_2:=qAC BK134.out 2
   have hfz27_3:=qAC BK134.out 3
   have hfz27_4:=qAC BK134.out 4
   go_upto_if 28 with (fail)
   go_cut [] (fun wc=>∃ (kq:Nat) (x137003_23:List (S25)) (u137003:Value),qAA (qAJ.j1 kq a0_0 a0_1 a0_2 l0_3 l0_4 a0_0 a0_1 a0_2 x137003_23 x137004_1=some (r1,r2,r3,r4,r5))∧qAA (kq≤kj1)∧qAA (Kd.R k25 25 wc w.heap.size (fun k_=>some k_ ≠ (u137004:Value).ownBlock∧k_ ≠ gb134∧k_ ≠ gb135∧k_ ≠ gb136) u137003 x137003_23)∧qAA (Kd.R Kd.string 9 wc w.heap.size (fun _=>True) u137004 x137004_1)∧qAA (wc.heap[gb134]?=some (.cells #[.int .i64 a0_0,.int .i64 a0_1,.string a0_2,(.slice A0_3 l0_3.length c0_3),(.slice A0_4 l0_4.length c0_4)] 25 (0,0)))∧qAA (wc.heap[gb135]?=some (.cells #[.int .i64 0,.int .i64 0,.string (⟨#[]⟩:ByteArray),(.slice none 0 0),(.slice none 0 0)] 25 (0,0)))∧qAA (wc.heap[gb136]?=some (.cells #[.int .i64 a0_0,.int .i64 a0_1,.string a0_2,u137003,u137004] 25 (0,0)))∧qAA (Below w.heap.size w wc))
   case first =>
    have H:=HC24.out
    clear HC24
    by_cases c28:(l0_3.length:Int) > 0
    ·rw [if_pos c28] at H
     have c28b0:decide (0 < (l0_3.length:Int))=true:=decide_eq_true c28
     have c28b1:decide (0 < l0_3.length)=true:=decide_eq_true (by omega)
     clear c28
     (first | rw [c28b0] | (simp only [qAR,qAT];rw [c28b0]) | rw [c28b1] | (simp only [qAR,qAT];rw [c28b1]) | skip)
     obtain ⟨ji29,hji29⟩:∃ j_:Int,(wrap64 ((l0_3.length:Int)+3))=j_:=⟨_,rfl⟩
     replace H:(if 0≤(ji29) then (if (ji29:Int).toNat≤3518437208883 then (qAJ.j1 kj1 a0_0 a0_1 a0_2 l0_3 l0_4 a0_0 a0_1 a0_2 (List.replicate 0 z25) x137004_1) else (none)) else (none))=some (r1,r2,r3,r4,r5):=by first | (rw [hji29] at H;exact H) | (simp only [hji29] at H ⊢;exact H)
     have hji29w:(IntKind.i64.wrap ((l0_3.length:Int)+3))=ji29:=(qAR _).trans hji29
     by_cases c30:0≤(ji29)
     ·rw [if_pos c30] at H
      have LMc30:=qAA.mk c30
      clear c30
      by_cases c31:(ji29:Int).toNat≤3518437208883
      ·rw [if_pos c31] at H
       have LMc31:=qAA.mk c31
       clear c31
       obtain ⟨y143,hy143⟩:∃ y_:List (S25),y_=(List.replicate 0 z25):=⟨_,rfl⟩
       replace H:(qAJ.j1 kj1 a0_0 a0_1 a0_2 l0_3 l0_4 a0_0 a0_1 a0_2 y143 x137004_1)=some (r1,r2,r3,r4,r5):=by first | (rw [hy143];with_reducible exact H) | (have H2_:=(Option.bind_some _ _).symm.trans H;rw [hy143];with_reducible exact H2_) | (have H2_:=(Option.bind_some _ _).symm.trans H;with_reducible exact H2_) | with_reducible exact H | (rw [hy143];exact H) | exact H
       have Ny143:=qAA.mk hy143
       clear hy143
       have H':=qAA.mk H
       clear H
       have hnb32:=NB134_135.out
       have hnc32:=NB135_134.out
       have hnb33:=NB134_136.out
       have hnc33:=NB136_134.out
       have hcz34_0:wc.cell? ⟨gb134,0,none⟩=some (.int .i64 a0_0):=(qAB BK134.out 0).trans rfl
       have hcz34_1:wc.cell? ⟨gb134,1,none⟩=some (.int .i64 a0_1):=(qAB BK134.out 1).trans rfl
       have hcz34_2:wc.cell? ⟨gb134,2,none⟩=some (.string a0_2):=(qAB BK134.out 2).trans rfl
       have hcz34_3:wc.cell? ⟨gb134,3,none⟩=some (.slice A0_3 l0_3.length c0_3):=(qAB BK134.out 3).trans rfl
       have hcz34_4:wc.cell? ⟨gb134,4,none⟩=some (.slice A0_4 l0_4.length c0_4):=(qAB BK134.out 4).trans rfl
       have hfz34_0:=qAC BK134.out 0
       have hfz34_1:=qAC BK134.out 1
       have hfz34_2:=qAC BK134.out 2
       have hfz34_3:=qAC BK134.out 3
       have hfz34_4:=qAC BK134.out 4
       go_wp2_with (first | ((with_reducible refine qAj (N:=33) rfl ?_);refine XWords.R_make_c k25 _ 25 rfl (N:=33) rfl 22 _ _ rfl 0 ji29 rfl rfl Try.underlying22 (.agg #[(.int .i64 0),(.int .i64 0),(.string ⟨#[]⟩),(.slice none 0 0),(.slice none 0 0)]) 80 info25 rfl (by decide) (by omega) z25 (ok:=fun _=>True) (okp:=fun _=>True) (k25_mkM _ _ _ z25 (Kd.qBB _ _ _ _ _) (Kd.qBB _ _ _ _ _)) (fun _ hk=>hk) trivial (by omega) LMc30.out (Nat.le_trans (Nat.mul_le_mul_right _ (show ji29.toNat≤3518437208883 from LMc31.out)) (by omega)) (Below.refl _ _) (Nat.le_refl _) ?_;intro v144 w35 ho36 hb hg_ hnew_;clear hg_ hnew_;(first | rw [← Ny143.out] at ho36 | (simp only [Int.reduceToNat] at ho36;rw [← Ny143.out] at ho36));have n0_:=qAA.mk (Kd.qBb (by (with_reducible repeat (first | apply Kd.qA7 | apply Kd.qBA | apply Kd.qBC));exact HO_137004.out) hb);have n1_:=qAA.mk (Kd.qBk (Kd.R_newB (Kd.R_newB (Kd.R_newB (Kd.R_new' ho36 (Kd.R_lt (by (with_reducible repeat (first | apply Kd.qA7 | apply Kd.qBA | apply Kd.qBC));exact HO_137004.out))) (g:=gb134) (o:=.cells #[.int .i64 a0_0,.int .i64 a0_1,.string a0_2,.slice A0_3 l0_3.length c0_3,.slice A0_4 l0_4.length c0_4] 25 (0,0)) (by (with_reducible repeat (first | refine qAN ?_ _ | refine qAM ?_ | refine qAK ?_ _));exact BK134.out)) (g:=gb135) (o:=.cells #[.int .i64 0,.int .i64 0,.string (⟨#[]⟩:ByteArray),.slice none 0 0,.slice none 0 0] 25 (0,0)) (by (with_reducible repeat (first | refine qAN ?_ _ | refine qAM ?_ | refine qAK ?_ _));exact BK135.out)) (g:=gb136) (o:=.cells #[.int .i64 a0_0,.int .i64 a0_1,.string a0_2,.slice none 0 0,u137004] 25 (0,0)) (by (with_reducible repeat (first | refine qAN ?_ _ | refine qAM ?_ | refine qAK ?_ _));exact BK136.out)) (qAV (by repeat (first | (with_reducible first | exact HB.out | apply qAF | apply qAD | apply qAG | refine qAL ?_ GE134.out | refine qAL ?_ GE135.out | refine qAL ?_ GE136.out) | exact HB.out))));have n2_:=qAA.mk (qAW (g:=gb134) (o:=.cells #[.int .i64 a0_0,.int .i64 a0_1,.string a0_2,.slice A0_3 l0_3.length c0_3,.slice A0_4 l0_4.length c0_4] 25 (0,0)) (by (with_reducible repeat (first | refine qAN ?_ _ | refine qAM ?_ | refine qAK ?_ _));exact BK134.out) hb);have n3_:=qAA.mk (qAW (g:=gb135) (o:=.cells #[.int .i64 0,.int .i64 0,.string (⟨#[]⟩:ByteArray),.slice none 0 0,.slice none 0 0] 25 (0,0)) (by (with_reducible repeat (first | refine qAN ?_ _ | refine qAM ?_ | refine qAK ?_ _));exact BK135.out) hb);have n4_:=qAA.mk (qAW (g:=gb136) (o:=.cells #[.int .i64 a0_0,.int .i64 a0_1,.string a0_2,.slice none 0 0,u137004] 25 (0,0)) (by (with_reducible repeat (first | refine qAN ?_ _ | refine qAM ?_ | refine qAK ?_ _));exact BK136.out) hb);have n5_:=qAA.mk (qAX (by repeat (first | (with_reducible first | exact HB.out | apply qAF | apply qAD | apply qAG | refine qAL ?_ GE134.out | refine qAL ?_ GE135.out | refine qAL ?_ GE136.out) | exact HB.out)) hb);clear HO_137004;clear BK134;clear BK135;clear BK136;clear HB;have HO_137004:=n0_;have HO145:=n1_;have BK134:=n2_;have BK135:=n3_;have BK136:=n4_;have HB:=n5_;clear n0_ n1_ n2_ n3_ n4_ n5_;clear hb ho36;obtain ⟨Ao37,co37,eo37⟩:=Kd.qA4 HO145.out;subst eo37;have hnb38:=NB136_135.out;have hnc38:=NB135_136.out;have hcz39_0:w35.cell? ⟨gb136,0,none⟩=some (.int .i64 a0_0):=(qAB BK136.out 0).trans rfl;have hcz39_1:w35.cell? ⟨gb136,1,none⟩=some (.int .i64 a0_1):=(qAB BK136.out 1).trans rfl;have hcz39_2:w35.cell? ⟨gb136,2,none⟩=some (.string a0_2):=(qAB BK136.out 2).trans rfl;have hcz39_3:w35.cell? ⟨gb136,3,none⟩=some (.slice none 0 0):=(qAB BK136.out 3).trans rfl;have hcz39_4:w35.cell? ⟨gb136,4,none⟩=some (u137004):=(qAB BK136.out 4).trans rfl;have hfz39_0:=qAC BK136.out 0;have hfz39_1:=qAC BK136.out 1;have hfz39_2:=qAC BK136.out 2;have hfz39_3:=qAC BK136.out 3;have hfz39_4:=qAC BK136.out 4))
       go_meet
       case rel=>exact ⟨_,(y143),(.slice Ao37 y143.length co37),H',⟨by have:=HJ1.out;first | omega | exact Nat.le_refl _⟩,⟨by (with_reducible repeat (first | apply Kd.qA7 | apply Kd.qBA | apply Kd.qBC));exact Kd.qA9 (Kd.qBy (p:=⟨gb136,3,none⟩) (Kd.qA9 HO145.out (fun k_ hk=>(⟨hk,hk.2⟩:_∧k_ ≠ gb136))) (fun _ hk=>hk.2) (.slice Ao37 y143.length co37)) (fun _ hk=>⟨hk.1.1.1.1.2,⟨hk.1.1.1.2,⟨hk.1.1.2,hk.1.2⟩⟩⟩)⟩,⟨by (with_reducible repeat (first | apply Kd.qA7 | apply Kd.qBA | apply Kd.qBC));exact Kd.qA9 (Kd.qBy (p:=⟨gb136,3,none⟩) (Kd.qBn HO_137004.out BK136.out (by decide)) (fun _ hk=>hk.2) (.slice Ao37 y143.length co37)) (fun _ hk=>trivial)⟩,⟨by (with_reducible repeat (first | refine qAN ?_ _ | refine qAM ?_ | refine qAK ?_ _));refine qBR ?_ NB134_136.out _;(with_reducible repeat (first | refine qAN ?_ _ | refine qAM ?_ | refine qAK ?_ _));exact BK134.out⟩,⟨by (with_reducible repeat (first | refine qAN ?_ _ | refine qAM ?_ | refine qAK ?_ _));refine qBR ?_ NB135_136.out _;(with_reducible repeat (first | refine qAN ?_ _ | refine qAM ?_ | refine qAK ?_ _));exact BK135.out⟩,⟨by (with_reducible repeat (first | refine qAN ?_ _ | refine qAM ?_ | refine qAK ?_ _));refine qA2 (cs:=#[.int .i64 a0_0,.int .i64 a0_1,.string a0_2,.slice none 0 0,u137004]) ?_ 3 _ rfl;(with_reducible repeat (first | refine qAN ?_ _ | refine qAM ?_ | refine qAK ?_ _));exact BK136.out⟩,⟨by repeat (first | (with_reducible first | exact HB.out | apply qAF | apply qAD | apply qAG | refine qAL ?_ GE134.out | refine qAL ?_ GE135.out | refine qAL ?_ GE136.out) | exact HB.out)⟩⟩
      ·rw [if_neg c31] at H
       exact absurd H (by simp)
     ·rw [if_neg c30] at H
      exact absurd H (by simp)
    ·rw [if_neg c28] at H
     have c28b0:decide (0 < (l0_3.length:Int))=false:=decide_eq_false c28
     have c28b1:decide (0 < l0_3.length)=false:=decide_eq_false (by omega)
     clear c28
     (first | rw [c28b0] | (simp only [qAR,qAT];rw [c28b0]) | rw [c28b1] | (simp only [qAR,qAT];rw [c28b1]) | skip)
     have H':=qAA.mk H
     clear H
     go_wp2
     go_meet
     case rel=>exact ⟨_,(([]:List (S25))),(.slice none 0 0),H',⟨by have:=HJ1.out;first | omega | exact Nat.le_refl _⟩,⟨by first | exact Kd.qBB _ _ _ _ _ | exact Kd.N_nil _ _ _ _ _ | exact Kd.V_nil _ _ _ _ _ | exact Kd.Q_nil _ _ _ _ _ | exact Kd.S_nil _ _ _ _ _⟩,⟨by (with_reducible repeat (first | apply Kd.qA7 | apply Kd.qBA | apply Kd.qBC));exact HO_137004.out⟩,⟨by (with_reducible repeat (first | refine qAN ?_ _ | refine qAM ?_ | refine qAK ?_ _));exact BK134.out⟩,⟨by (with_reducible repeat (first | refine qAN ?_ _ | refine qAM ?_ | refine qAK ?_ _));exact BK135.out⟩,⟨by (with_reducible repeat (first | refine qAN ?_ _ | refine qAM ?_ | refine qAK ?_ _));exact BK136.out⟩,⟨by repeat (first | (with_reducible first | exact HB.out | apply qAF | apply qAD | apply qAG | refine qAL ?_ GE134.out | refine qAL ?_ GE135.out | refine qAL ?_ GE136.out) | exact HB.out)⟩⟩
   case rest =>
    clear HC24
    try clear c1
    try clear c2
    try clear p2
    try clear c3
    try clear c5
    try clear p6
    try clear c8
    try clear c9
    try clear c12
    try clear c12b0
    try clear c12b1
    try clear c14
    try clear c15
    try clear c16
    try clear c25
    try clear c26
    try clear c28
    try clear c28b0
    try clear c28b1
    try clear c30
    try clear c31
    try clear c32
    try clear c33
    try clear c38
    try clear hcz10_0
    try clear hcz10_1
    try clear hcz10_2
    try clear hcz10_3
    try clear hcz10_4
    try clear hcz11_0
    try clear hcz11_1
    try clear hcz11_2
    try clear hcz11_3
    try clear hcz11_4
    try clear hcz27_0
    try clear hcz27_1
    try clear hcz27_2
    try clear hcz27_3
    try clear hcz27_4
    try clear hcz34_0
    try clear hcz34_1
    try clear hcz34_2
    try clear hcz34_3
    try clear hcz34_4
    try clear hcz39_0
    try clear hcz39_1
    try clear hcz39_2
    try clear hcz39_3
    try clear hcz39_4
    try clear hcz6_0
    try clear hcz6_1
    try clear hcz6_2
    try clear hcz6_3
    try clear hcz6_4
    try clear hfz10_0
    try clear hfz10_1
    try clear hfz10_2
    try clear hfz10_3
    try clear hfz10_4
    try clear hfz11_0
    try clear hfz11_1
    try clear hfz11_2
    try clear hfz11_3
    try clear hfz11_4
    try clear hfz27_0
    try clear hfz27_1
    try clear hfz27_2
    try clear hfz27_3
    try clear hfz27_4
    try clear hfz34_0
    try clear hfz34_1
    try clear hfz34_2
    try clear hfz34_3
    try clear hfz34_4
    try clear hfz39_0
    try clear hfz39_1
    try clear hfz39_2
    try clear hfz39_3
    try clear hfz39_4
    try clear hfz6_0
    try clear hfz6_1
    try clear hfz6_2
    try clear hfz6_3
    try clear hfz6_4
    try clear p2
    try clear p6
    obtain ⟨kq,x137003_23,u137003,HA,HJ23,HO_137003,HO_137004,BK134,BK135,BK136,HB⟩:=hcut
    cases kq with
    | zero=>exact absurd HA.out (by simp [qAJ.j1])
    | succ kj23 =>
     have H:=HA.out
     clear HA
     simp only [qAJ.j1] at H
     have H':=qAA.mk H
     clear H
     go_wp2
     go_loopg [4] kj23 (fun kq v4 w'=>∃ (x4_3:Int) (x137003_3:List (S25)) (u137003:Value),v4=.int .i64 x4_3∧qAA (qAJ.l0 kq x4_3 a0_0 a0_1 a0_2 l0_3 l0_4 a0_0 a0_1 a0_2 x137003_3 x137004_1=some (r1,r2,r3,r4,r5))∧qAA (kq≤kj23)∧qAA (Kd.R k25 25 w' w.heap.size (fun k_=>some k_ ≠ (u137004:Value).ownBlock∧k_ ≠ gb134∧k_ ≠ gb135∧k_ ≠ gb136) u137003 x137003_3)∧qAA (Kd.R Kd.string 9 w' w.heap.size (fun _=>True) u137004 x137004_1)∧qAA (w'.heap[gb134]?=some (.cells #[.int .i64 a0_0,.int .i64 a0_1,.string a0_2,(.slice A0_3 l0_3.length c0_3),(.slice A0_4 l0_4.length c0_4)] 25 (0,0)))∧qAA (w'.heap[gb135]?=some (.cells #[.int .i64 0,.int .i64 0,.string (⟨#[]⟩:ByteArray),(.slice none 0 0),(.slice none 0 0)] 25 (0,0)))∧qAA (w'.heap[gb136]?=some (.cells #[.int .i64 a0_0,.int .i64 a0_1,.string a0_2,u137003,u137004] 25 (0,0)))∧qAA (Below w.heap.size w w'))
     case atStart=>exact ⟨(0),(x137003_23),(u137003),(by first | rfl | (simp;done) | (simp [*];done)),H',⟨Nat.le_refl _⟩,⟨by (with_reducible repeat (first | apply Kd.qA7 | apply Kd.qBA | apply Kd.qBC));exact HO_137003.out⟩,⟨by (with_reducible repeat (first | apply Kd.qA7 | apply Kd.qBA | apply Kd.qBC));exact HO_137004.out⟩,⟨by (with_reducible repeat (first | refine qAN ?_ _ | refine qAM ?_ | refine qAK ?_ _));exact BK134.out⟩,⟨by (with_reducible repeat (first | refine qAN ?_ _ | refine qAM ?_ | refine qAK ?_ _));exact BK135.out⟩,⟨by (with_reducible repeat (first | refine qAN ?_ _ | refine qAM ?_ | refine qAK ?_ _));exact BK136.out⟩,⟨by repeat (first | (with_reducible first | exact HB.out | apply qAF | apply qAD | apply qAG | refine qAL ?_ GE134.out | refine qAL ?_ GE135.out | refine qAL ?_ GE136.out) | exact HB.out)⟩⟩
     case round =>
      clear H'
      try clear c1
      try clear c2
      try clear p2
      try clear c3
      try clear c5
      try clear p6
      try clear c8
      try clear c9
      try clear c12
      try clear c12b0
      try clear c12b1
      try clear c14
      try clear c15
      try clear c16
      try clear c25
      try clear c26
      try clear c28
      try clear c28b0
      try clear c28b1
      try clear c30
      try clear c31
      try clear c32
      try clear c33
      try clear c38
      try clear hcz10_0
      try clear hcz10_1
      try clear hcz10_2
      try clear hcz10_3
      try clear hcz10_4
      try clear hcz11_0
      try clear hcz11_1
      try clear hcz11_2
      try clear hcz11_3
      try clear hcz11_4
      try clear hcz27_0
      try clear hcz27_1
      try clear hcz27_2
      try clear hcz27_3
      try clear hcz27_4
      try clear hcz34_0
      try clear hcz34_1
      try clear hcz34_2
      try clear hcz34_3
      try clear hcz34_4
      try clear hcz39_0
      try clear hcz39_1
      try clear hcz39_2
      try clear hcz39_3
      try clear hcz39_4
      try clear hcz6_0
      try clear hcz6_1
      try clear hcz6_2
      try clear hcz6_3
      try clear hcz6_4
      try clear hfz10_0
      try clear hfz10_1
      try clear hfz10_2
      try clear hfz10_3
      try clear hfz10_4
      try clear hfz11_0
      try clear hfz11_1
      try clear hfz11_2
      try clear hfz11_3
      try clear hfz11_4
      try clear hfz27_0
      try clear hfz27_1
      try clear hfz27_2
      try clear hfz27_3
      try clear hfz27_4
      try clear hfz34_0
      try clear hfz34_1
      try clear hfz34_2
      try clear hfz34_3
      try clear hfz34_4
      try clear hfz39_0
      try clear hfz39_1
      try clear hfz39_2
      try clear hfz39_3
      try clear hfz39_4
      try clear hfz6_0
      try clear hfz6_1
      try clear hfz6_2
      try clear hfz6_3
      try clear hfz6_4
      try clear p2
      try clear p6
      obtain ⟨x4_3,x137003_3,u137003,rfl,HA,HK3,HO_137003,HO_137004,BK134,BK135,BK136,HB⟩:=hrel
      cases gk with
      | zero=>exact absurd HA.out (by simp [qAJ.l0])
      | succ k3 =>
       have H:=HA.out
       clear HA
       simp only [qAJ.l0] at H
       by_cases c40:x4_3 < (l0_3.length:Int)
       ·rw [if_pos c40] at H
        have c40b0:decide (x4_3 < (l0_3.length:Int))=true:=decide_eq_true c40
        clear c40
        by_cases c41:0≤x4_3
        ·rw [if_pos c41] at H
         have c41b0:decide (0≤x4_3)=true:=decide_eq_true c41
         clear c41
         replace H:=Option.bind_eq_some_iff.mp H
         obtain ⟨⟨t147,t148,t149,t150,t153⟩,A420,H⟩:=H
         replace H:(if x137003_3.length < 1759218604441 then (qAJ.l0 k3 (wrap64 (x4_3+1)) a0_0 a0_1 a0_2 l0_3 l0_4 a0_0 a0_1 a0_2 (x137003_3 ++ [(⟨t147,t148,t149,t150,t153⟩:S25)]) x137004_1) else (none))=some (r1,r2,r3,r4,r5):=H
         have A42:=qAA.mk A420
         clear A420
         by_cases c43:x137003_3.length < 1759218604441
         ·rw [if_pos c43] at H
          have LMc43:=qAA.mk c43
          clear c43
          obtain ⟨y156,hy156⟩:∃ y_:List (S25),y_=(x137003_3 ++ [(⟨t147,t148,t149,t150,t153⟩:S25)]):=⟨_,rfl⟩
          replace H:(qAJ.l0 k3 (wrap64 (x4_3+1)) a0_0 a0_1 a0_2 l0_3 l0_4 a0_0 a0_1 a0_2 y156 x137004_1)=some (r1,r2,r3,r4,r5):=by first | (rw [hy156];with_reducible exact H) | (have H2_:=(Option.bind_some _ _).symm.trans H;rw [hy156];with_reducible exact H2_) | (have H2_:=(Option.bind_some _ _).symm.trans H;with_reducible exact H2_) | with_reducible exact H | (rw [hy156];exact H) | exact H
          have Ny156:=qAA.mk hy156
          clear hy156
          have H':=qAA.mk H
          clear H
          have hnb44:=NB134_135.out
          have hnc44:=NB135_134.out
          have hnb45:=NB134_136.out
          have hnc45:=NB136_134.out
          have hcz46_0:wr.cell? ⟨gb134,0,none⟩=some (.int .i64 a0_0):=(qAB BK134.out 0).trans rfl
          have hcz46_1:wr.cell? ⟨gb134,1,none⟩=some (.int .i64 a0_1):=(qAB BK134.out 1).trans rfl
          have hcz46_2:wr.cell? ⟨gb134,2,none⟩=some (.string a0_2):=(qAB BK134.out 2).trans rfl
          have hcz46_3:wr.cell? ⟨gb134,3,none⟩=some (.slice A0_3 l0_3.length c0_3):=(qAB BK134.out 3).trans rfl
          have hcz46_4:wr.cell? ⟨gb134,4,none⟩=some (.slice A0_4 l0_4.length c0_4):=(qAB BK134.out 4).trans rfl
          have hfz46_0:=qAC BK134.out 0
          have hfz46_1:=qAC BK134.out 1
          have hfz46_2:=qAC BK134.out 2
          have hfz46_3:=qAC BK134.out 3
          have hfz46_4:=qAC BK134.out 4
          try go_wp2
          have n0_:=qAA.mk (Kd.qBC HO_137003.out)
          have n1_:=qAA.mk (Kd.qBC HO_137004.out)
          have n2_:=qAA.mk (qAM BK134.out)
          have n3_:=qAA.mk (qAM BK135.out)
          have n4_:=qAA.mk (qAM BK136.out)
          have n5_:=qAA.mk (qAG HB.out)
          clear HO_137003
          clear HO_137004
          clear BK134
          clear BK135
          clear BK136
          clear HB
          have HO_137003:=n0_
          have HO_137004:=n1_
          have BK134:=n2_
          have BK135:=n3_
          have BK136:=n4_
          have HB:=n5_
          clear n0_ n1_ n2_ n3_ n4_ n5_
          have p146:0≤(x4_3:Int):=of_decide_eq_true (by first | (with_reducible assumption) | assumption)
          have q146:x4_3 < (l0_3.length:Int):=of_decide_eq_true (by first | (with_reducible assumption) | assumption)
          obtain ⟨ad146,A146_3,c146_3,A146_4,c146_4,e146,hx146_0,hx146_1,hx146_2,hx146_3,hx146_4,hl146_3,hi146_3,hl146_4,hi146_4⟩:=qCL HR0_3.out x4_3 p146 q146
          have hw146_4:=hx146_4
          have hw146_3:=hx146_3
          have hw146_2:=hx146_2
          have hw146_1:=hx146_1
          have hw146_0:=hx146_0
          cases e146
          replace hx146_0:=(HB.out.cell (qs4 w _ hx146_0)).trans hx146_0
          replace hx146_1:=(HB.out.cell (qs4 w _ hx146_1)).trans hx146_1
          replace hx146_2:=(HB.out.cell (qs4 w _ hx146_2)).trans hx146_2
          replace hx146_3:=(HB.out.cell (qs4 w _ hx146_3)).trans hx146_3
          replace hx146_4:=(HB.out.cell (qs4 w _ hx146_4)).trans hx146_4
          have HR146_3:=qAA.mk hi146_3
          have HC146_3:=qAA.mk hl146_3
          clear hi146_3 hl146_3
          have HR146_4:=qAA.mk hi146_4
          have HC146_4:=qAA.mk hl146_4
          clear hi146_4 hl146_4
          replace p146:=eq_true p146
          replace q146:=eq_true q146
          refine qBd (n:=12) (S:=fun w'=>w'.cell? ⟨gb136,0,none⟩=some (.int .i64 a0_0)∧w'.cell? ⟨gb136,1,none⟩=some (.int .i64 a0_1)∧w'.cell? ⟨gb136,2,none⟩=some (.string a0_2)∧w'.cell? ⟨gb136,3,none⟩=some (u137003)∧w'.cell? ⟨gb136,4,none⟩=some (u137004)∧w'.cell? ⟨gb134,0,none⟩=some (.int .i64 a0_0)∧w'.cell? ⟨gb134,1,none⟩=some (.int .i64 a0_1)∧w'.cell? ⟨gb134,2,none⟩=some (.string a0_2)∧w'.cell? ⟨gb134,3,none⟩=some (.slice (some ad146) l0_3.length c0_3)∧w'.cell? ⟨gb134,4,none⟩=some (.slice A0_4 l0_4.length c0_4)∧w'.cell? (ad146.add ((x4_3).toNat * 5))=some (.int .i64 ((qAU l0_3 x4_3).f0))∧w'.cell? ⟨(ad146.add ((x4_3).toNat * 5)).block,(ad146.add ((x4_3).toNat * 5)).off+1,none⟩=some (.int .i64 ((qAU l0_3 x4_3).f1))∧w'.cell? ⟨(ad146.add ((x4_3).toNat * 5)).block,(ad146.add ((x4_3).toNat * 5)).off+2,none⟩=some (.string ((qAU l0_3 x4_3).f2))∧w'.cell? ⟨(ad146.add ((x4_3).toNat * 5)).block,(ad146.add ((x4_3).toNat * 5)).off+3,none⟩=some (.slice A146_3 ((qAU l0_3 x4_3).f3).length c146_3)∧w'.cell? ⟨(ad146.add ((x4_3).toNat * 5)).block,(ad146.add ((x4_3).toNat * 5)).off+4,none⟩=some (.slice A146_4 ((qAU l0_3 x4_3).f4).length c146_4)) (ds:=[11]) #[qF,qF,qF,qF,qF,qF,qF,qF,qF,qF,qF,qF] (by kernel_rfl) rfl rfl ⟨(qAB BK136.out 0).trans rfl,(qAB BK136.out 1).trans rfl,(qAB BK136.out 2).trans rfl,(qAB BK136.out 3).trans rfl,(qAB BK136.out 4).trans rfl,(qAB BK134.out 0).trans rfl,(qAB BK134.out 1).trans rfl,(qAB BK134.out 2).trans rfl,(qAB BK134.out 3).trans rfl,(qAB BK134.out 4).trans rfl,((HB.out.cell (qs4 w _ hw146_0)).trans hw146_0),((HB.out.cell (qs4 w _ hw146_1)).trans hw146_1),((HB.out.cell (qs4 w _ hw146_2)).trans hw146_2),((HB.out.cell (qs4 w _ hw146_3)).trans hw146_3),((HB.out.cell (qs4 w _ hw146_4)).trans hw146_4)⟩ (fun hHeld => ?_);refine qCU qAJ.tab9 qAJ.bits9 (fun HT_ HW_ => ?_)
          generalize wr.drew=w47 at HO_137003 HO_137004 BK134 BK135 BK136 HB HR146_3 HR146_4 hx146_0 hx146_1 hx146_2 hx146_3 hx146_4 hHeld ⊢
          refine qAd (i:=0) (N:=some 42) (v := ?_) (a' := ?_) #[qT,qF,qF,qF,qF,qF,qF,qF,qF,qF,qF,qF] rfl rfl (qBY HT_.out (by kernel_rfl)) (fun _ _ _ h=>h) (Or.inl ⟨by rfl, ?_⟩) ?_ ?_
          rotate_left
          ·intro w'
           go_simp
           with_reducible rfl
          rotate_left
          ·simp only [Act.put,qs1,qs2,qs3,qAR,qAT]
           rfl
          refine qAd (i:=2) (N:=some 44) (v := ?_) (a' := ?_) #[qT,qF,qT,qF,qF,qF,qF,qF,qF,qF,qF,qF] rfl rfl (qBY HT_.out (by kernel_rfl)) (fun _ _ _ h=>h) (Or.inl ⟨by rfl, ?_⟩) ?_ ?_
          rotate_left
          ·intro w'
           go_simp
           with_reducible rfl
          rotate_left
          ·simp only [Act.put,qs1,qs2,qs3,qAR,qAT]
           rfl
          refine qAd (i:=4) (N:=some 46) (v := ?_) (a' := ?_) #[qT,qF,qT,qF,qT,qF,qF,qF,qF,qF,qF,qF] rfl rfl (qBY HT_.out (by kernel_rfl)) (fun _ _ _ h=>h) (Or.inl ⟨by rfl, ?_⟩) ?_ ?_
          rotate_left
          ·intro w'
           go_simp
           with_reducible rfl
          rotate_left
          ·simp only [Act.put,qs1,qs2,qs3,qAR,qAT]
           rfl
          refine qBP (i:=1) (N:=some 43) (v := ?_) (a' := ?_) #[qT,qT,qT,qF,qT,qF,qF,qF,qF,qF,qF,qF] rfl rfl (qBe HT_.out HW_.out (by kernel_rfl)) (fun _ _ _ h=>h) (Or.inl ⟨by rfl, ?_⟩) hHeld ?_ ?_
          rotate_left
          ·rintro w' ⟨s0,s1,s2,s3,s4,s5,s6,s7,s8,s9,s10,s11,s12,s13,s14⟩
           go_simp
           with_reducible rfl
          rotate_left
          ·simp only [Act.put,qs1,qs2,qs3,qAR,qAT]
           rfl
          refine qBP (i:=3) (N:=some 45) (v := ?_) (a' := ?_) #[qT,qT,qT,qT,qT,qF,qF,qF,qF,qF,qF,qF] rfl rfl (qBe HT_.out HW_.out (by kernel_rfl)) (fun _ _ _ h=>h) (Or.inl ⟨by rfl, ?_⟩) hHeld ?_ ?_
          rotate_left
          ·rintro w' ⟨s0,s1,s2,s3,s4,s5,s6,s7,s8,s9,s10,s11,s12,s13,s14⟩
           go_simp
           with_reducible rfl
          rotate_left
          ·simp only [Act.put,qs1,qs2,qs3,qAR,qAT]
           rfl
          refine qAd (i:=5) (N:=some 47) (v := ?_) (a' := ?_) #[qT,qT,qT,qT,qT,qT,qF,qF,qF,qF,qF,qF] rfl rfl (qBY HT_.out (by kernel_rfl)) (fun _ _ _ h=>h) (Or.inl ⟨by rfl, ?_⟩) ?_ ?_
          rotate_left
          ·intro w'
           go_simp
           with_reducible rfl
          rotate_left
          ·simp only [Act.put,qs1,qs2,qs3,qAR,qAT]
           rfl
          refine qBP (i:=6) (N:=some 48) (v := ?_) (a' := ?_) #[qT,qT,qT,qT,qT,qT,qT,qF,qF,qF,qF,qF] rfl rfl (qBe HT_.out HW_.out (by kernel_rfl)) (fun _ _ _ h=>h) (Or.inl ⟨by rfl, ?_⟩) hHeld ?_ ?_
          rotate_left
          ·rintro w' ⟨s0,s1,s2,s3,s4,s5,s6,s7,s8,s9,s10,s11,s12,s13,s14⟩
           go_simp
           with_reducible rfl
          rotate_left
          ·simp only [Act.put,qs1,qs2,qs3,qAR,qAT]
           rfl
          refine one_ (i:=7) (N:=some 49) #[qT,qT,qT,qT,qT,qT,qT,qT,qF,qF,qF,qF] rfl rfl (one_of HT_.out (by kernel_rfl)) (by decide) (fun K hK => ?_)
          refine qB2 Try.func28 (by kernel_rfl) rfl #[.agg #[.int .i64 ((qAU l0_3 x4_3).f0),.int .i64 ((qAU l0_3 x4_3).f1),.string ((qAU l0_3 x4_3).f2),.slice A146_3 ((qAU l0_3 x4_3).f3).length c146_3,.slice A146_4 ((qAU l0_3 x4_3).f4).length c146_4]] (by rfl) rfl rfl (by (try simp only [List.map_toArray,List.map_cons,List.map_nil]);first | done | rfl | (simp only [List.length_drop,List.length_take];rfl)) ?_
          with_reducible refine (ih k3 (by have:=HJ1.out;have:=HJ23.out;have:=HK3.out;omega) ((qAU l0_3 x4_3).f0) ((qAU l0_3 x4_3).f1) ((qAU l0_3 x4_3).f2) _ _ ((qAU l0_3 x4_3).f3) _ _ ((qAU l0_3 x4_3).f4) t147 t148 t149 t150 t153 _ ?side1 ?side2 ?side3 ?side4 A42.out).mono ?_
          (case side1=>repeat (first | exact (Kd.qAe HR146_3.out HB.out) | (with_reducible refine Kd.qAs ?_ _) | (with_reducible refine Kd.qAr ?_ _) | (with_reducible refine Kd.qA0 ?_)))
          (case side2=>exact HC146_3.out)
          (case side3=>repeat (first | exact (Kd.qAe HR146_4.out HB.out) | (with_reducible refine Kd.qAs ?_ _) | (with_reducible refine Kd.qAr ?_ _) | (with_reducible refine Kd.qA0 ?_)))
          (case side4=>exact HC146_4.out)
          rintro e w48 ⟨v151,v154,rfl,ho0,ho1,hb⟩
          refine ⟨_,rfl, ?_⟩
          have n0_:=qAA.mk (Kd.qA9 (Kd.R_told (Kd.R_told (Kd.R_old (by (with_reducible repeat (first | apply Kd.qA7 | apply Kd.qBA | apply Kd.qBC));exact HO_137003.out) hb) (Kd.R_base ho0)) (Kd.R_base ho1)) (fun _ h_=>h_.1))
          have n1_:=qAA.mk (Kd.R_elder' (by (with_reducible repeat (first | apply Kd.qA7 | apply Kd.qBA | apply Kd.qBC));exact HO_137004.out) (Kd.R_base ho1) hb)
          have n2_:=qAA.mk (Kd.qBk (Kd.R_newB (Kd.R_newB (Kd.R_newB (Kd.R_new' (Kd.R_new' ho0 (Kd.R_lt (by (with_reducible repeat (first | apply Kd.qA7 | apply Kd.qBA | apply Kd.qBC));exact HO_137003.out))) (Kd.R_lt (by (with_reducible repeat (first | apply Kd.qA7 | apply Kd.qBA | apply Kd.qBC));exact HO_137004.out))) (g:=gb134) (o:=.cells #[.int .i64 a0_0,.int .i64 a0_1,.string a0_2,.slice (some ad146) l0_3.length c0_3,.slice A0_4 l0_4.length c0_4] 25 (0,0)) (by (with_reducible repeat (first | refine qAN ?_ _ | refine qAM ?_ | refine qAK ?_ _));exact BK134.out)) (g:=gb135) (o:=.cells #[.int .i64 0,.int .i64 0,.string (⟨#[]⟩:ByteArray),.slice none 0 0,.slice none 0 0] 25 (0,0)) (by (with_reducible repeat (first | refine qAN ?_ _ | refine qAM ?_ | refine qAK ?_ _));exact BK135.out)) (g:=gb136) (o:=.cells #[.int .i64 a0_0,.int .i64 a0_1,.string a0_2,u137003,u137004] 25 (0,0)) (by (with_reducible repeat (first | refine qAN ?_ _ | refine qAM ?_ | refine qAK ?_ _));exact BK136.out)) (qAV (by repeat (first | (with_reducible first | exact HB.out | apply qAF | apply qAD | apply qAG | refine qAL ?_ GE134.out | refine qAL ?_ GE135.out | refine qAL ?_ GE136.out) | exact HB.out))))
          have n3_:=qAA.mk (Kd.qBk (Kd.R_new' ho1 (Kd.R_lt (by (with_reducible repeat (first | apply Kd.qA7 | apply Kd.qBA | apply Kd.qBC));exact HO_137004.out))) (qAV (by repeat (first | (with_reducible first | exact HB.out | apply qAF | apply qAD | apply qAG | refine qAL ?_ GE134.out | refine qAL ?_ GE135.out | refine qAL ?_ GE136.out) | exact HB.out))))
          have n4_:=qAA.mk (qAW (g:=gb134) (o:=.cells #[.int .i64 a0_0,.int .i64 a0_1,.string a0_2,.slice (some ad146) l0_3.length c0_3,.slice A0_4 l0_4.length c0_4] 25 (0,0)) (by (with_reducible repeat (first | refine qAN ?_ _ | refine qAM ?_ | refine qAK ?_ _));exact BK134.out) hb)
          have n5_:=qAA.mk (qAW (g:=gb135) (o:=.cells #[.int .i64 0,.int .i64 0,.string (⟨#[]⟩:ByteArray),.slice none 0 0,.slice none 0 0] 25 (0,0)) (by (with_reducible repeat (first | refine qAN ?_ _ | refine qAM ?_ | refine qAK ?_ _));exact BK135.out) hb)
          have n6_:=qAA.mk (qAW (g:=gb136) (o:=.cells #[.int .i64 a0_0,.int .i64 a0_1,.string a0_2,u137003,u137004] 25 (0,0)) (by (with_reducible repeat (first | refine qAN ?_ _ | refine qAM ?_ | refine qAK ?_ _));exact BK136.out) hb)
          have n7_:=qAA.mk (qAX (by repeat (first | (with_reducible first | exact HB.out | apply qAF | apply qAD | apply qAG | refine qAL ?_ GE134.out | refine qAL ?_ GE135.out | refine qAL ?_ GE136.out) | exact HB.out)) hb)
          clear HO_137003
          clear HO_137004
          clear BK134
          clear BK135
          clear BK136
          clear HB
          have HO_137003:=n0_
          have HO_137004:=n1_
          have HO152:=n2_
          have HO155:=n3_
          have BK134:=n4_
          have BK135:=n5_
          have BK136:=n6_
          have HB:=n7_
          clear n0_ n1_ n2_ n3_ n4_ n5_ n6_ n7_
          (try clear hb)
          (try clear hb2)
          (try clear hk)
          (try clear hi)
          (try clear ho0)
          (try clear ho1)
          obtain ⟨Ao50,co50,eo50⟩:=Kd.qA4 HO152.out
          (first | subst eo50 | (injection eo50 with f1_ f2_ f3_;have f4_:=f1_.symm;have f5_:=f3_.symm;clear f1_ f2_ f3_;subst f4_;subst f5_))
          obtain ⟨Ao51,co51,eo51⟩:=Kd.qA4 HO155.out
          (first | subst eo51 | (injection eo51 with f1_ f2_ f3_;have f4_:=f1_.symm;have f5_:=f3_.symm;clear f1_ f2_ f3_;subst f4_;subst f5_))
          refine hK.out _ _ ⟨(qAB BK136.out 0).trans rfl,(qAB BK136.out 1).trans rfl,(qAB BK136.out 2).trans rfl,(qAB BK136.out 3).trans rfl,(qAB BK136.out 4).trans rfl,(qAB BK134.out 0).trans rfl,(qAB BK134.out 1).trans rfl,(qAB BK134.out 2).trans rfl,(qAB BK134.out 3).trans rfl,(qAB BK134.out 4).trans rfl,((HB.out.cell (qs4 w _ hw146_0)).trans hw146_0),((HB.out.cell (qs4 w _ hw146_1)).trans hw146_1),((HB.out.cell (qs4 w _ hw146_2)).trans hw146_2),((HB.out.cell (qs4 w _ hw146_3)).trans hw146_3),((HB.out.cell (qs4 w _ hw146_4)).trans hw146_4)⟩ (fun hHeld => ?_)
          clear hK K
          refine qBS (a' := ?_) ?_ ?_
          rotate_left
          ·show Act.put _ (some 49) _=_
           simp only [Act.put,qs1,qs2,qs3,qAR,qAT]
           rfl
          refine one_ (i:=8) (N:=some 50) #[qT,qT,qT,qT,qT,qT,qT,qT,qT,qF,qF,qF] rfl rfl (one_of HT_.out (by kernel_rfl)) (by decide) (fun K hK => ?_)
          refine qCB (w1 := ?_) (v := ?_) (by rfl) rfl ?_ ?_
          rotate_left 2
          ·go_simp
           constructor
           ·rfl
           ·rfl
          refine hK.out _ _ ⟨(qAB (qAK BK136.out _) 0).trans rfl,(qAB (qAK BK136.out _) 1).trans rfl,(qAB (qAK BK136.out _) 2).trans rfl,(qAB (qAK BK136.out _) 3).trans rfl,(qAB (qAK BK136.out _) 4).trans rfl,(qAB (qAK BK134.out _) 0).trans rfl,(qAB (qAK BK134.out _) 1).trans rfl,(qAB (qAK BK134.out _) 2).trans rfl,(qAB (qAK BK134.out _) 3).trans rfl,(qAB (qAK BK134.out _) 4).trans rfl,(World.cell?_alloc_lt _ _ _ (qs4 _ _ (((HB.out.cell (qs4 w _ hw146_0)).trans hw146_0)))).trans (((HB.out.cell (qs4 w _ hw146_0)).trans hw146_0)),(World.cell?_alloc_lt _ _ _ (qs4 _ _ (((HB.out.cell (qs4 w _ hw146_1)).trans hw146_1)))).trans (((HB.out.cell (qs4 w _ hw146_1)).trans hw146_1)),(World.cell?_alloc_lt _ _ _ (qs4 _ _ (((HB.out.cell (qs4 w _ hw146_2)).trans hw146_2)))).trans (((HB.out.cell (qs4 w _ hw146_2)).trans hw146_2)),(World.cell?_alloc_lt _ _ _ (qs4 _ _ (((HB.out.cell (qs4 w _ hw146_3)).trans hw146_3)))).trans (((HB.out.cell (qs4 w _ hw146_3)).trans hw146_3)),(World.cell?_alloc_lt _ _ _ (qs4 _ _ (((HB.out.cell (qs4 w _ hw146_4)).trans hw146_4)))).trans (((HB.out.cell (qs4 w _ hw146_4)).trans hw146_4))⟩ (fun hHeld => ?_)
          clear hK K
          refine qBS (a' := ?_) ?_ ?_
          rotate_left
          ·show Act.put _ (some 50) _=_
           simp only [Act.put,qs1,qs2,qs3,qAR,qAT]
           rfl
          refine one_ (i:=9) (N:=some 51) #[qT,qT,qT,qT,qT,qT,qT,qT,qT,qT,qF,qF] rfl rfl (one_of HT_.out (by kernel_rfl)) (by decide) (fun K hK => ?_)
          refine Kd.qBK k25 (w0:=w) w.heap.size (by rfl) (.tmp 43) (.tmp 50) 22 25 (.agg #[(.int .i64 0),(.int .i64 0),(.string ⟨#[]⟩),(.slice none 0 0),(.slice none 0 0)]) 80 rfl Try.underlying22 info25 rfl (by decide) (by omega) u137003 x137003_3 (⟨t147,t148,t149,t150,t153⟩:S25) [.int .i64 t147,.int .i64 t148,.string t149,.slice Ao50 t150.length co50,.slice Ao51 t153.length co51] (fun k_=>some k_ ≠ (u137004:Value).ownBlock∧k_ ≠ gb134∧k_ ≠ gb135∧k_ ≠ gb136) (fun k_=>((fun k_=>some k_ ≠ (u137004:Value).ownBlock∧k_ ≠ gb134∧k_ ≠ gb135∧k_ ≠ gb136)) k_∧some k_ ≠ (u137003:Value).ownBlock) rfl rfl ?aP (fun _ hk=>hk) ?aF ?aO ?aB ?aS ?aL ?_
          (case aP=>exact k25_mkM _ _ _ (⟨t147,t148,t149,t150,t153⟩:S25) (Kd.qA9 (HO152.out) (fun k_ hk=>⟨⟨hk.1.1.1.2,⟨hk.1.1.2,⟨hk.1.2,hk.2⟩⟩⟩,hk.1.1.1.1.2⟩)) (Kd.qA9 (Kd.qBn (Kd.qBn (Kd.qBn (Kd.R_apart' (HO155.out) (Kd.R_typed HO_137003.out) (by decide)) BK134.out (by decide)) BK135.out (by decide)) BK136.out (by decide)) (fun k_ hk=>⟨⟨hk.1.1.1.1.2,⟨hk.1.1.2,⟨hk.1.2,hk.2⟩⟩⟩,hk.1.1.1.2⟩)))
          (case aB=>exact (by repeat (first | (with_reducible first | exact HB.out | apply qAF | apply qAD | apply qAG | refine qAL ?_ GE134.out | refine qAL ?_ GE135.out | refine qAL ?_ GE136.out) | exact HB.out)))
          (case aF=>exact (fun k_ hk=>⟨Kd.fresh' (Kd.R_lt (by (with_reducible repeat (first | apply Kd.qA7 | apply Kd.qBA | apply Kd.qBC));exact HO_137004.out)) k_ hk,Kd.qCI (g:=gb134) (o:=.cells #[.int .i64 a0_0,.int .i64 a0_1,.string a0_2,.slice (some ad146) l0_3.length c0_3,.slice A0_4 l0_4.length c0_4] 25 (0,0)) (by (with_reducible repeat (first | refine qAN ?_ _ | refine qAM ?_ | refine qAK ?_ _));exact BK134.out) k_ hk,Kd.qCI (g:=gb135) (o:=.cells #[.int .i64 0,.int .i64 0,.string (⟨#[]⟩:ByteArray),.slice none 0 0,.slice none 0 0] 25 (0,0)) (by (with_reducible repeat (first | refine qAN ?_ _ | refine qAM ?_ | refine qAK ?_ _));exact BK135.out) k_ hk,Kd.qCI (g:=gb136) (o:=.cells #[.int .i64 a0_0,.int .i64 a0_1,.string a0_2,u137003,u137004] 25 (0,0)) (by (with_reducible repeat (first | refine qAN ?_ _ | refine qAM ?_ | refine qAK ?_ _));exact BK136.out) k_ hk⟩))
          (case aO=>exact (by (with_reducible repeat (first | apply Kd.qA7 | apply Kd.qBA | apply Kd.qBC));exact Kd.qA9 HO_137003.out (fun _ hk=>⟨hk.1.1.1,⟨hk.1.1.2.1,⟨hk.1.1.2.2.1,hk.1.1.2.2.2⟩⟩⟩)))
          (case aS=>exact (qAV (by repeat (first | (with_reducible first | exact HB.out | apply qAF | apply qAD | apply qAG | refine qAL ?_ GE134.out | refine qAL ?_ GE135.out | refine qAL ?_ GE136.out) | exact HB.out))))
          (case aL=>have:=LMc43.out;omega)
          intro v157 w49 ho hb hg hat
          rw [← Ny156.out] at ho
          have n0_:=qAA.mk (Kd.R_over' (by (with_reducible repeat (first | apply Kd.qA7 | apply Kd.qBA | apply Kd.qBC));exact HO_137004.out) (Kd.R_typed (by (with_reducible repeat (first | apply Kd.qA7 | apply Kd.qBA | apply Kd.qBC));exact HO_137003.out)) (by decide) hg)
          have n1_:=qAA.mk (qAz (g:=gb134) (o:=.cells #[.int .i64 a0_0,.int .i64 a0_1,.string a0_2,.slice (some ad146) l0_3.length c0_3,.slice A0_4 l0_4.length c0_4] 25 (0,0)) (by (with_reducible repeat (first | refine qAN ?_ _ | refine qAM ?_ | refine qAK ?_ _));exact BK134.out) hg (Kd.R_away HO_137003.out (fun _ hk=>hk.1.1.2.1)))
          have n2_:=qAA.mk (qAz (g:=gb135) (o:=.cells #[.int .i64 0,.int .i64 0,.string (⟨#[]⟩:ByteArray),.slice none 0 0,.slice none 0 0] 25 (0,0)) (by (with_reducible repeat (first | refine qAN ?_ _ | refine qAM ?_ | refine qAK ?_ _));exact BK135.out) hg (Kd.R_away HO_137003.out (fun _ hk=>hk.1.1.2.2.1)))
          have n3_:=qAA.mk (qAz (g:=gb136) (o:=.cells #[.int .i64 a0_0,.int .i64 a0_1,.string a0_2,u137003,u137004] 25 (0,0)) (by (with_reducible repeat (first | refine qAN ?_ _ | refine qAM ?_ | refine qAK ?_ _));exact BK136.out) hg (Kd.R_away HO_137003.out (fun _ hk=>hk.1.1.2.2.2)))
          have n4_:=qAA.mk (hb)
          have n5_:=qAA.mk (ho)
          clear HO_137004
          clear BK134
          clear BK135
          clear BK136
          clear HB
          clear HO_137003
          clear HO152
          clear HO155
          have HO_137004:=n0_
          have BK134:=n1_
          have BK135:=n2_
          have BK136:=n3_
          have HB:=n4_
          have HO158:=n5_
          clear n0_ n1_ n2_ n3_ n4_ n5_
          clear ho hb hg hat
          obtain ⟨Ao52,co52,eo52⟩:=Kd.qA4 HO158.out
          (first | subst eo52 | (injection eo52 with f1_ f2_ f3_;have f4_:=f1_.symm;have f5_:=f3_.symm;clear f1_ f2_ f3_;subst f4_;subst f5_))
          refine hK.out _ _ ⟨(qAB BK136.out 0).trans rfl,(qAB BK136.out 1).trans rfl,(qAB BK136.out 2).trans rfl,(qAB BK136.out 3).trans rfl,(qAB BK136.out 4).trans rfl,(qAB BK134.out 0).trans rfl,(qAB BK134.out 1).trans rfl,(qAB BK134.out 2).trans rfl,(qAB BK134.out 3).trans rfl,(qAB BK134.out 4).trans rfl,((HB.out.cell (qs4 w _ hw146_0)).trans hw146_0),((HB.out.cell (qs4 w _ hw146_1)).trans hw146_1),((HB.out.cell (qs4 w _ hw146_2)).trans hw146_2),((HB.out.cell (qs4 w _ hw146_3)).trans hw146_3),((HB.out.cell (qs4 w _ hw146_4)).trans hw146_4)⟩ (fun hHeld => ?_)
          clear hK K
          refine qBS (a' := ?_) ?_ ?_
          rotate_left
          ·show Act.put _ (some 51) _=_
           simp only [Act.put,qs1,qs2,qs3,qAR,qAT]
           rfl
          refine qAd (i:=10) (N:=some 52) (v := ?_) (a' := ?_) #[qT,qT,qT,qT,qT,qT,qT,qT,qT,qT,qT,qF] rfl rfl (qBY HT_.out (by kernel_rfl)) (fun _ _ _ h=>h) (Or.inl ⟨by rfl, ?_⟩) ?_ ?_
          rotate_left
          ·intro w'
           go_simp
           with_reducible rfl
          rotate_left
          ·simp only [Act.put,qs1,qs2,qs3,qAR,qAT]
           rfl
          refine last_ (i:=11) (N:=none) #[qT,qT,qT,qT,qT,qT,qT,qT,qT,qT,qT,qT] rfl rfl (one_of HT_.out (by kernel_rfl)) (by decide) (fun K hK => ?_)
          have hs53:w49.cell? ⟨gb136,3,none⟩=some (u137003):=(qAB BK136.out 3).trans rfl
          have hfs53:=qAC BK136.out 3
          have hns53_0:=NB134_136.out
          have hns53_1:=NB135_136.out
          have hms53_0:=NB136_134.out
          have hms53_1:=NB136_135.out
          refine skip_ (w1 := ?_) (by rfl) rfl ?_ ?_
          rotate_left
          ·go_simp
           rfl
          refine hK.out _ _ ?_
          clear hK K
          refine qBu (done_of HT_.out (by kernel_rfl)) ?_
          try go_wp2
          go_roundg k3
          case measure=>have:=HJ1.out;have:=HJ23.out;have:=HK3.out;omega
          case rel=>exact ⟨(wrap64 (x4_3+1)),(y156),(.slice Ao52 y156.length co52),(by first | rfl | (simp;done) | (simp [*];done)),H',⟨by have:=HJ1.out;have:=HJ23.out;have:=HK3.out;omega⟩,⟨by (with_reducible repeat (first | apply Kd.qA7 | apply Kd.qBA | apply Kd.qBC));exact Kd.qA9 (Kd.qBy (p:=⟨gb136,3,none⟩) (Kd.qA9 HO158.out (fun k_ hk=>(⟨hk,hk.2.2.2⟩:_∧k_ ≠ gb136))) (fun _ hk=>hk.2) (.slice Ao52 y156.length co52)) (fun _ hk=>⟨hk.1.1,⟨hk.1.2.1,⟨hk.1.2.2.1,hk.1.2.2.2⟩⟩⟩)⟩,⟨by (with_reducible repeat (first | apply Kd.qA7 | apply Kd.qBA | apply Kd.qBC));exact Kd.qA9 (Kd.qBy (p:=⟨gb136,3,none⟩) (Kd.qBn HO_137004.out BK136.out (by decide)) (fun _ hk=>hk.2) (.slice Ao52 y156.length co52)) (fun _ hk=>trivial)⟩,⟨by (with_reducible repeat (first | refine qAN ?_ _ | refine qAM ?_ | refine qAK ?_ _));refine qBR ?_ NB134_136.out _;(with_reducible repeat (first | refine qAN ?_ _ | refine qAM ?_ | refine qAK ?_ _));exact BK134.out⟩,⟨by (with_reducible repeat (first | refine qAN ?_ _ | refine qAM ?_ | refine qAK ?_ _));refine qBR ?_ NB135_136.out _;(with_reducible repeat (first | refine qAN ?_ _ | refine qAM ?_ | refine qAK ?_ _));exact BK135.out⟩,⟨by (with_reducible repeat (first | refine qAN ?_ _ | refine qAM ?_ | refine qAK ?_ _));refine qA2 (cs:=#[.int .i64 a0_0,.int .i64 a0_1,.string a0_2,u137003,u137004]) ?_ 3 _ rfl;(with_reducible repeat (first | refine qAN ?_ _ | refine qAM ?_ | refine qAK ?_ _));exact BK136.out⟩,⟨by repeat (first | (with_reducible first | exact HB.out | apply qAF | apply qAD | apply qAG | refine qAL ?_ GE134.out | refine qAL ?_ GE135.out | refine qAL ?_ GE136.out) | exact HB.out)⟩⟩
         ·rw [if_neg c43] at H
          exact absurd H (by simp)
        ·rw [if_neg c41] at H
         exact absurd H (by simp)
       ·rw [if_neg c40] at H
        have c40b0:decide (x4_3 < (l0_3.length:Int))=false:=decide_eq_false c40
        clear c40
        simp only [Option.some.injEq,Prod.mk.injEq] at H
        obtain ⟨rfl,rfl,rfl,rfl,rfl⟩:=H
        have hnb54:=NB134_135.out
        have hnc54:=NB135_134.out
        have hnb55:=NB134_136.out
        have hnc55:=NB136_134.out
        have hcz56_0:wr.cell? ⟨gb134,0,none⟩=some (.int .i64 a0_0):=(qAB BK134.out 0).trans rfl
        have hcz56_1:wr.cell? ⟨gb134,1,none⟩=some (.int .i64 a0_1):=(qAB BK134.out 1).trans rfl
        have hcz56_2:wr.cell? ⟨gb134,2,none⟩=some (.string a0_2):=(qAB BK134.out 2).trans rfl
        have hcz56_3:wr.cell? ⟨gb134,3,none⟩=some (.slice A0_3 l0_3.length c0_3):=(qAB BK134.out 3).trans rfl
        have hcz56_4:wr.cell? ⟨gb134,4,none⟩=some (.slice A0_4 l0_4.length c0_4):=(qAB BK134.out 4).trans rfl
        have hfz56_0:=qAC BK134.out 0
        have hfz56_1:=qAC BK134.out 1
        have hfz56_2:=qAC BK134.out 2
        have hfz56_3:=qAC BK134.out 3
        have hfz56_4:=qAC BK134.out 4
        have hnb57:=NB136_135.out
        have hnc57:=NB135_136.out
        have hcz58_0:wr.cell? ⟨gb136,0,none⟩=some (.int .i64 a0_0):=(qAB BK136.out 0).trans rfl
        have hcz58_1:wr.cell? ⟨gb136,1,none⟩=some (.int .i64 a0_1):=(qAB BK136.out 1).trans rfl
        have hcz58_2:wr.cell? ⟨gb136,2,none⟩=some (.string a0_2):=(qAB BK136.out 2).trans rfl
        have hcz58_3:wr.cell? ⟨gb136,3,none⟩=some (u137003):=(qAB BK136.out 3).trans rfl
        have hcz58_4:wr.cell? ⟨gb136,4,none⟩=some (u137004):=(qAB BK136.out 4).trans rfl
        have hfz58_0:=qAC BK136.out 0
        have hfz58_1:=qAC BK136.out 1
        have hfz58_2:=qAC BK136.out 2
        have hfz58_3:=qAC BK136.out 3
        have hfz58_4:=qAC BK136.out 4
        have hcz59_0:wr.cell? ⟨gb135,0,none⟩=some (.int .i64 0):=(qAB BK135.out 0).trans rfl
        have hcz59_1:wr.cell? ⟨gb135,1,none⟩=some (.int .i64 0):=(qAB BK135.out 1).trans rfl
        have hcz59_2:wr.cell? ⟨gb135,2,none⟩=some (.string (⟨#[]⟩:ByteArray)):=(qAB BK135.out 2).trans rfl
        have hcz59_3:wr.cell? ⟨gb135,3,none⟩=some (.slice none 0 0):=(qAB BK135.out 3).trans rfl
        have hcz59_4:wr.cell? ⟨gb135,4,none⟩=some (.slice none 0 0):=(qAB BK135.out 4).trans rfl
        have hfz59_0:=qAC BK135.out 0
        have hfz59_1:=qAC BK135.out 1
        have hfz59_2:=qAC BK135.out 2
        have hfz59_3:=qAC BK135.out 3
        have hfz59_4:=qAC BK135.out 4
        obtain ⟨Ao60,co60,eo60⟩:=Kd.qA4 HO_137003.out
        subst eo60
        obtain ⟨Ao61,co61,eo61⟩:=Kd.qA4 HO_137004.out
        subst eo61
        go_wp2
        refine bodyPost_ret (results_cell_row rfl _ _ gb135 25 #[.int .i64 a0_0,.int .i64 a0_1,.string a0_2,.slice Ao60 x137003_3.length co60,.slice Ao61 x137004_1.length co61] (0,0) _ rfl (by (with_reducible repeat (first | refine qAN ?_ _ | refine qAM ?_ | refine qAK ?_ _));refine qA2 (cs:=#[.int .i64 a0_0,.int .i64 a0_1,.string a0_2,.slice Ao60 x137003_3.length co60,.slice none 0 0]) ?_ 4 _ rfl;(with_reducible repeat (first | refine qAN ?_ _ | refine qAM ?_ | refine qAK ?_ _));refine qA2 (cs:=#[.int .i64 a0_0,.int .i64 a0_1,.string a0_2,.slice none 0 0,.slice none 0 0]) ?_ 3 _ rfl;(with_reducible repeat (first | refine qAN ?_ _ | refine qAM ?_ | refine qAK ?_ _));refine qA2 (cs:=#[.int .i64 a0_0,.int .i64 a0_1,.string (⟨#[]⟩:ByteArray),.slice none 0 0,.slice none 0 0]) ?_ 2 _ rfl;(with_reducible repeat (first | refine qAN ?_ _ | refine qAM ?_ | refine qAK ?_ _));refine qA2 (cs:=#[.int .i64 a0_0,.int .i64 0,.string (⟨#[]⟩:ByteArray),.slice none 0 0,.slice none 0 0]) ?_ 1 _ rfl;(with_reducible repeat (first | refine qAN ?_ _ | refine qAM ?_ | refine qAK ?_ _));refine qA2 (cs:=#[.int .i64 0,.int .i64 0,.string (⟨#[]⟩:ByteArray),.slice none 0 0,.slice none 0 0]) ?_ 0 _ rfl;(with_reducible repeat (first | refine qAN ?_ _ | refine qAM ?_ | refine qAK ?_ _));exact BK135.out) Try.underlying25 rfl (by kernel_rfl)) rfl ?_
        exact ⟨_,_,by first | rfl | (simp [qAa,qAZ] <;> rfl) | (simp [*,qAa,qAZ] <;> rfl),by (with_reducible repeat (first | apply Kd.qA7 | apply Kd.qBA | apply Kd.qBC));exact Kd.qA9 (Kd.qBy (p:=⟨gb135,4,none⟩) (Kd.qBy (p:=⟨gb135,3,none⟩) (Kd.qBy (p:=⟨gb135,2,none⟩) (Kd.qBy (p:=⟨gb135,1,none⟩) (Kd.qBy (p:=⟨gb135,0,none⟩) (Kd.qA9 HO_137003.out (fun k_ hk=>(⟨hk,hk.2.2.1⟩:_∧k_ ≠ gb135))) (fun _ hk=>hk.2) (.int .i64 a0_0)) (fun _ hk=>hk.2) (.int .i64 a0_1)) (fun _ hk=>hk.2) (.string a0_2)) (fun _ hk=>hk.2) (.slice Ao60 x137003_3.length co60)) (fun _ hk=>hk.2) (.slice Ao61 x137004_1.length co61)) (fun _ hk=>hk.1.1),by (with_reducible repeat (first | apply Kd.qA7 | apply Kd.qBA | apply Kd.qBC));exact Kd.qA9 (Kd.qBy (p:=⟨gb135,4,none⟩) (Kd.qBy (p:=⟨gb135,3,none⟩) (Kd.qBy (p:=⟨gb135,2,none⟩) (Kd.qBy (p:=⟨gb135,1,none⟩) (Kd.qBy (p:=⟨gb135,0,none⟩) (Kd.qBn HO_137004.out BK135.out (by decide)) (fun _ hk=>hk.2) (.int .i64 a0_0)) (fun _ hk=>hk.2) (.int .i64 a0_1)) (fun _ hk=>hk.2) (.string a0_2)) (fun _ hk=>hk.2) (.slice Ao60 x137003_3.length co60)) (fun _ hk=>hk.2) (.slice Ao61 x137004_1.length co61)) (fun _ hk=>trivial),by repeat (first | (with_reducible first | exact HB.out | apply qAF | apply qAD | apply qAG | refine qAL ?_ GE134.out | refine qAL ?_ GE135.out | refine qAL ?_ GE136.out) | exact HB.out)⟩
end Go.Proofs.Ytnkbobblnhaclaa.X
