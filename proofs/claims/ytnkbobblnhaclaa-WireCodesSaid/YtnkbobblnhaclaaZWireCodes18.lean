import Derived.Test.YtnkbobblnhaclaaZWireCodes3
import Derived.Test.YtnkbobblnhaclaaZWireCodes12
set_option linter.unusedVariables false
set_option linter.unusedSimpArgs false
namespace Go.Proofs.Ytnkbobblnhaclaa.X
open Go.RowKit Go.Proofs.YtnkbobblnhaclaaW.PrintWords Go.Proofs.YtnkbobblnhaclaaW.PrintLast Go.Proofs.YtnkbobblnhaclaaW.PrintMore Go.Proofs.YtnkbobblnhaclaaW
attribute [local go_sem] qBF qBE qBX qBW qA6 qA5 qBJ qBI
def qAo.f (k:Nat) (a0_0:Int) (a0_1:Int) (a0_2:ByteArray) (l0_3:List (S25)) (l0_4:List ByteArray):Option (Bool):=(qAE.f k a0_0 a0_1 a0_2 l0_3 l0_4 0 0).bind fun t186=>(some (decide (t186≤2048)))
theorem qAo.mono:∀ a0 a1 a2 a3 a4 k,LeO (qAo.f k a0 a1 a2 a3 a4) (qAo.f (k+1) a0 a1 a2 a3 a4):=by
 intro a0 a1 a2 a3 a4 k
 unfold qAo.f
 repeat' first
   | (with_reducible exact qAE.mono _ _ _ _ _ _ _ _)
   | (with_reducible exact LeO.refl _)
   | (with_reducible exact LeO.none _)
   | (with_reducible refine LeO.ite ?_ ?_)
   | (with_reducible refine LeO.bind ?_ (fun _ => ?_))
   | exact qAE.mono _ _ _ _ _ _ _ _
   | exact LeO.none _
   | refine LeO.ite ?_ ?_
   | refine LeO.bind ?_ (fun _ => ?_)
set_option maxHeartbeats 8000000 in
set_option maxRecDepth 100000 in
theorem qAo.calls (k:Nat) (a0_0:Int) (a0_1:Int) (a0_2:ByteArray) (A0_3:Option Addr) (c0_3:Nat) (l0_3:List (S25)) (A0_4:Option Addr) (c0_4:Nat) (l0_4:List ByteArray) (r:Bool) (w:World) (hr0_3:Kd.C k25 w A0_3 l0_3.length l0_3) (hc0_3:l0_3.length≤c0_3) (hr0_4:Kd.C Kd.string w A0_4 l0_4.length l0_4) (hc0_4:l0_4.length≤c0_4) (h:qAo.f k a0_0 a0_1 a0_2 l0_3 l0_4=some r) :
  Calls Try.prog 12 #[.agg #[.int .i64 a0_0,.int .i64 a0_1,.string a0_2,.slice A0_3 l0_3.length c0_3,.slice A0_4 l0_4.length c0_4]] w fun e w'=>e=.returned (.bool r)∧Below w.heap.size w w':=by
 have hu25:=Try.underlying25
 have HR0_3:=qAA.mk hr0_3
 have HC0_3:=qAA.mk hc0_3
 clear hr0_3 hc0_3
 have HR0_4:=qAA.mk hr0_4
 have HC0_4:=qAA.mk hc0_4
 clear hr0_4 hc0_4
 have HB:=qAA.mk (Below.refl w.heap.size w)
 have H:((qAE.f k a0_0 a0_1 a0_2 l0_3 l0_4 0 0).bind fun t186=>(some (decide (t186≤2048))))=some r:=h
 clear h
 replace H:=Option.bind_eq_some_iff.mp H
 obtain ⟨t186,A20,H⟩:=H
 replace H:(some (decide (t186≤2048)))=some r:=H
 have A2:=qAA.mk A20
 clear A20
 obtain rfl:=Option.some.inj H
 simp only [Option.some.injEq,Prod.mk.injEq] at H
 obtain ⟨rfl⟩:=H
 go_enter Try.func12,Try.ntmps12
 go_wp2_with (first | ((with_reducible refine qAj (N:=1) rfl ?_);refine qAf ?hg (N:=1) ?hd (cs:=#[.int .i64 a0_0,.int .i64 a0_1,.string a0_2,.slice A0_3 l0_3.length c0_3,.slice A0_4 l0_4.length c0_4]) (t:=25) ?hr ?_;(case hd=>rfl);(case hg=>rfl);(case hr=>first | (go_simp;done) | (go_simp;rfl));intro gb185 hg w3 hbox hb;have n0_:=qAA.mk (qAX (by repeat (first | (with_reducible first | exact HB.out | apply qAF | apply qAD | apply qAG) | exact HB.out)) hb);have n1_:=qAA.mk (hbox);have n2_:=qAA.mk ((by rw [hg];exact (qAV (by repeat (first | (with_reducible first | exact HB.out | apply qAF | apply qAD | apply qAG) | exact HB.out))):w.heap.size≤gb185));have n3_:=qAA.mk ((by rw [hg];exact (qAV (by repeat (first | (with_reducible first | exact HB.out | apply qAF | apply qAD | apply qAG) | exact HB.out))):w.heap.size≤gb185));clear HB;have HB:=n0_;have BK185:=n1_;have GW185:=n2_;have GE185:=n3_;clear n0_ n1_ n2_ n3_;clear hb hbox hg;have hcz4_0:w3.cell? ⟨gb185,0,none⟩=some (.int .i64 a0_0):=(qAB BK185.out 0).trans rfl;have hcz4_1:w3.cell? ⟨gb185,1,none⟩=some (.int .i64 a0_1):=(qAB BK185.out 1).trans rfl;have hcz4_2:w3.cell? ⟨gb185,2,none⟩=some (.string a0_2):=(qAB BK185.out 2).trans rfl;have hcz4_3:w3.cell? ⟨gb185,3,none⟩=some (.slice A0_3 l0_3.length c0_3):=(qAB BK185.out 3).trans rfl;have hcz4_4:w3.cell? ⟨gb185,4,none⟩=some (.slice A0_4 l0_4.length c0_4):=(qAB BK185.out 4).trans rfl;have hfz4_0:=qAC BK185.out 0;have hfz4_1:=qAC BK185.out 1;have hfz4_2:=qAC BK185.out 2;have hfz4_3:=qAC BK185.out 3;have hfz4_4:=qAC BK185.out 4) | ((with_reducible refine qBO (f:=29) rfl ?_);refine qB9 (some 4) rfl rfl Try.func29 (by kernel_rfl) rfl #[.agg #[.int .i64 a0_0,.int .i64 a0_1,.string a0_2,.slice A0_3 l0_3.length c0_3,.slice A0_4 l0_4.length c0_4],.int .i64 0,.int .i64 0] rfl (by (try simp only [List.map_toArray,List.map_cons,List.map_nil]);first | done | rfl | (simp only [List.length_drop,List.length_take];rfl)) ?_;(with_reducible refine (qAE.calls k a0_0 a0_1 a0_2 _ _ l0_3 _ _ l0_4 0 0 t186 _ ?side1 ?side2 ?side3 ?side4 A2.out).mono ?_);(case side1=>repeat (first | exact (Kd.qAe HR0_3.out HB.out) | (with_reducible refine Kd.qAs ?_ _) | (with_reducible refine Kd.qAr ?_ _) | (with_reducible refine Kd.qA0 ?_)));(case side2=>exact HC0_3.out);(case side3=>repeat (first | exact (Kd.qAe HR0_4.out HB.out) | (with_reducible refine Kd.qAs ?_ _) | (with_reducible refine Kd.qAr ?_ _) | (with_reducible refine Kd.qA0 ?_)));(case side4=>exact HC0_4.out);rintro e w5 ⟨rfl,hb⟩;refine ⟨_,rfl, ?_⟩;have n0_:=qAA.mk (qAW (g:=gb185) (o:=.cells #[.int .i64 a0_0,.int .i64 a0_1,.string a0_2,.slice A0_3 l0_3.length c0_3,.slice A0_4 l0_4.length c0_4] 25 (0,0)) (by (with_reducible repeat (first | refine qAN ?_ _ | refine qAM ?_ | refine qAK ?_ _));exact BK185.out) hb);have n1_:=qAA.mk (qAX (by repeat (first | (with_reducible first | exact HB.out | apply qAF | apply qAD | apply qAG | refine qAL ?_ GE185.out) | exact HB.out)) hb);clear BK185;clear HB;have BK185:=n0_;have HB:=n1_;clear n0_ n1_;(try clear hb);(try clear hb2);(try clear hk);(try clear hi)))
 go_ret
 exact ⟨by first | rfl | (simp [qAa,qAZ] <;> rfl) | (simp [*,qAa,qAZ] <;> rfl),by repeat (first | (with_reducible first | exact HB.out | apply qAF | apply qAD | apply qAG | refine qAL ?_ GE185.out) | exact HB.out)⟩
end Go.Proofs.Ytnkbobblnhaclaa.X
