import Derived.Test.YtmehfnikecmiiaaZModuleBackUpto3
import Derived.Test.YtmehfnikecmiiaaZModuleBackUpto14
set_option linter.unusedVariables false
set_option linter.unusedSimpArgs false
namespace Go.Proofs.Ytmehfnikecmiiaa.X
open Go.RowKit Go.Proofs.YtmehfnikecmiiaaW.PrintWords Go.Proofs.YtmehfnikecmiiaaW.PrintLast Go.Proofs.YtmehfnikecmiiaaW.PrintMore Go.Proofs.YtmehfnikecmiiaaW
attribute [local go_sem] qBF qBE qBY qBX qA9 qA8 qBI qBH
def qBK.f (k:Nat) (a0_0:Int) (a0_1:Int) (a0_2:ByteArray) (l0_3:List (S48)) (l0_4:List ByteArray):Option (Int):=(qAE.f k a0_0 a0_1 a0_2 l0_3 l0_4).bind fun bt121=>(some bt121.1)
set_option maxHeartbeats 8000000 in
set_option maxRecDepth 100000 in
theorem qBK.calls (k:Nat) (a0_0:Int) (a0_1:Int) (a0_2:ByteArray) (A0_3:Option Addr) (c0_3:Nat) (l0_3:List (S48)) (A0_4:Option Addr) (c0_4:Nat) (l0_4:List ByteArray) (r:Int) (w:World) (hr0_3:Kd.C k48 w A0_3 l0_3.length l0_3) (hc0_3:l0_3.length≤c0_3) (hr0_4:Kd.C Kd.string w A0_4 l0_4.length l0_4) (hc0_4:l0_4.length≤c0_4) (h:qBK.f k a0_0 a0_1 a0_2 l0_3 l0_4=some r) :
  Calls Try.prog 67 #[.agg #[.int .i64 a0_0,.int .i64 a0_1,.string a0_2,.slice A0_3 l0_3.length c0_3,.slice A0_4 l0_4.length c0_4]] w fun e w'=>e=.returned (.int .i64 r)∧Below w.heap.size w w':=by
 have hu48:=Try.underlying48
 have HR0_3:=qAA.mk hr0_3
 have HC0_3:=qAA.mk hc0_3
 clear hr0_3 hc0_3
 have HR0_4:=qAA.mk hr0_4
 have HC0_4:=qAA.mk hc0_4
 clear hr0_4 hc0_4
 have HB:=qAA.mk (Below.refl w.heap.size w)
 have H:((qAE.f k a0_0 a0_1 a0_2 l0_3 l0_4).bind fun bt121=>(some bt121.1))=some r:=h
 clear h
 replace H:=Option.bind_eq_some_iff.mp H
 obtain ⟨⟨t121,t122⟩,A20,H⟩:=H
 replace H:(some t121)=some r:=H
 have A2:=qAA.mk A20
 clear A20
 obtain rfl:=Option.some.inj H
 simp only [Option.some.injEq,Prod.mk.injEq] at H
 obtain ⟨rfl⟩:=H
 go_enter Try.func67,Try.ntmps67
 go_wp2_with (first | ((with_reducible refine qAr (N:=1) rfl ?_);refine qAk ?hg (N:=1) ?hd (cs:=#[.int .i64 a0_0,.int .i64 a0_1,.string a0_2,.slice A0_3 l0_3.length c0_3,.slice A0_4 l0_4.length c0_4]) (t:=48) ?hr ?_;(case hd=>rfl);(case hg=>rfl);(case hr=>first | (go_simp;done) | (go_simp;rfl));intro gb120 hg w3 hbox hb;have n0_:=qAA.mk (qAV (by repeat (first | (with_reducible first | exact HB.out | apply qAH | apply qAI | apply qAN) | exact HB.out)) hb);have n1_:=qAA.mk (hbox);have n2_:=qAA.mk ((by rw [hg];exact (qAw (by repeat (first | (with_reducible first | exact HB.out | apply qAH | apply qAI | apply qAN) | exact HB.out))):w.heap.size≤gb120));have n3_:=qAA.mk ((by rw [hg];exact (qAw (by repeat (first | (with_reducible first | exact HB.out | apply qAH | apply qAI | apply qAN) | exact HB.out))):w.heap.size≤gb120));clear HB;have HB:=n0_;have BK120:=n1_;have GW120:=n2_;have GE120:=n3_;clear n0_ n1_ n2_ n3_;clear hb hbox hg;have hcz4_0:w3.cell? ⟨gb120,0,none⟩=some (.int .i64 a0_0):=(qAB BK120.out 0).trans rfl;have hcz4_1:w3.cell? ⟨gb120,1,none⟩=some (.int .i64 a0_1):=(qAB BK120.out 1).trans rfl;have hcz4_2:w3.cell? ⟨gb120,2,none⟩=some (.string a0_2):=(qAB BK120.out 2).trans rfl;have hcz4_3:w3.cell? ⟨gb120,3,none⟩=some (.slice A0_3 l0_3.length c0_3):=(qAB BK120.out 3).trans rfl;have hcz4_4:w3.cell? ⟨gb120,4,none⟩=some (.slice A0_4 l0_4.length c0_4):=(qAB BK120.out 4).trans rfl;have hfz4_0:=qAC BK120.out 0;have hfz4_1:=qAC BK120.out 1;have hfz4_2:=qAC BK120.out 2;have hfz4_3:=qAC BK120.out 3;have hfz4_4:=qAC BK120.out 4) | ((with_reducible refine qBu (f:=81) rfl ?_);refine goesL_ (some 7) rfl rfl Try.func81 (by kernel_rfl) rfl #[.agg #[.int .i64 a0_0,.int .i64 a0_1,.string a0_2,.slice A0_3 l0_3.length c0_3,.slice A0_4 l0_4.length c0_4]] rfl (by (try simp only [List.map_toArray,List.map_cons,List.map_nil]);first | done | rfl | (simp only [List.length_drop,List.length_take];rfl)) ?_;(with_reducible refine (qAE.calls k a0_0 a0_1 a0_2 _ _ l0_3 _ _ l0_4 t121 t122 _ ?side1 ?side2 ?side3 ?side4 A2.out).mono ?_);(case side1=>repeat (first | exact (Kd.qAS HR0_3.out HB.out) | (with_reducible refine Kd.qAs ?_ _) | (with_reducible refine Kd.qBA ?_ _) | (with_reducible refine Kd.qBW ?_)));(case side2=>exact HC0_3.out);(case side3=>repeat (first | exact (Kd.qAS HR0_4.out HB.out) | (with_reducible refine Kd.qAs ?_ _) | (with_reducible refine Kd.qBA ?_ _) | (with_reducible refine Kd.qBW ?_)));(case side4=>exact HC0_4.out);rintro e w5 ⟨rfl,hb⟩;refine ⟨_,rfl, ?_⟩;have n0_:=qAA.mk (qAL (g:=gb120) (o:=.cells #[.int .i64 a0_0,.int .i64 a0_1,.string a0_2,.slice A0_3 l0_3.length c0_3,.slice A0_4 l0_4.length c0_4] 48 (0,0)) (by (with_reducible repeat (first | refine qAY ?_ _ | refine qAJ ?_ | refine qAK ?_ _));exact BK120.out) hb);have n1_:=qAA.mk (qAV (by repeat (first | (with_reducible first | exact HB.out | apply qAH | apply qAI | apply qAN | refine qAQ ?_ GE120.out) | exact HB.out)) hb);clear BK120;clear HB;have BK120:=n0_;have HB:=n1_;clear n0_ n1_;(try clear hb);(try clear hb2);(try clear hk);(try clear hi)))
 go_ret
 exact ⟨by first | rfl | (simp [qAu,qAt] <;> rfl) | (simp [*,qAu,qAt] <;> rfl),by repeat (first | (with_reducible first | exact HB.out | apply qAH | apply qAI | apply qAN | refine qAQ ?_ GE120.out) | exact HB.out)⟩
end Go.Proofs.Ytmehfnikecmiiaa.X
