import Derived.Test.YtdommiicjpjfpaaZStateReads3
import Derived.Test.YtdommiicjpjfpaaZStateReads13
set_option linter.unusedVariables false
set_option linter.unusedSimpArgs false
namespace Go.Proofs.Ytdommiicjpjfpaa.X
open Go.RowKit Go.Proofs.YtdommiicjpjfpaaW.PrintWords Go.Proofs.YtdommiicjpjfpaaW.PrintLast Go.Proofs.YtdommiicjpjfpaaW.PrintMore Go.Proofs.YtdommiicjpjfpaaW
attribute [local go_sem] qBE qBD qBV qBU qA6 qA5 qBJ qBI
def qA8.f (k:Nat) (a0_0:Int) (a0_1:Int) (a0_2:ByteArray) (l0_3:List (S34)) (l0_4:List ByteArray):Option (Int):=(qAH.f k a0_0 a0_1 a0_2 l0_3 l0_4).bind fun bt102=>(some bt102.1)
set_option maxHeartbeats 8000000 in
set_option maxRecDepth 100000 in
theorem qA8.calls (k:Nat) (a0_0:Int) (a0_1:Int) (a0_2:ByteArray) (A0_3:Option Addr) (c0_3:Nat) (l0_3:List (S34)) (A0_4:Option Addr) (c0_4:Nat) (l0_4:List ByteArray) (r:Int) (w:World) (hr0_3:Kd.C k34 w A0_3 l0_3.length l0_3) (hc0_3:l0_3.length≤c0_3) (hr0_4:Kd.C Kd.string w A0_4 l0_4.length l0_4) (hc0_4:l0_4.length≤c0_4) (h:qA8.f k a0_0 a0_1 a0_2 l0_3 l0_4=some r) :
  Calls Try.prog 65 #[.agg #[.int .i64 a0_0,.int .i64 a0_1,.string a0_2,.slice A0_3 l0_3.length c0_3,.slice A0_4 l0_4.length c0_4]] w fun e w'=>e=.returned (.int .i64 r)∧Below w.heap.size w w':=by
 have hu34:=Try.underlying34
 have HR0_3:=qAA.mk hr0_3
 have HC0_3:=qAA.mk hc0_3
 clear hr0_3 hc0_3
 have HR0_4:=qAA.mk hr0_4
 have HC0_4:=qAA.mk hc0_4
 clear hr0_4 hc0_4
 have HB:=qAA.mk (Below.refl w.heap.size w)
 have H:((qAH.f k a0_0 a0_1 a0_2 l0_3 l0_4).bind fun bt102=>(some bt102.1))=some r:=h
 clear h
 replace H:=Option.bind_eq_some_iff.mp H
 obtain ⟨⟨t102,t103⟩,A20,H⟩:=H
 replace H:(some t102)=some r:=H
 have A2:=qAA.mk A20
 clear A20
 obtain rfl:=Option.some.inj H
 simp only [Option.some.injEq,Prod.mk.injEq] at H
 obtain ⟨rfl⟩:=H
 go_enter Try.func65,Try.ntmps65
 go_wp2_with (first | ((with_reducible refine qAl (N:=1) rfl ?_);refine qAg ?hg (N:=1) ?hd (cs:=#[.int .i64 a0_0,.int .i64 a0_1,.string a0_2,.slice A0_3 l0_3.length c0_3,.slice A0_4 l0_4.length c0_4]) (t:=34) ?hr ?_;(case hd=>rfl);(case hg=>rfl);(case hr=>first | (go_simp;done) | (go_simp;rfl));intro gb101 hg w3 hbox hb;have n0_:=qAA.mk (qAO (by repeat (first | (with_reducible first | exact HB.out | apply qAE | apply qAD | apply qAF) | exact HB.out)) hb);have n1_:=qAA.mk (hbox);have n2_:=qAA.mk ((by rw [hg];exact (qAV (by repeat (first | (with_reducible first | exact HB.out | apply qAE | apply qAD | apply qAF) | exact HB.out))):w.heap.size≤gb101));have n3_:=qAA.mk ((by rw [hg];exact (qAV (by repeat (first | (with_reducible first | exact HB.out | apply qAE | apply qAD | apply qAF) | exact HB.out))):w.heap.size≤gb101));clear HB;have HB:=n0_;have BK101:=n1_;have GW101:=n2_;have GE101:=n3_;clear n0_ n1_ n2_ n3_;clear hb hbox hg;have hcz4_0:w3.cell? ⟨gb101,0,none⟩=some (.int .i64 a0_0):=(qAB BK101.out 0).trans rfl;have hcz4_1:w3.cell? ⟨gb101,1,none⟩=some (.int .i64 a0_1):=(qAB BK101.out 1).trans rfl;have hcz4_2:w3.cell? ⟨gb101,2,none⟩=some (.string a0_2):=(qAB BK101.out 2).trans rfl;have hcz4_3:w3.cell? ⟨gb101,3,none⟩=some (.slice A0_3 l0_3.length c0_3):=(qAB BK101.out 3).trans rfl;have hcz4_4:w3.cell? ⟨gb101,4,none⟩=some (.slice A0_4 l0_4.length c0_4):=(qAB BK101.out 4).trans rfl;have hfz4_0:=qAC BK101.out 0;have hfz4_1:=qAC BK101.out 1;have hfz4_2:=qAC BK101.out 2;have hfz4_3:=qAC BK101.out 3;have hfz4_4:=qAC BK101.out 4) | ((with_reducible refine qA2 (f:=83) rfl ?_);refine qB0 (some 7) rfl rfl Try.func83 (by kernel_rfl) rfl #[.agg #[.int .i64 a0_0,.int .i64 a0_1,.string a0_2,.slice A0_3 l0_3.length c0_3,.slice A0_4 l0_4.length c0_4]] rfl (by (try simp only [List.map_toArray,List.map_cons,List.map_nil]);first | done | rfl | (simp only [List.length_drop,List.length_take];rfl)) ?_;(with_reducible refine (qAH.calls k a0_0 a0_1 a0_2 _ _ l0_3 _ _ l0_4 t102 t103 _ ?side1 ?side2 ?side3 ?side4 A2.out).mono ?_);(case side1=>repeat (first | exact (Kd.qAc HR0_3.out HB.out) | (with_reducible refine Kd.qAh ?_ _) | (with_reducible refine Kd.qAk ?_ _) | (with_reducible refine Kd.qAs ?_)));(case side2=>exact HC0_3.out);(case side3=>repeat (first | exact (Kd.qAc HR0_4.out HB.out) | (with_reducible refine Kd.qAh ?_ _) | (with_reducible refine Kd.qAk ?_ _) | (with_reducible refine Kd.qAs ?_)));(case side4=>exact HC0_4.out);rintro e w5 ⟨rfl,hb⟩;refine ⟨_,rfl, ?_⟩;have n0_:=qAA.mk (qAX (g:=gb101) (o:=.cells #[.int .i64 a0_0,.int .i64 a0_1,.string a0_2,.slice A0_3 l0_3.length c0_3,.slice A0_4 l0_4.length c0_4] 34 (0,0)) (by (with_reducible repeat (first | refine qAa ?_ _ | refine qAL ?_ | refine qAP ?_ _));exact BK101.out) hb);have n1_:=qAA.mk (qAO (by repeat (first | (with_reducible first | exact HB.out | apply qAE | apply qAD | apply qAF | refine qAQ ?_ GE101.out) | exact HB.out)) hb);clear BK101;clear HB;have BK101:=n0_;have HB:=n1_;clear n0_ n1_;(try clear hb);(try clear hb2);(try clear hk);(try clear hi)))
 go_ret
 exact ⟨by first | rfl | (simp [qAT,qAS] <;> rfl) | (simp [*,qAT,qAS] <;> rfl),by repeat (first | (with_reducible first | exact HB.out | apply qAE | apply qAD | apply qAF | refine qAQ ?_ GE101.out) | exact HB.out)⟩
end Go.Proofs.Ytdommiicjpjfpaa.X
