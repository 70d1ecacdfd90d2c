import Derived.Test.YtdommiicjpjfpaaZStateReads3
import Derived.Test.YtdommiicjpjfpaaZStateReads26
import Derived.Test.YtdommiicjpjfpaaZStateReads15
set_option linter.unusedVariables false
set_option linter.unusedSimpArgs false
namespace Go.Proofs.Ytdommiicjpjfpaa.X
open Go.RowKit Go.Proofs.YtdommiicjpjfpaaW.PrintWords Go.Proofs.YtdommiicjpjfpaaW.PrintLast Go.Proofs.YtdommiicjpjfpaaW.PrintMore Go.Proofs.YtdommiicjpjfpaaW
attribute [local go_sem] qBE qBD qBV qBU qA6 qA5 qBJ qBI
def qBG.f (k:Nat) (a0_0:Int) (a0_1:Int) (a0_2:ByteArray) (l0_3:List (S34)) (l0_4:List ByteArray):Option (Int):=(qAG.f k a0_0 a0_1 a0_2 l0_3 l0_4 0 0).bind fun t280=>(if t280 > 2048 then (some 0) else (some t280))
set_option maxHeartbeats 8000000 in
set_option maxRecDepth 100000 in
theorem qBG.calls (k:Nat) (a0_0:Int) (a0_1:Int) (a0_2:ByteArray) (A0_3:Option Addr) (c0_3:Nat) (l0_3:List (S34)) (A0_4:Option Addr) (c0_4:Nat) (l0_4:List ByteArray) (r:Int) (w:World) (hr0_3:Kd.C k34 w A0_3 l0_3.length l0_3) (hc0_3:l0_3.length≤c0_3) (hr0_4:Kd.C Kd.string w A0_4 l0_4.length l0_4) (hc0_4:l0_4.length≤c0_4) (h:qBG.f k a0_0 a0_1 a0_2 l0_3 l0_4=some r) :
  Calls Try.prog 45 #[.agg #[.int .i64 a0_0,.int .i64 a0_1,.string a0_2,.slice A0_3 l0_3.length c0_3,.slice A0_4 l0_4.length c0_4]] w fun e w'=>e=.returned (.int .i64 r)∧Below w.heap.size w w':=by
 have hu34:=Try.underlying34
 have HR0_3:=qAA.mk hr0_3
 have HC0_3:=qAA.mk hc0_3
 clear hr0_3 hc0_3
 have HR0_4:=qAA.mk hr0_4
 have HC0_4:=qAA.mk hc0_4
 clear hr0_4 hc0_4
 have HB:=qAA.mk (Below.refl w.heap.size w)
 have H:((qAG.f k a0_0 a0_1 a0_2 l0_3 l0_4 0 0).bind fun t280=>(if t280 > 2048 then (some 0) else (some t280)))=some r:=h
 clear h
 replace H:=Option.bind_eq_some_iff.mp H
 obtain ⟨t280,A20,H⟩:=H
 replace H:(if t280 > 2048 then (some 0) else (some t280))=some r:=H
 have A2:=qAA.mk A20
 clear A20
 by_cases c3:t280 > 2048
 ·rw [if_pos c3] at H
  have c3b0:decide (2048 < t280)=true:=decide_eq_true c3
  clear c3
  obtain rfl:=Option.some.inj H
  simp only [Option.some.injEq,Prod.mk.injEq] at H
  obtain ⟨rfl⟩:=H
  go_enter Try.func45,Try.ntmps45
  go_wp2_with (first | ((with_reducible refine qAl (N:=1) rfl ?_);refine qAg ?hg (N:=1) ?hd (cs:=#[.int .i64 a0_0,.int .i64 a0_1,.string a0_2,.slice A0_3 l0_3.length c0_3,.slice A0_4 l0_4.length c0_4]) (t:=34) ?hr ?_;(case hd=>rfl);(case hg=>rfl);(case hr=>first | (go_simp;done) | (go_simp;rfl));intro gb279 hg w4 hbox hb;have n0_:=qAA.mk (qAO (by repeat (first | (with_reducible first | exact HB.out | apply qAE | apply qAD | apply qAF) | exact HB.out)) hb);have n1_:=qAA.mk (hbox);have n2_:=qAA.mk ((by rw [hg];exact (qAV (by repeat (first | (with_reducible first | exact HB.out | apply qAE | apply qAD | apply qAF) | exact HB.out))):w.heap.size≤gb279));have n3_:=qAA.mk ((by rw [hg];exact (qAV (by repeat (first | (with_reducible first | exact HB.out | apply qAE | apply qAD | apply qAF) | exact HB.out))):w.heap.size≤gb279));clear HB;have HB:=n0_;have BK279:=n1_;have GW279:=n2_;have GE279:=n3_;clear n0_ n1_ n2_ n3_;clear hb hbox hg;have hcz5_0:w4.cell? ⟨gb279,0,none⟩=some (.int .i64 a0_0):=(qAB BK279.out 0).trans rfl;have hcz5_1:w4.cell? ⟨gb279,1,none⟩=some (.int .i64 a0_1):=(qAB BK279.out 1).trans rfl;have hcz5_2:w4.cell? ⟨gb279,2,none⟩=some (.string a0_2):=(qAB BK279.out 2).trans rfl;have hcz5_3:w4.cell? ⟨gb279,3,none⟩=some (.slice A0_3 l0_3.length c0_3):=(qAB BK279.out 3).trans rfl;have hcz5_4:w4.cell? ⟨gb279,4,none⟩=some (.slice A0_4 l0_4.length c0_4):=(qAB BK279.out 4).trans rfl;have hfz5_0:=qAC BK279.out 0;have hfz5_1:=qAC BK279.out 1;have hfz5_2:=qAC BK279.out 2;have hfz5_3:=qAC BK279.out 3;have hfz5_4:=qAC BK279.out 4) | ((with_reducible refine qA2 (f:=56) rfl ?_);refine qB0 (some 5) rfl rfl Try.func56 (by kernel_rfl) rfl #[.agg #[.int .i64 a0_0,.int .i64 a0_1,.string a0_2,.slice A0_3 l0_3.length c0_3,.slice A0_4 l0_4.length c0_4],.int .i64 0,.int .i64 0] rfl (by (try simp only [List.map_toArray,List.map_cons,List.map_nil]);first | done | rfl | (simp only [List.length_drop,List.length_take];rfl)) ?_;(with_reducible refine (qAG.calls k a0_0 a0_1 a0_2 _ _ l0_3 _ _ l0_4 0 0 t280 _ ?side1 ?side2 ?side3 ?side4 A2.out).mono ?_);(case side1=>repeat (first | exact (Kd.qAc HR0_3.out HB.out) | (with_reducible refine Kd.qAh ?_ _) | (with_reducible refine Kd.qAk ?_ _) | (with_reducible refine Kd.qAs ?_)));(case side2=>exact HC0_3.out);(case side3=>repeat (first | exact (Kd.qAc HR0_4.out HB.out) | (with_reducible refine Kd.qAh ?_ _) | (with_reducible refine Kd.qAk ?_ _) | (with_reducible refine Kd.qAs ?_)));(case side4=>exact HC0_4.out);rintro e w6 ⟨rfl,hb⟩;refine ⟨_,rfl, ?_⟩;have n0_:=qAA.mk (qAX (g:=gb279) (o:=.cells #[.int .i64 a0_0,.int .i64 a0_1,.string a0_2,.slice A0_3 l0_3.length c0_3,.slice A0_4 l0_4.length c0_4] 34 (0,0)) (by (with_reducible repeat (first | refine qAa ?_ _ | refine qAL ?_ | refine qAP ?_ _));exact BK279.out) hb);have n1_:=qAA.mk (qAO (by repeat (first | (with_reducible first | exact HB.out | apply qAE | apply qAD | apply qAF | refine qAQ ?_ GE279.out) | exact HB.out)) hb);clear BK279;clear HB;have BK279:=n0_;have HB:=n1_;clear n0_ n1_;(try clear hb);(try clear hb2);(try clear hk);(try clear hi)))
  go_ret
  exact ⟨by first | rfl | (simp [qAT,qAS] <;> rfl) | (simp [*,qAT,qAS] <;> rfl),by repeat (first | (with_reducible first | exact HB.out | apply qAE | apply qAD | apply qAF | refine qAQ ?_ GE279.out) | exact HB.out)⟩
 ·rw [if_neg c3] at H
  have c3b0:decide (2048 < t280)=false:=decide_eq_false c3
  clear c3
  obtain rfl:=Option.some.inj H
  simp only [Option.some.injEq,Prod.mk.injEq] at H
  obtain ⟨rfl⟩:=H
  go_enter Try.func45,Try.ntmps45
  go_wp2_with (first | ((with_reducible refine qAl (N:=1) rfl ?_);refine qAg ?hg (N:=1) ?hd (cs:=#[.int .i64 a0_0,.int .i64 a0_1,.string a0_2,.slice A0_3 l0_3.length c0_3,.slice A0_4 l0_4.length c0_4]) (t:=34) ?hr ?_;(case hd=>rfl);(case hg=>rfl);(case hr=>first | (go_simp;done) | (go_simp;rfl));intro gb279 hg w7 hbox hb;have n0_:=qAA.mk (qAO (by repeat (first | (with_reducible first | exact HB.out | apply qAE | apply qAD | apply qAF) | exact HB.out)) hb);have n1_:=qAA.mk (hbox);have n2_:=qAA.mk ((by rw [hg];exact (qAV (by repeat (first | (with_reducible first | exact HB.out | apply qAE | apply qAD | apply qAF) | exact HB.out))):w.heap.size≤gb279));have n3_:=qAA.mk ((by rw [hg];exact (qAV (by repeat (first | (with_reducible first | exact HB.out | apply qAE | apply qAD | apply qAF) | exact HB.out))):w.heap.size≤gb279));clear HB;have HB:=n0_;have BK279:=n1_;have GW279:=n2_;have GE279:=n3_;clear n0_ n1_ n2_ n3_;clear hb hbox hg;have hcz8_0:w7.cell? ⟨gb279,0,none⟩=some (.int .i64 a0_0):=(qAB BK279.out 0).trans rfl;have hcz8_1:w7.cell? ⟨gb279,1,none⟩=some (.int .i64 a0_1):=(qAB BK279.out 1).trans rfl;have hcz8_2:w7.cell? ⟨gb279,2,none⟩=some (.string a0_2):=(qAB BK279.out 2).trans rfl;have hcz8_3:w7.cell? ⟨gb279,3,none⟩=some (.slice A0_3 l0_3.length c0_3):=(qAB BK279.out 3).trans rfl;have hcz8_4:w7.cell? ⟨gb279,4,none⟩=some (.slice A0_4 l0_4.length c0_4):=(qAB BK279.out 4).trans rfl;have hfz8_0:=qAC BK279.out 0;have hfz8_1:=qAC BK279.out 1;have hfz8_2:=qAC BK279.out 2;have hfz8_3:=qAC BK279.out 3;have hfz8_4:=qAC BK279.out 4) | ((with_reducible refine qA2 (f:=56) rfl ?_);refine qB0 (some 5) rfl rfl Try.func56 (by kernel_rfl) rfl #[.agg #[.int .i64 a0_0,.int .i64 a0_1,.string a0_2,.slice A0_3 l0_3.length c0_3,.slice A0_4 l0_4.length c0_4],.int .i64 0,.int .i64 0] rfl (by (try simp only [List.map_toArray,List.map_cons,List.map_nil]);first | done | rfl | (simp only [List.length_drop,List.length_take];rfl)) ?_;(with_reducible refine (qAG.calls k a0_0 a0_1 a0_2 _ _ l0_3 _ _ l0_4 0 0 t280 _ ?side1 ?side2 ?side3 ?side4 A2.out).mono ?_);(case side1=>repeat (first | exact (Kd.qAc HR0_3.out HB.out) | (with_reducible refine Kd.qAh ?_ _) | (with_reducible refine Kd.qAk ?_ _) | (with_reducible refine Kd.qAs ?_)));(case side2=>exact HC0_3.out);(case side3=>repeat (first | exact (Kd.qAc HR0_4.out HB.out) | (with_reducible refine Kd.qAh ?_ _) | (with_reducible refine Kd.qAk ?_ _) | (with_reducible refine Kd.qAs ?_)));(case side4=>exact HC0_4.out);rintro e w9 ⟨rfl,hb⟩;refine ⟨_,rfl, ?_⟩;have n0_:=qAA.mk (qAX (g:=gb279) (o:=.cells #[.int .i64 a0_0,.int .i64 a0_1,.string a0_2,.slice A0_3 l0_3.length c0_3,.slice A0_4 l0_4.length c0_4] 34 (0,0)) (by (with_reducible repeat (first | refine qAa ?_ _ | refine qAL ?_ | refine qAP ?_ _));exact BK279.out) hb);have n1_:=qAA.mk (qAO (by repeat (first | (with_reducible first | exact HB.out | apply qAE | apply qAD | apply qAF | refine qAQ ?_ GE279.out) | exact HB.out)) hb);clear BK279;clear HB;have BK279:=n0_;have HB:=n1_;clear n0_ n1_;(try clear hb);(try clear hb2);(try clear hk);(try clear hi)))
  go_ret
  exact ⟨by first | rfl | (simp [qAT,qAS] <;> rfl) | (simp [*,qAT,qAS] <;> rfl),by repeat (first | (with_reducible first | exact HB.out | apply qAE | apply qAD | apply qAF | refine qAQ ?_ GE279.out) | exact HB.out)⟩
mutual
def qBl.l0:Nat→Int→Int→Int→ByteArray→List (S34)→List ByteArray→Int→Int→ByteArray→List (S34)→List ByteArray→Option (Int × Int × ByteArray × (List (S34)) × List ByteArray)
 | 0,_,_,_,_,_,_,_,_,_,_,_=>none
 | k+1,x4,x290000,x290001,x290002,x290003,x290004,x292000,x292001,x292002,x292003,x292004=>if x4 < (x290003.length:Int) then (if 0≤x4 then ((qBl.f k ((qAR x290003 x4).f0) ((qAR x290003 x4).f1) ((qAR x290003 x4).f2) ((qAR x290003 x4).f3) ((qAR x290003 x4).f4)).bind fun bt296=>(if x292003.length < 1759218604441 then (qBl.l0 k (wrap64 (x4+1)) x290000 x290001 x290002 x290003 x290004 x292000 x292001 x292002 (x292003 ++ [(⟨bt296.1,bt296.2.1,bt296.2.2.1,bt296.2.2.2.1,bt296.2.2.2.2⟩:S34)]) x292004) else (none))) else (none)) else (some (x292000,x292001,x292002,x292003,x292004))
def qBl.f:Nat→Int→Int→ByteArray→List (S34)→List ByteArray→Option (Int × Int × ByteArray × (List (S34)) × List ByteArray)
 | 0,_,_,_,_,_=>none
 | k+1,a0_0,a0_1,a0_2,l0_3,l0_4=>if ([]:List ByteArray).length+l0_4.length < 8796093022208 then (qBl.l0 k 0 a0_0 a0_1 a0_2 l0_3 l0_4 a0_0 a0_1 a0_2 ([]:List (S34)) (([]:List ByteArray) ++ l0_4)) else (none)
end
end Go.Proofs.Ytdommiicjpjfpaa.X
