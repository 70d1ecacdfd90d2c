import Derived.Test.YtdommiicjpjfpaaZStateReads3
import Derived.Test.YtdommiicjpjfpaaZStateReads10
import Derived.Test.YtdommiicjpjfpaaZStateReads8
import Derived.Test.YtdommiicjpjfpaaZStateReads16
import Derived.Test.YtdommiicjpjfpaaZStateReads21
set_option linter.unusedVariables false
set_option linter.unusedSimpArgs false
namespace Go.Proofs.Ytdommiicjpjfpaa.X
open Go.RowKit Go.Proofs.YtdommiicjpjfpaaW.PrintWords Go.Proofs.YtdommiicjpjfpaaW.PrintLast Go.Proofs.YtdommiicjpjfpaaW.PrintMore Go.Proofs.YtdommiicjpjfpaaW
attribute [local go_sem] qBE qBD qBV qBU qA6 qA5 qBJ qBI
def qBF.f (k:Nat) (a0_0:ByteArray) (a0_1:Int) (a0_2:Int) (a0_3:ByteArray) (l0_4:List (S34)) (l0_5:List ByteArray):Option (Int):=(qA8.f k a0_1 a0_2 a0_3 l0_4 l0_5).bind fun t105=>(if t105=0 then (some 0) else (if a0_0.toList=([]:List UInt8) then (some 0) else (if (a0_0.size:Int) > 32 then (some 0) else (some (wrap64 ((wrap64 (1+(a0_0.size:Int)))+t105))))))
set_option maxHeartbeats 8000000 in
set_option maxRecDepth 100000 in
theorem qBF.calls (k:Nat) (a0_0:ByteArray) (a0_1:Int) (a0_2:Int) (a0_3:ByteArray) (A0_4:Option Addr) (c0_4:Nat) (l0_4:List (S34)) (A0_5:Option Addr) (c0_5:Nat) (l0_5:List ByteArray) (r:Int) (w:World) (hr0_4:Kd.C k34 w A0_4 l0_4.length l0_4) (hc0_4:l0_4.length≤c0_4) (hr0_5:Kd.C Kd.string w A0_5 l0_5.length l0_5) (hc0_5:l0_5.length≤c0_5) (h:qBF.f k a0_0 a0_1 a0_2 a0_3 l0_4 l0_5=some r) :
  Calls Try.prog 49 #[.agg #[.string a0_0,.int .i64 a0_1,.int .i64 a0_2,.string a0_3,.slice A0_4 l0_4.length c0_4,.slice A0_5 l0_5.length c0_5]] w fun e w'=>e=.returned (.int .i64 r)∧Below w.heap.size w w':=by
 have hu51:=Try.underlying51
 have hu34:=Try.underlying34
 have HR0_4:=qAA.mk hr0_4
 have HC0_4:=qAA.mk hc0_4
 clear hr0_4 hc0_4
 have HR0_5:=qAA.mk hr0_5
 have HC0_5:=qAA.mk hc0_5
 clear hr0_5 hc0_5
 have HB:=qAA.mk (Below.refl w.heap.size w)
 have H:((qA8.f k a0_1 a0_2 a0_3 l0_4 l0_5).bind fun t105=>(if t105=0 then (some 0) else (if a0_0.toList=([]:List UInt8) then (some 0) else (if (a0_0.size:Int) > 32 then (some 0) else (some (wrap64 ((wrap64 (1+(a0_0.size:Int)))+t105)))))))=some r:=h
 clear h
 replace H:=Option.bind_eq_some_iff.mp H
 obtain ⟨t105,A20,H⟩:=H
 replace H:(if t105=0 then (some 0) else (if a0_0.toList=([]:List UInt8) then (some 0) else (if (a0_0.size:Int) > 32 then (some 0) else (some (wrap64 ((wrap64 (1+(a0_0.size:Int)))+t105))))))=some r:=H
 have A2:=qAA.mk A20
 clear A20
 by_cases c3:t105=0
 ·rw [if_pos c3] at H
  have c3b0:(t105 == 0)=true:=beq_iff_eq.mpr c3
  have c3b1:(t105 != 0)=false:=bne_eq_false_iff_eq.mpr c3
  clear c3
  obtain rfl:=Option.some.inj H
  simp only [Option.some.injEq,Prod.mk.injEq] at H
  obtain ⟨rfl⟩:=H
  go_enter Try.func49,Try.ntmps49
  go_wp2_with (first | ((with_reducible refine qAl (N:=1) rfl ?_);(try (refine qAw (by rfl) ?_;dsimp only));refine qAg ?hg (N:=1) ?hd (cs:=#[.string a0_0,.int .i64 a0_1,.int .i64 a0_2,.string a0_3,.slice A0_4 l0_4.length c0_4,.slice A0_5 l0_5.length c0_5]) (t:=51) ?hr ?_;(case hd=>rfl);(case hg=>rfl);(case hr=>first | (go_simp;done) | (go_simp;rfl));intro gb104 hg w4 hbox hb;have n0_:=qAA.mk (qAO (by repeat (first | (with_reducible first | exact HB.out | apply qAE | apply qAD | apply qAF) | exact HB.out)) hb);have n1_:=qAA.mk (hbox);have n2_:=qAA.mk ((by rw [hg];exact (qAV (by repeat (first | (with_reducible first | exact HB.out | apply qAE | apply qAD | apply qAF) | exact HB.out))):w.heap.size≤gb104));have n3_:=qAA.mk ((by rw [hg];exact (qAV (by repeat (first | (with_reducible first | exact HB.out | apply qAE | apply qAD | apply qAF) | exact HB.out))):w.heap.size≤gb104));clear HB;have HB:=n0_;have BK104:=n1_;have GW104:=n2_;have GE104:=n3_;clear n0_ n1_ n2_ n3_;clear hb hbox hg;have hcz5_0:w4.cell? ⟨gb104,0,none⟩=some (.string a0_0):=(qAB BK104.out 0).trans rfl;have hcz5_1:w4.cell? ⟨gb104,1,none⟩=some (.int .i64 a0_1):=(qAB BK104.out 1).trans rfl;have hcz5_2:w4.cell? ⟨gb104,2,none⟩=some (.int .i64 a0_2):=(qAB BK104.out 2).trans rfl;have hcz5_3:w4.cell? ⟨gb104,3,none⟩=some (.string a0_3):=(qAB BK104.out 3).trans rfl;have hcz5_4:w4.cell? ⟨gb104,4,none⟩=some (.slice A0_4 l0_4.length c0_4):=(qAB BK104.out 4).trans rfl;have hcz5_5:w4.cell? ⟨gb104,5,none⟩=some (.slice A0_5 l0_5.length c0_5):=(qAB BK104.out 5).trans rfl;have hfz5_0:=qAC BK104.out 0;have hfz5_1:=qAC BK104.out 1;have hfz5_2:=qAC BK104.out 2;have hfz5_3:=qAC BK104.out 3;have hfz5_4:=qAC BK104.out 4;have hfz5_5:=qAC BK104.out 5) | ((with_reducible refine qA2 (f:=65) rfl ?_);refine qB0 (some 6) rfl rfl Try.func65 (by kernel_rfl) rfl #[.agg #[.int .i64 a0_1,.int .i64 a0_2,.string a0_3,.slice A0_4 l0_4.length c0_4,.slice A0_5 l0_5.length c0_5]] rfl (by (try simp only [List.map_toArray,List.map_cons,List.map_nil]);first | done | rfl | (simp only [List.length_drop,List.length_take];rfl)) ?_;(with_reducible refine (qA8.calls k a0_1 a0_2 a0_3 _ _ l0_4 _ _ l0_5 t105 _ ?side1 ?side2 ?side3 ?side4 A2.out).mono ?_);(case side1=>repeat (first | exact (Kd.qAc HR0_4.out HB.out) | (with_reducible refine Kd.qAh ?_ _) | (with_reducible refine Kd.qAk ?_ _) | (with_reducible refine Kd.qAs ?_)));(case side2=>exact HC0_4.out);(case side3=>repeat (first | exact (Kd.qAc HR0_5.out HB.out) | (with_reducible refine Kd.qAh ?_ _) | (with_reducible refine Kd.qAk ?_ _) | (with_reducible refine Kd.qAs ?_)));(case side4=>exact HC0_5.out);rintro e w6 ⟨rfl,hb⟩;refine ⟨_,rfl, ?_⟩;have n0_:=qAA.mk (qAX (g:=gb104) (o:=.cells #[.string a0_0,.int .i64 a0_1,.int .i64 a0_2,.string a0_3,.slice A0_4 l0_4.length c0_4,.slice A0_5 l0_5.length c0_5] 51 (0,0)) (by (with_reducible repeat (first | refine qAa ?_ _ | refine qAL ?_ | refine qAP ?_ _));exact BK104.out) hb);have n1_:=qAA.mk (qAO (by repeat (first | (with_reducible first | exact HB.out | apply qAE | apply qAD | apply qAF | refine qAQ ?_ GE104.out) | exact HB.out)) hb);clear BK104;clear HB;have BK104:=n0_;have HB:=n1_;clear n0_ n1_;(try clear hb);(try clear hb2);(try clear hk);(try clear hi)))
  go_ret
  exact ⟨by first | rfl | (simp [qAT,qAS] <;> rfl) | (simp [*,qAT,qAS] <;> rfl),by repeat (first | (with_reducible first | exact HB.out | apply qAE | apply qAD | apply qAF | refine qAQ ?_ GE104.out) | exact HB.out)⟩
 ·rw [if_neg c3] at H
  have c3b0:(t105 == 0)=false:=beq_eq_false_iff_ne.mpr c3
  have c3b1:(t105 != 0)=true:=bne_iff_ne.mpr c3
  by_cases c7:a0_0.toList=([]:List UInt8)
  ·rw [if_pos c7] at H
   have c7b0:(a0_0.toList == ([]:List UInt8))=true:=beq_iff_eq.mpr c7
   have c7b1:(a0_0.toList != ([]:List UInt8))=false:=bne_eq_false_iff_eq.mpr c7
   clear c7
   obtain rfl:=Option.some.inj H
   simp only [Option.some.injEq,Prod.mk.injEq] at H
   obtain ⟨rfl⟩:=H
   go_enter Try.func49,Try.ntmps49
   go_wp2_with (first | ((with_reducible refine qAl (N:=1) rfl ?_);(try (refine qAw (by rfl) ?_;dsimp only));refine qAg ?hg (N:=1) ?hd (cs:=#[.string a0_0,.int .i64 a0_1,.int .i64 a0_2,.string a0_3,.slice A0_4 l0_4.length c0_4,.slice A0_5 l0_5.length c0_5]) (t:=51) ?hr ?_;(case hd=>rfl);(case hg=>rfl);(case hr=>first | (go_simp;done) | (go_simp;rfl));intro gb104 hg w8 hbox hb;have n0_:=qAA.mk (qAO (by repeat (first | (with_reducible first | exact HB.out | apply qAE | apply qAD | apply qAF) | exact HB.out)) hb);have n1_:=qAA.mk (hbox);have n2_:=qAA.mk ((by rw [hg];exact (qAV (by repeat (first | (with_reducible first | exact HB.out | apply qAE | apply qAD | apply qAF) | exact HB.out))):w.heap.size≤gb104));have n3_:=qAA.mk ((by rw [hg];exact (qAV (by repeat (first | (with_reducible first | exact HB.out | apply qAE | apply qAD | apply qAF) | exact HB.out))):w.heap.size≤gb104));clear HB;have HB:=n0_;have BK104:=n1_;have GW104:=n2_;have GE104:=n3_;clear n0_ n1_ n2_ n3_;clear hb hbox hg;have hcz9_0:w8.cell? ⟨gb104,0,none⟩=some (.string a0_0):=(qAB BK104.out 0).trans rfl;have hcz9_1:w8.cell? ⟨gb104,1,none⟩=some (.int .i64 a0_1):=(qAB BK104.out 1).trans rfl;have hcz9_2:w8.cell? ⟨gb104,2,none⟩=some (.int .i64 a0_2):=(qAB BK104.out 2).trans rfl;have hcz9_3:w8.cell? ⟨gb104,3,none⟩=some (.string a0_3):=(qAB BK104.out 3).trans rfl;have hcz9_4:w8.cell? ⟨gb104,4,none⟩=some (.slice A0_4 l0_4.length c0_4):=(qAB BK104.out 4).trans rfl;have hcz9_5:w8.cell? ⟨gb104,5,none⟩=some (.slice A0_5 l0_5.length c0_5):=(qAB BK104.out 5).trans rfl;have hfz9_0:=qAC BK104.out 0;have hfz9_1:=qAC BK104.out 1;have hfz9_2:=qAC BK104.out 2;have hfz9_3:=qAC BK104.out 3;have hfz9_4:=qAC BK104.out 4;have hfz9_5:=qAC BK104.out 5) | ((with_reducible refine qA2 (f:=65) rfl ?_);refine qB0 (some 6) rfl rfl Try.func65 (by kernel_rfl) rfl #[.agg #[.int .i64 a0_1,.int .i64 a0_2,.string a0_3,.slice A0_4 l0_4.length c0_4,.slice A0_5 l0_5.length c0_5]] rfl (by (try simp only [List.map_toArray,List.map_cons,List.map_nil]);first | done | rfl | (simp only [List.length_drop,List.length_take];rfl)) ?_;(with_reducible refine (qA8.calls k a0_1 a0_2 a0_3 _ _ l0_4 _ _ l0_5 t105 _ ?side1 ?side2 ?side3 ?side4 A2.out).mono ?_);(case side1=>repeat (first | exact (Kd.qAc HR0_4.out HB.out) | (with_reducible refine Kd.qAh ?_ _) | (with_reducible refine Kd.qAk ?_ _) | (with_reducible refine Kd.qAs ?_)));(case side2=>exact HC0_4.out);(case side3=>repeat (first | exact (Kd.qAc HR0_5.out HB.out) | (with_reducible refine Kd.qAh ?_ _) | (with_reducible refine Kd.qAk ?_ _) | (with_reducible refine Kd.qAs ?_)));(case side4=>exact HC0_5.out);rintro e w10 ⟨rfl,hb⟩;refine ⟨_,rfl, ?_⟩;have n0_:=qAA.mk (qAX (g:=gb104) (o:=.cells #[.string a0_0,.int .i64 a0_1,.int .i64 a0_2,.string a0_3,.slice A0_4 l0_4.length c0_4,.slice A0_5 l0_5.length c0_5] 51 (0,0)) (by (with_reducible repeat (first | refine qAa ?_ _ | refine qAL ?_ | refine qAP ?_ _));exact BK104.out) hb);have n1_:=qAA.mk (qAO (by repeat (first | (with_reducible first | exact HB.out | apply qAE | apply qAD | apply qAF | refine qAQ ?_ GE104.out) | exact HB.out)) hb);clear BK104;clear HB;have BK104:=n0_;have HB:=n1_;clear n0_ n1_;(try clear hb);(try clear hb2);(try clear hk);(try clear hi);have hcz11_0:w10.cell? ⟨gb104,0,none⟩=some (.string a0_0):=(qAB BK104.out 0).trans rfl;have hcz11_1:w10.cell? ⟨gb104,1,none⟩=some (.int .i64 a0_1):=(qAB BK104.out 1).trans rfl;have hcz11_2:w10.cell? ⟨gb104,2,none⟩=some (.int .i64 a0_2):=(qAB BK104.out 2).trans rfl;have hcz11_3:w10.cell? ⟨gb104,3,none⟩=some (.string a0_3):=(qAB BK104.out 3).trans rfl;have hcz11_4:w10.cell? ⟨gb104,4,none⟩=some (.slice A0_4 l0_4.length c0_4):=(qAB BK104.out 4).trans rfl;have hcz11_5:w10.cell? ⟨gb104,5,none⟩=some (.slice A0_5 l0_5.length c0_5):=(qAB BK104.out 5).trans rfl;have hfz11_0:=qAC BK104.out 0;have hfz11_1:=qAC BK104.out 1;have hfz11_2:=qAC BK104.out 2;have hfz11_3:=qAC BK104.out 3;have hfz11_4:=qAC BK104.out 4;have hfz11_5:=qAC BK104.out 5))
   go_ret
   exact ⟨by first | rfl | (simp [qAT,qAS] <;> rfl) | (simp [*,qAT,qAS] <;> rfl),by repeat (first | (with_reducible first | exact HB.out | apply qAE | apply qAD | apply qAF | refine qAQ ?_ GE104.out) | exact HB.out)⟩
  ·rw [if_neg c7] at H
   have c7b0:(a0_0.toList == ([]:List UInt8))=false:=beq_eq_false_iff_ne.mpr c7
   have c7b1:(a0_0.toList != ([]:List UInt8))=true:=bne_iff_ne.mpr c7
   by_cases c12:(a0_0.size:Int) > 32
   ·rw [if_pos c12] at H
    have c12b0:decide (32 < (a0_0.size:Int))=true:=decide_eq_true c12
    have c12b1:decide (32 < a0_0.size)=true:=decide_eq_true (by omega)
    clear c12
    obtain rfl:=Option.some.inj H
    simp only [Option.some.injEq,Prod.mk.injEq] at H
    obtain ⟨rfl⟩:=H
    go_enter Try.func49,Try.ntmps49
    go_wp2_with (first | ((with_reducible refine qAl (N:=1) rfl ?_);(try (refine qAw (by rfl) ?_;dsimp only));refine qAg ?hg (N:=1) ?hd (cs:=#[.string a0_0,.int .i64 a0_1,.int .i64 a0_2,.string a0_3,.slice A0_4 l0_4.length c0_4,.slice A0_5 l0_5.length c0_5]) (t:=51) ?hr ?_;(case hd=>rfl);(case hg=>rfl);(case hr=>first | (go_simp;done) | (go_simp;rfl));intro gb104 hg w13 hbox hb;have n0_:=qAA.mk (qAO (by repeat (first | (with_reducible first | exact HB.out | apply qAE | apply qAD | apply qAF) | exact HB.out)) hb);have n1_:=qAA.mk (hbox);have n2_:=qAA.mk ((by rw [hg];exact (qAV (by repeat (first | (with_reducible first | exact HB.out | apply qAE | apply qAD | apply qAF) | exact HB.out))):w.heap.size≤gb104));have n3_:=qAA.mk ((by rw [hg];exact (qAV (by repeat (first | (with_reducible first | exact HB.out | apply qAE | apply qAD | apply qAF) | exact HB.out))):w.heap.size≤gb104));clear HB;have HB:=n0_;have BK104:=n1_;have GW104:=n2_;have GE104:=n3_;clear n0_ n1_ n2_ n3_;clear hb hbox hg;have hcz14_0:w13.cell? ⟨gb104,0,none⟩=some (.string a0_0):=(qAB BK104.out 0).trans rfl;have hcz14_1:w13.cell? ⟨gb104,1,none⟩=some (.int .i64 a0_1):=(qAB BK104.out 1).trans rfl;have hcz14_2:w13.cell? ⟨gb104,2,none⟩=some (.int .i64 a0_2):=(qAB BK104.out 2).trans rfl;have hcz14_3:w13.cell? ⟨gb104,3,none⟩=some (.string a0_3):=(qAB BK104.out 3).trans rfl;have hcz14_4:w13.cell? ⟨gb104,4,none⟩=some (.slice A0_4 l0_4.length c0_4):=(qAB BK104.out 4).trans rfl;have hcz14_5:w13.cell? ⟨gb104,5,none⟩=some (.slice A0_5 l0_5.length c0_5):=(qAB BK104.out 5).trans rfl;have hfz14_0:=qAC BK104.out 0;have hfz14_1:=qAC BK104.out 1;have hfz14_2:=qAC BK104.out 2;have hfz14_3:=qAC BK104.out 3;have hfz14_4:=qAC BK104.out 4;have hfz14_5:=qAC BK104.out 5) | ((with_reducible refine qA2 (f:=65) rfl ?_);refine qB0 (some 6) rfl rfl Try.func65 (by kernel_rfl) rfl #[.agg #[.int .i64 a0_1,.int .i64 a0_2,.string a0_3,.slice A0_4 l0_4.length c0_4,.slice A0_5 l0_5.length c0_5]] rfl (by (try simp only [List.map_toArray,List.map_cons,List.map_nil]);first | done | rfl | (simp only [List.length_drop,List.length_take];rfl)) ?_;(with_reducible refine (qA8.calls k a0_1 a0_2 a0_3 _ _ l0_4 _ _ l0_5 t105 _ ?side1 ?side2 ?side3 ?side4 A2.out).mono ?_);(case side1=>repeat (first | exact (Kd.qAc HR0_4.out HB.out) | (with_reducible refine Kd.qAh ?_ _) | (with_reducible refine Kd.qAk ?_ _) | (with_reducible refine Kd.qAs ?_)));(case side2=>exact HC0_4.out);(case side3=>repeat (first | exact (Kd.qAc HR0_5.out HB.out) | (with_reducible refine Kd.qAh ?_ _) | (with_reducible refine Kd.qAk ?_ _) | (with_reducible refine Kd.qAs ?_)));(case side4=>exact HC0_5.out);rintro e w15 ⟨rfl,hb⟩;refine ⟨_,rfl, ?_⟩;have n0_:=qAA.mk (qAX (g:=gb104) (o:=.cells #[.string a0_0,.int .i64 a0_1,.int .i64 a0_2,.string a0_3,.slice A0_4 l0_4.length c0_4,.slice A0_5 l0_5.length c0_5] 51 (0,0)) (by (with_reducible repeat (first | refine qAa ?_ _ | refine qAL ?_ | refine qAP ?_ _));exact BK104.out) hb);have n1_:=qAA.mk (qAO (by repeat (first | (with_reducible first | exact HB.out | apply qAE | apply qAD | apply qAF | refine qAQ ?_ GE104.out) | exact HB.out)) hb);clear BK104;clear HB;have BK104:=n0_;have HB:=n1_;clear n0_ n1_;(try clear hb);(try clear hb2);(try clear hk);(try clear hi);have hcz16_0:w15.cell? ⟨gb104,0,none⟩=some (.string a0_0):=(qAB BK104.out 0).trans rfl;have hcz16_1:w15.cell? ⟨gb104,1,none⟩=some (.int .i64 a0_1):=(qAB BK104.out 1).trans rfl;have hcz16_2:w15.cell? ⟨gb104,2,none⟩=some (.int .i64 a0_2):=(qAB BK104.out 2).trans rfl;have hcz16_3:w15.cell? ⟨gb104,3,none⟩=some (.string a0_3):=(qAB BK104.out 3).trans rfl;have hcz16_4:w15.cell? ⟨gb104,4,none⟩=some (.slice A0_4 l0_4.length c0_4):=(qAB BK104.out 4).trans rfl;have hcz16_5:w15.cell? ⟨gb104,5,none⟩=some (.slice A0_5 l0_5.length c0_5):=(qAB BK104.out 5).trans rfl;have hfz16_0:=qAC BK104.out 0;have hfz16_1:=qAC BK104.out 1;have hfz16_2:=qAC BK104.out 2;have hfz16_3:=qAC BK104.out 3;have hfz16_4:=qAC BK104.out 4;have hfz16_5:=qAC BK104.out 5))
    go_ret
    exact ⟨by first | rfl | (simp [qAT,qAS] <;> rfl) | (simp [*,qAT,qAS] <;> rfl),by repeat (first | (with_reducible first | exact HB.out | apply qAE | apply qAD | apply qAF | refine qAQ ?_ GE104.out) | exact HB.out)⟩
   ·rw [if_neg c12] at H
    have c12b0:decide (32 < (a0_0.size:Int))=false:=decide_eq_false c12
    have c12b1:decide (32 < a0_0.size)=false:=decide_eq_false (by omega)
    clear c12
    obtain rfl:=Option.some.inj H
    simp only [Option.some.injEq,Prod.mk.injEq] at H
    obtain ⟨rfl⟩:=H
    go_enter Try.func49,Try.ntmps49
    go_wp2_with (first | ((with_reducible refine qAl (N:=1) rfl ?_);(try (refine qAw (by rfl) ?_;dsimp only));refine qAg ?hg (N:=1) ?hd (cs:=#[.string a0_0,.int .i64 a0_1,.int .i64 a0_2,.string a0_3,.slice A0_4 l0_4.length c0_4,.slice A0_5 l0_5.length c0_5]) (t:=51) ?hr ?_;(case hd=>rfl);(case hg=>rfl);(case hr=>first | (go_simp;done) | (go_simp;rfl));intro gb104 hg w17 hbox hb;have n0_:=qAA.mk (qAO (by repeat (first | (with_reducible first | exact HB.out | apply qAE | apply qAD | apply qAF) | exact HB.out)) hb);have n1_:=qAA.mk (hbox);have n2_:=qAA.mk ((by rw [hg];exact (qAV (by repeat (first | (with_reducible first | exact HB.out | apply qAE | apply qAD | apply qAF) | exact HB.out))):w.heap.size≤gb104));have n3_:=qAA.mk ((by rw [hg];exact (qAV (by repeat (first | (with_reducible first | exact HB.out | apply qAE | apply qAD | apply qAF) | exact HB.out))):w.heap.size≤gb104));clear HB;have HB:=n0_;have BK104:=n1_;have GW104:=n2_;have GE104:=n3_;clear n0_ n1_ n2_ n3_;clear hb hbox hg;have hcz18_0:w17.cell? ⟨gb104,0,none⟩=some (.string a0_0):=(qAB BK104.out 0).trans rfl;have hcz18_1:w17.cell? ⟨gb104,1,none⟩=some (.int .i64 a0_1):=(qAB BK104.out 1).trans rfl;have hcz18_2:w17.cell? ⟨gb104,2,none⟩=some (.int .i64 a0_2):=(qAB BK104.out 2).trans rfl;have hcz18_3:w17.cell? ⟨gb104,3,none⟩=some (.string a0_3):=(qAB BK104.out 3).trans rfl;have hcz18_4:w17.cell? ⟨gb104,4,none⟩=some (.slice A0_4 l0_4.length c0_4):=(qAB BK104.out 4).trans rfl;have hcz18_5:w17.cell? ⟨gb104,5,none⟩=some (.slice A0_5 l0_5.length c0_5):=(qAB BK104.out 5).trans rfl;have hfz18_0:=qAC BK104.out 0;have hfz18_1:=qAC BK104.out 1;have hfz18_2:=qAC BK104.out 2;have hfz18_3:=qAC BK104.out 3;have hfz18_4:=qAC BK104.out 4;have hfz18_5:=qAC BK104.out 5) | ((with_reducible refine qA2 (f:=65) rfl ?_);refine qB0 (some 6) rfl rfl Try.func65 (by kernel_rfl) rfl #[.agg #[.int .i64 a0_1,.int .i64 a0_2,.string a0_3,.slice A0_4 l0_4.length c0_4,.slice A0_5 l0_5.length c0_5]] rfl (by (try simp only [List.map_toArray,List.map_cons,List.map_nil]);first | done | rfl | (simp only [List.length_drop,List.length_take];rfl)) ?_;(with_reducible refine (qA8.calls k a0_1 a0_2 a0_3 _ _ l0_4 _ _ l0_5 t105 _ ?side1 ?side2 ?side3 ?side4 A2.out).mono ?_);(case side1=>repeat (first | exact (Kd.qAc HR0_4.out HB.out) | (with_reducible refine Kd.qAh ?_ _) | (with_reducible refine Kd.qAk ?_ _) | (with_reducible refine Kd.qAs ?_)));(case side2=>exact HC0_4.out);(case side3=>repeat (first | exact (Kd.qAc HR0_5.out HB.out) | (with_reducible refine Kd.qAh ?_ _) | (with_reducible refine Kd.qAk ?_ _) | (with_reducible refine Kd.qAs ?_)));(case side4=>exact HC0_5.out);rintro e w19 ⟨rfl,hb⟩;refine ⟨_,rfl, ?_⟩;have n0_:=qAA.mk (qAX (g:=gb104) (o:=.cells #[.string a0_0,.int .i64 a0_1,.int .i64 a0_2,.string a0_3,.slice A0_4 l0_4.length c0_4,.slice A0_5 l0_5.length c0_5] 51 (0,0)) (by (with_reducible repeat (first | refine qAa ?_ _ | refine qAL ?_ | refine qAP ?_ _));exact BK104.out) hb);have n1_:=qAA.mk (qAO (by repeat (first | (with_reducible first | exact HB.out | apply qAE | apply qAD | apply qAF | refine qAQ ?_ GE104.out) | exact HB.out)) hb);clear BK104;clear HB;have BK104:=n0_;have HB:=n1_;clear n0_ n1_;(try clear hb);(try clear hb2);(try clear hk);(try clear hi);have hcz20_0:w19.cell? ⟨gb104,0,none⟩=some (.string a0_0):=(qAB BK104.out 0).trans rfl;have hcz20_1:w19.cell? ⟨gb104,1,none⟩=some (.int .i64 a0_1):=(qAB BK104.out 1).trans rfl;have hcz20_2:w19.cell? ⟨gb104,2,none⟩=some (.int .i64 a0_2):=(qAB BK104.out 2).trans rfl;have hcz20_3:w19.cell? ⟨gb104,3,none⟩=some (.string a0_3):=(qAB BK104.out 3).trans rfl;have hcz20_4:w19.cell? ⟨gb104,4,none⟩=some (.slice A0_4 l0_4.length c0_4):=(qAB BK104.out 4).trans rfl;have hcz20_5:w19.cell? ⟨gb104,5,none⟩=some (.slice A0_5 l0_5.length c0_5):=(qAB BK104.out 5).trans rfl;have hfz20_0:=qAC BK104.out 0;have hfz20_1:=qAC BK104.out 1;have hfz20_2:=qAC BK104.out 2;have hfz20_3:=qAC BK104.out 3;have hfz20_4:=qAC BK104.out 4;have hfz20_5:=qAC BK104.out 5))
    go_ret
    exact ⟨by first | rfl | (simp [qAT,qAS] <;> rfl) | (simp [*,qAT,qAS] <;> rfl),by repeat (first | (with_reducible first | exact HB.out | apply qAE | apply qAD | apply qAF | refine qAQ ?_ GE104.out) | exact HB.out)⟩
mutual
def qAi.l0:Nat→List (S51)→Int→List (S51)→Int→Int→Option (Bool)
 | 0,_,_,_,_,_=>none
 | k+1,x0,x3,x7,x8,x9=>if x9 < x8 then (if 0≤x9 then (if x9 < (x7.length:Int) then ((qBF.f k ((qAJ x7 x9).f0) ((qAJ x7 x9).f1.f0) ((qAJ x7 x9).f1.f1) ((qAJ x7 x9).f1.f2) ((qAJ x7 x9).f1.f3) ((qAJ x7 x9).f1.f4)).bind fun t108=>(if t108=0 then (qAi.j1 k x0 x3 t108 x7 x8 x9 true) else (if x9 > 0 then (if 0≤(wrap64 (x9 - 1)) then (if (wrap64 (x9 - 1)) < (x0.length:Int) then (qAi.j1 k x0 x3 t108 x7 x8 x9 (!(Op.bytesLess (((qAJ x0 (wrap64 (x9 - 1))).f0).toList) (((qAJ x7 x9).f0).toList)))) else (none)) else (none)) else (qAi.j1 k x0 x3 t108 x7 x8 x9 false)))) else (none)) else (none)) else (some (decide ((x0.length:Int)≤128)))
def qAi.j1:Nat→List (S51)→Int→Int→List (S51)→Int→Int→Bool→Option (Bool)
 | 0,_,_,_,_,_,_,_=>none
 | k+1,x0,x3,x6,x7,x8,x9,x32=>if x32=true then (some false) else (if (wrap64 (x3+x6)) > 32768 then (some false) else (qAi.l0 k x0 (wrap64 (x3+x6)) x7 x8 (wrap64 (x9+1))))
end
def qAi.f (k:Nat) (l0:List (S51)):Option (Bool):=qAi.l0 k l0 0 l0 (l0.length:Int) 0
set_option maxHeartbeats 8000000 in
set_option maxRecDepth 100000 in
theorem qAi.calls (k:Nat) (A0:Option Addr) (c0:Nat) (l0:List (S51)) (r:Bool) (w:World) (hr0:Kd.C k51 w A0 l0.length l0) (hc0:l0.length≤c0) (h:qAi.f k l0=some r) :
  Calls Try.prog 25 #[.slice A0 l0.length c0] w fun e w'=>e=.returned (.bool r)∧Below w.heap.size w w':=by
 have hu51:=Try.underlying51
 have HR0:=qAA.mk hr0
 have HC0:=qAA.mk hc0
 clear hr0 hc0
 have HB:=qAA.mk (Below.refl w.heap.size w)
 have H:(qAi.l0 k l0 0 l0 (l0.length:Int) 0)=some r:=h
 clear h
 have H':=qAA.mk H
 clear H
 go_enter Try.func25,Try.ntmps25
 go_wp2
 repeat (go_quiet (fail);try go_wp2)
 go_loopg [3,9] k (fun kq v3 v9 w'=>∃ (x3_1:Int) (x9_1:Int),v3=.int .i64 x3_1∧v9=.int .i64 x9_1∧qAA (qAi.l0 kq l0 x3_1 l0 (l0.length:Int) x9_1=some r)∧qAA (kq≤k)∧qAA (Below w.heap.size w w'))
 case atStart=>exact ⟨(0),(0),(by first | rfl | (simp;done) | (simp [*];done)),(by first | rfl | (simp;done) | (simp [*];done)),H',⟨Nat.le_refl _⟩,⟨by repeat (first | (with_reducible first | exact HB.out | apply qAE | apply qAD | apply qAF) | exact HB.out)⟩⟩
 case round =>
  clear H'
  obtain ⟨x3_1,x9_1,rfl,rfl,HA,HK1,HB⟩:=hrel
  cases gk with
  | zero=>exact absurd HA.out (by simp [qAi.l0])
  | succ k1 =>
   have H:=HA.out
   clear HA
   simp only [qAi.l0] at H
   by_cases c2:x9_1 < (l0.length:Int)
   ·rw [if_pos c2] at H
    have c2b0:decide (x9_1 < (l0.length:Int))=true:=decide_eq_true c2
    clear c2
    by_cases c3:0≤x9_1
    ·rw [if_pos c3] at H
     have c3b0:decide (0≤x9_1)=true:=decide_eq_true c3
     clear c3
     by_cases c4:x9_1 < (l0.length:Int)
     ·rw [if_pos c4] at H
      have c4b0:decide (x9_1 < (l0.length:Int))=true:=decide_eq_true c4
      clear c4
      replace H:=Option.bind_eq_some_iff.mp H
      obtain ⟨t108,A50,H⟩:=H
      replace H:(if t108=0 then (qAi.j1 k1 l0 x3_1 t108 l0 (l0.length:Int) x9_1 true) else (if x9_1 > 0 then (if 0≤(wrap64 (x9_1 - 1)) then (if (wrap64 (x9_1 - 1)) < (l0.length:Int) then (qAi.j1 k1 l0 x3_1 t108 l0 (l0.length:Int) x9_1 (!(Op.bytesLess (((qAJ l0 (wrap64 (x9_1 - 1))).f0).toList) (((qAJ l0 x9_1).f0).toList)))) else (none)) else (none)) else (qAi.j1 k1 l0 x3_1 t108 l0 (l0.length:Int) x9_1 false)))=some r:=H
      have A5:=qAA.mk A50
      clear A50
      have HC6:=qAA.mk H
      clear H
      have p106:0≤(x9_1:Int):=of_decide_eq_true (by first | (with_reducible assumption) | assumption)
      have q106:x9_1 < (l0.length:Int):=of_decide_eq_true (by first | (with_reducible assumption) | assumption)
      obtain ⟨ad106,A106_4,c106_4,A106_5,c106_5,e106,hx106_0,hx106_1,hx106_2,hx106_3,hx106_4,hx106_5,hl106_4,hi106_4,hl106_5,hi106_5⟩:=qCI HR0.out x9_1 p106 q106
      cases e106
      replace hx106_0:=(HB.out.cell (qs4 w _ hx106_0)).trans hx106_0
      replace hx106_1:=(HB.out.cell (qs4 w _ hx106_1)).trans hx106_1
      replace hx106_2:=(HB.out.cell (qs4 w _ hx106_2)).trans hx106_2
      replace hx106_3:=(HB.out.cell (qs4 w _ hx106_3)).trans hx106_3
      replace hx106_4:=(HB.out.cell (qs4 w _ hx106_4)).trans hx106_4
      replace hx106_5:=(HB.out.cell (qs4 w _ hx106_5)).trans hx106_5
      have HR106_4:=qAA.mk hi106_4
      have HC106_4:=qAA.mk hl106_4
      clear hi106_4 hl106_4
      have HR106_5:=qAA.mk hi106_5
      have HC106_5:=qAA.mk hl106_5
      clear hi106_5 hl106_5
      replace p106:=eq_true p106
      replace q106:=eq_true q106
      go_upto_region 6 with (first | ((with_reducible refine qAl (N:=5) rfl ?_);refine qAg ?hg (N:=5) ?hd (cs:=#[.string (⟨#[]⟩:ByteArray),.int .i64 0,.int .i64 0,.string (⟨#[]⟩:ByteArray),.slice none 0 0,.slice none 0 0]) (t:=51) ?hr ?_;(case hd=>rfl);(case hg=>rfl);(case hr=>first | (go_simp;done) | (go_simp;rfl));intro gb107 hg w7 hbox hb;have n0_:=qAA.mk (qAO (by repeat (first | (with_reducible first | exact HB.out | apply qAE | apply qAD | apply qAF) | exact HB.out)) hb);have n1_:=qAA.mk (hbox);have n2_:=qAA.mk ((by rw [hg];exact (qAV (by repeat (first | (with_reducible first | exact HB.out | apply qAE | apply qAD | apply qAF) | exact HB.out))):w.heap.size≤gb107));have n3_:=qAA.mk ((by rw [hg];exact (qAV (by repeat (first | (with_reducible first | exact HB.out | apply qAE | apply qAD | apply qAF) | exact HB.out))):w.heap.size≤gb107));clear HB;have HB:=n0_;have BK107:=n1_;have GW107:=n2_;have GE107:=n3_;clear n0_ n1_ n2_ n3_;clear hb hbox hg;have hcz8_0:w7.cell? ⟨gb107,0,none⟩=some (.string (⟨#[]⟩:ByteArray)):=(qAB BK107.out 0).trans rfl;have hcz8_1:w7.cell? ⟨gb107,1,none⟩=some (.int .i64 0):=(qAB BK107.out 1).trans rfl;have hcz8_2:w7.cell? ⟨gb107,2,none⟩=some (.int .i64 0):=(qAB BK107.out 2).trans rfl;have hcz8_3:w7.cell? ⟨gb107,3,none⟩=some (.string (⟨#[]⟩:ByteArray)):=(qAB BK107.out 3).trans rfl;have hcz8_4:w7.cell? ⟨gb107,4,none⟩=some (.slice none 0 0):=(qAB BK107.out 4).trans rfl;have hcz8_5:w7.cell? ⟨gb107,5,none⟩=some (.slice none 0 0):=(qAB BK107.out 5).trans rfl;have hfz8_0:=qAC BK107.out 0;have hfz8_1:=qAC BK107.out 1;have hfz8_2:=qAC BK107.out 2;have hfz8_3:=qAC BK107.out 3;have hfz8_4:=qAC BK107.out 4;have hfz8_5:=qAC BK107.out 5) | (go_at_call 49;(with_reducible refine (qBF.calls k1 ((qAJ l0 x9_1).f0) ((qAJ l0 x9_1).f1.f0) ((qAJ l0 x9_1).f1.f1) ((qAJ l0 x9_1).f1.f2) _ _ ((qAJ l0 x9_1).f1.f3) _ _ ((qAJ l0 x9_1).f1.f4) t108 _ ?side1 ?side2 ?side3 ?side4 A5.out).mono ?_);(case side1=>exact Kd.qAc HR106_4.out (by repeat (first | (with_reducible first | exact HB.out | apply qAE | apply qAD | apply qAF | refine qAQ ?_ GE107.out) | exact HB.out)));(case side2=>exact HC106_4.out);(case side3=>exact Kd.qAc HR106_5.out (by repeat (first | (with_reducible first | exact HB.out | apply qAE | apply qAD | apply qAF | refine qAQ ?_ GE107.out) | exact HB.out)));(case side4=>exact HC106_5.out);rintro e w9 ⟨rfl,hb⟩;have n0_:=qAA.mk (qAX (g:=gb107) (o:=.cells #[.string ((qAJ l0 x9_1).f0),.int .i64 ((qAJ l0 x9_1).f1.f0),.int .i64 ((qAJ l0 x9_1).f1.f1),.string ((qAJ l0 x9_1).f1.f2),.slice A106_4 ((qAJ l0 x9_1).f1.f3).length c106_4,.slice A106_5 ((qAJ l0 x9_1).f1.f4).length c106_5] 51 (0,0)) (by (with_reducible repeat (first | refine qAa ?_ _ | refine qAL ?_ | refine qAP ?_ _));refine qAy (cs:=#[.string ((qAJ l0 x9_1).f0),.int .i64 ((qAJ l0 x9_1).f1.f0),.int .i64 ((qAJ l0 x9_1).f1.f1),.string ((qAJ l0 x9_1).f1.f2),.slice A106_4 ((qAJ l0 x9_1).f1.f3).length c106_4,.slice none 0 0]) ?_ 5 _ rfl;(with_reducible repeat (first | refine qAa ?_ _ | refine qAL ?_ | refine qAP ?_ _));refine qAy (cs:=#[.string ((qAJ l0 x9_1).f0),.int .i64 ((qAJ l0 x9_1).f1.f0),.int .i64 ((qAJ l0 x9_1).f1.f1),.string ((qAJ l0 x9_1).f1.f2),.slice none 0 0,.slice none 0 0]) ?_ 4 _ rfl;(with_reducible repeat (first | refine qAa ?_ _ | refine qAL ?_ | refine qAP ?_ _));refine qAy (cs:=#[.string ((qAJ l0 x9_1).f0),.int .i64 ((qAJ l0 x9_1).f1.f0),.int .i64 ((qAJ l0 x9_1).f1.f1),.string (⟨#[]⟩:ByteArray),.slice none 0 0,.slice none 0 0]) ?_ 3 _ rfl;(with_reducible repeat (first | refine qAa ?_ _ | refine qAL ?_ | refine qAP ?_ _));refine qAy (cs:=#[.string ((qAJ l0 x9_1).f0),.int .i64 ((qAJ l0 x9_1).f1.f0),.int .i64 0,.string (⟨#[]⟩:ByteArray),.slice none 0 0,.slice none 0 0]) ?_ 2 _ rfl;(with_reducible repeat (first | refine qAa ?_ _ | refine qAL ?_ | refine qAP ?_ _));refine qAy (cs:=#[.string ((qAJ l0 x9_1).f0),.int .i64 0,.int .i64 0,.string (⟨#[]⟩:ByteArray),.slice none 0 0,.slice none 0 0]) ?_ 1 _ rfl;(with_reducible repeat (first | refine qAa ?_ _ | refine qAL ?_ | refine qAP ?_ _));refine qAy (cs:=#[.string (⟨#[]⟩:ByteArray),.int .i64 0,.int .i64 0,.string (⟨#[]⟩:ByteArray),.slice none 0 0,.slice none 0 0]) ?_ 0 _ rfl;(with_reducible repeat (first | refine qAa ?_ _ | refine qAL ?_ | refine qAP ?_ _));exact BK107.out) hb);have n1_:=qAA.mk (qAO (by repeat (first | (with_reducible first | exact HB.out | apply qAE | apply qAD | apply qAF | refine qAQ ?_ GE107.out) | exact HB.out)) hb);clear BK107;clear HB;have BK107:=n0_;have HB:=n1_;clear n0_ n1_;(try clear hb);(try clear hb2);(try clear hk);(try clear hi)))
      repeat (go_quiet (first | ((with_reducible refine qAl (N:=5) rfl ?_);refine qAg ?hg (N:=5) ?hd (cs:=#[.string (⟨#[]⟩:ByteArray),.int .i64 0,.int .i64 0,.string (⟨#[]⟩:ByteArray),.slice none 0 0,.slice none 0 0]) (t:=51) ?hr ?_;(case hd=>rfl);(case hg=>rfl);(case hr=>first | (go_simp;done) | (go_simp;rfl));intro gb107 hg w7 hbox hb;have n0_:=qAA.mk (qAO (by repeat (first | (with_reducible first | exact HB.out | apply qAE | apply qAD | apply qAF) | exact HB.out)) hb);have n1_:=qAA.mk (hbox);have n2_:=qAA.mk ((by rw [hg];exact (qAV (by repeat (first | (with_reducible first | exact HB.out | apply qAE | apply qAD | apply qAF) | exact HB.out))):w.heap.size≤gb107));have n3_:=qAA.mk ((by rw [hg];exact (qAV (by repeat (first | (with_reducible first | exact HB.out | apply qAE | apply qAD | apply qAF) | exact HB.out))):w.heap.size≤gb107));clear HB;have HB:=n0_;have BK107:=n1_;have GW107:=n2_;have GE107:=n3_;clear n0_ n1_ n2_ n3_;clear hb hbox hg;have hcz8_0:w7.cell? ⟨gb107,0,none⟩=some (.string (⟨#[]⟩:ByteArray)):=(qAB BK107.out 0).trans rfl;have hcz8_1:w7.cell? ⟨gb107,1,none⟩=some (.int .i64 0):=(qAB BK107.out 1).trans rfl;have hcz8_2:w7.cell? ⟨gb107,2,none⟩=some (.int .i64 0):=(qAB BK107.out 2).trans rfl;have hcz8_3:w7.cell? ⟨gb107,3,none⟩=some (.string (⟨#[]⟩:ByteArray)):=(qAB BK107.out 3).trans rfl;have hcz8_4:w7.cell? ⟨gb107,4,none⟩=some (.slice none 0 0):=(qAB BK107.out 4).trans rfl;have hcz8_5:w7.cell? ⟨gb107,5,none⟩=some (.slice none 0 0):=(qAB BK107.out 5).trans rfl;have hfz8_0:=qAC BK107.out 0;have hfz8_1:=qAC BK107.out 1;have hfz8_2:=qAC BK107.out 2;have hfz8_3:=qAC BK107.out 3;have hfz8_4:=qAC BK107.out 4;have hfz8_5:=qAC BK107.out 5) | (go_at_call 49;(with_reducible refine (qBF.calls k1 ((qAJ l0 x9_1).f0) ((qAJ l0 x9_1).f1.f0) ((qAJ l0 x9_1).f1.f1) ((qAJ l0 x9_1).f1.f2) _ _ ((qAJ l0 x9_1).f1.f3) _ _ ((qAJ l0 x9_1).f1.f4) t108 _ ?side1 ?side2 ?side3 ?side4 A5.out).mono ?_);(case side1=>exact Kd.qAc HR106_4.out (by repeat (first | (with_reducible first | exact HB.out | apply qAE | apply qAD | apply qAF | refine qAQ ?_ GE107.out) | exact HB.out)));(case side2=>exact HC106_4.out);(case side3=>exact Kd.qAc HR106_5.out (by repeat (first | (with_reducible first | exact HB.out | apply qAE | apply qAD | apply qAF | refine qAQ ?_ GE107.out) | exact HB.out)));(case side4=>exact HC106_5.out);rintro e w9 ⟨rfl,hb⟩;have n0_:=qAA.mk (qAX (g:=gb107) (o:=.cells #[.string ((qAJ l0 x9_1).f0),.int .i64 ((qAJ l0 x9_1).f1.f0),.int .i64 ((qAJ l0 x9_1).f1.f1),.string ((qAJ l0 x9_1).f1.f2),.slice A106_4 ((qAJ l0 x9_1).f1.f3).length c106_4,.slice A106_5 ((qAJ l0 x9_1).f1.f4).length c106_5] 51 (0,0)) (by (with_reducible repeat (first | refine qAa ?_ _ | refine qAL ?_ | refine qAP ?_ _));refine qAy (cs:=#[.string ((qAJ l0 x9_1).f0),.int .i64 ((qAJ l0 x9_1).f1.f0),.int .i64 ((qAJ l0 x9_1).f1.f1),.string ((qAJ l0 x9_1).f1.f2),.slice A106_4 ((qAJ l0 x9_1).f1.f3).length c106_4,.slice none 0 0]) ?_ 5 _ rfl;(with_reducible repeat (first | refine qAa ?_ _ | refine qAL ?_ | refine qAP ?_ _));refine qAy (cs:=#[.string ((qAJ l0 x9_1).f0),.int .i64 ((qAJ l0 x9_1).f1.f0),.int .i64 ((qAJ l0 x9_1).f1.f1),.string ((qAJ l0 x9_1).f1.f2),.slice none 0 0,.slice none 0 0]) ?_ 4 _ rfl;(with_reducible repeat (first | refine qAa ?_ _ | refine qAL ?_ | refine qAP ?_ _));refine qAy (cs:=#[.string ((qAJ l0 x9_1).f0),.int .i64 ((qAJ l0 x9_1).f1.f0),.int .i64 ((qAJ l0 x9_1).f1.f1),.string (⟨#[]⟩:ByteArray),.slice none 0 0,.slice none 0 0]) ?_ 3 _ rfl;(with_reducible repeat (first | refine qAa ?_ _ | refine qAL ?_ | refine qAP ?_ _));refine qAy (cs:=#[.string ((qAJ l0 x9_1).f0),.int .i64 ((qAJ l0 x9_1).f1.f0),.int .i64 0,.string (⟨#[]⟩:ByteArray),.slice none 0 0,.slice none 0 0]) ?_ 2 _ rfl;(with_reducible repeat (first | refine qAa ?_ _ | refine qAL ?_ | refine qAP ?_ _));refine qAy (cs:=#[.string ((qAJ l0 x9_1).f0),.int .i64 0,.int .i64 0,.string (⟨#[]⟩:ByteArray),.slice none 0 0,.slice none 0 0]) ?_ 1 _ rfl;(with_reducible repeat (first | refine qAa ?_ _ | refine qAL ?_ | refine qAP ?_ _));refine qAy (cs:=#[.string (⟨#[]⟩:ByteArray),.int .i64 0,.int .i64 0,.string (⟨#[]⟩:ByteArray),.slice none 0 0,.slice none 0 0]) ?_ 0 _ rfl;(with_reducible repeat (first | refine qAa ?_ _ | refine qAL ?_ | refine qAP ?_ _));exact BK107.out) hb);have n1_:=qAA.mk (qAO (by repeat (first | (with_reducible first | exact HB.out | apply qAE | apply qAD | apply qAF | refine qAQ ?_ GE107.out) | exact HB.out)) hb);clear BK107;clear HB;have BK107:=n0_;have HB:=n1_;clear n0_ n1_;(try clear hb);(try clear hb2);(try clear hk);(try clear hi)));go_upto_region 6 with (first | ((with_reducible refine qAl (N:=5) rfl ?_);refine qAg ?hg (N:=5) ?hd (cs:=#[.string (⟨#[]⟩:ByteArray),.int .i64 0,.int .i64 0,.string (⟨#[]⟩:ByteArray),.slice none 0 0,.slice none 0 0]) (t:=51) ?hr ?_;(case hd=>rfl);(case hg=>rfl);(case hr=>first | (go_simp;done) | (go_simp;rfl));intro gb107 hg w7 hbox hb;have n0_:=qAA.mk (qAO (by repeat (first | (with_reducible first | exact HB.out | apply qAE | apply qAD | apply qAF) | exact HB.out)) hb);have n1_:=qAA.mk (hbox);have n2_:=qAA.mk ((by rw [hg];exact (qAV (by repeat (first | (with_reducible first | exact HB.out | apply qAE | apply qAD | apply qAF) | exact HB.out))):w.heap.size≤gb107));have n3_:=qAA.mk ((by rw [hg];exact (qAV (by repeat (first | (with_reducible first | exact HB.out | apply qAE | apply qAD | apply qAF) | exact HB.out))):w.heap.size≤gb107));clear HB;have HB:=n0_;have BK107:=n1_;have GW107:=n2_;have GE107:=n3_;clear n0_ n1_ n2_ n3_;clear hb hbox hg;have hcz8_0:w7.cell? ⟨gb107,0,none⟩=some (.string (⟨#[]⟩:ByteArray)):=(qAB BK107.out 0).trans rfl;have hcz8_1:w7.cell? ⟨gb107,1,none⟩=some (.int .i64 0):=(qAB BK107.out 1).trans rfl;have hcz8_2:w7.cell? ⟨gb107,2,none⟩=some (.int .i64 0):=(qAB BK107.out 2).trans rfl;have hcz8_3:w7.cell? ⟨gb107,3,none⟩=some (.string (⟨#[]⟩:ByteArray)):=(qAB BK107.out 3).trans rfl;have hcz8_4:w7.cell? ⟨gb107,4,none⟩=some (.slice none 0 0):=(qAB BK107.out 4).trans rfl;have hcz8_5:w7.cell? ⟨gb107,5,none⟩=some (.slice none 0 0):=(qAB BK107.out 5).trans rfl;have hfz8_0:=qAC BK107.out 0;have hfz8_1:=qAC BK107.out 1;have hfz8_2:=qAC BK107.out 2;have hfz8_3:=qAC BK107.out 3;have hfz8_4:=qAC BK107.out 4;have hfz8_5:=qAC BK107.out 5) | (go_at_call 49;(with_reducible refine (qBF.calls k1 ((qAJ l0 x9_1).f0) ((qAJ l0 x9_1).f1.f0) ((qAJ l0 x9_1).f1.f1) ((qAJ l0 x9_1).f1.f2) _ _ ((qAJ l0 x9_1).f1.f3) _ _ ((qAJ l0 x9_1).f1.f4) t108 _ ?side1 ?side2 ?side3 ?side4 A5.out).mono ?_);(case side1=>exact Kd.qAc HR106_4.out (by repeat (first | (with_reducible first | exact HB.out | apply qAE | apply qAD | apply qAF | refine qAQ ?_ GE107.out) | exact HB.out)));(case side2=>exact HC106_4.out);(case side3=>exact Kd.qAc HR106_5.out (by repeat (first | (with_reducible first | exact HB.out | apply qAE | apply qAD | apply qAF | refine qAQ ?_ GE107.out) | exact HB.out)));(case side4=>exact HC106_5.out);rintro e w9 ⟨rfl,hb⟩;have n0_:=qAA.mk (qAX (g:=gb107) (o:=.cells #[.string ((qAJ l0 x9_1).f0),.int .i64 ((qAJ l0 x9_1).f1.f0),.int .i64 ((qAJ l0 x9_1).f1.f1),.string ((qAJ l0 x9_1).f1.f2),.slice A106_4 ((qAJ l0 x9_1).f1.f3).length c106_4,.slice A106_5 ((qAJ l0 x9_1).f1.f4).length c106_5] 51 (0,0)) (by (with_reducible repeat (first | refine qAa ?_ _ | refine qAL ?_ | refine qAP ?_ _));refine qAy (cs:=#[.string ((qAJ l0 x9_1).f0),.int .i64 ((qAJ l0 x9_1).f1.f0),.int .i64 ((qAJ l0 x9_1).f1.f1),.string ((qAJ l0 x9_1).f1.f2),.slice A106_4 ((qAJ l0 x9_1).f1.f3).length c106_4,.slice none 0 0]) ?_ 5 _ rfl;(with_reducible repeat (first | refine qAa ?_ _ | refine qAL ?_ | refine qAP ?_ _));refine qAy (cs:=#[.string ((qAJ l0 x9_1).f0),.int .i64 ((qAJ l0 x9_1).f1.f0),.int .i64 ((qAJ l0 x9_1).f1.f1),.string ((qAJ l0 x9_1).f1.f2),.slice none 0 0,.slice none 0 0]) ?_ 4 _ rfl;(with_reducible repeat (first | refine qAa ?_ _ | refine qAL ?_ | refine qAP ?_ _));refine qAy (cs:=#[.string ((qAJ l0 x9_1).f0),.int .i64 ((qAJ l0 x9_1).f1.f0),.int .i64 ((qAJ l0 x9_1).f1.f1),.string (⟨#[]⟩:ByteArray),.slice none 0 0,.slice none 0 0]) ?_ 3 _ rfl;(with_reducible repeat (first | refine qAa ?_ _ | refine qAL ?_ | refine qAP ?_ _));refine qAy (cs:=#[.string ((qAJ l0 x9_1).f0),.int .i64 ((qAJ l0 x9_1).f1.f0),.int .i64 0,.string (⟨#[]⟩:ByteArray),.slice none 0 0,.slice none 0 0]) ?_ 2 _ rfl;(with_reducible repeat (first | refine qAa ?_ _ | refine qAL ?_ | refine qAP ?_ _));refine qAy (cs:=#[.string ((qAJ l0 x9_1).f0),.int .i64 0,.int .i64 0,.string (⟨#[]⟩:ByteArray),.slice none 0 0,.slice none 0 0]) ?_ 1 _ rfl;(with_reducible repeat (first | refine qAa ?_ _ | refine qAL ?_ | refine qAP ?_ _));refine qAy (cs:=#[.string (⟨#[]⟩:ByteArray),.int .i64 0,.int .i64 0,.string (⟨#[]⟩:ByteArray),.slice none 0 0,.slice none 0 0]) ?_ 0 _ rfl;(with_reducible repeat (first | refine qAa ?_ _ | refine qAL ?_ | refine qAP ?_ _));exact BK107.out) hb);have n1_:=qAA.mk (qAO (by repeat (first | (with_reducible first | exact HB.out | apply qAE | apply qAD | apply qAF | refine qAQ ?_ GE107.out) | exact HB.out)) hb);clear BK107;clear HB;have BK107:=n0_;have HB:=n1_;clear n0_ n1_;(try clear hb);(try clear hb2);(try clear hk);(try clear hi))))
      (try simp only [Act.put,qs1,qs2,qs3])
      go_cut [32] (fun v32 wc=>∃ (kq:Nat) (x32_5:Bool),v32=.bool x32_5∧qAA (qAi.j1 kq l0 x3_1 t108 l0 (l0.length:Int) x9_1 x32_5=some r)∧qAA (kq≤k1)∧qAA (wc.heap[gb107]?=some (.cells #[.string ((qAJ l0 x9_1).f0),.int .i64 ((qAJ l0 x9_1).f1.f0),.int .i64 ((qAJ l0 x9_1).f1.f1),.string ((qAJ l0 x9_1).f1.f2),(.slice A106_4 ((qAJ l0 x9_1).f1.f3).length c106_4),(.slice A106_5 ((qAJ l0 x9_1).f1.f4).length c106_5)] 51 (0,0)))∧qAA (Below w.heap.size w wc))
      case first =>
       have H:=HC6.out
       clear HC6
       by_cases c10:t108=0
       ·rw [if_pos c10] at H
        have c10b0:(t108 == 0)=true:=beq_iff_eq.mpr c10
        have c10b1:(t108 != 0)=false:=bne_eq_false_iff_eq.mpr c10
        clear c10
        (first | rw [c10b0] | (simp only [qAZ,qAb];rw [c10b0]) | rw [c10b1] | (simp only [qAZ,qAb];rw [c10b1]) | skip)
        have H':=qAA.mk H
        clear H
        go_wp2
        repeat (go_quiet (fail);try go_wp2)
        go_meet
        case rel=>exact ⟨_,(true),(by first | rfl | (simp;done) | (simp [*];done)),H',⟨by have:=HK1.out;first | omega | exact Nat.le_refl _⟩,⟨by (with_reducible repeat (first | refine qAa ?_ _ | refine qAL ?_ | refine qAP ?_ _));exact BK107.out⟩,⟨by repeat (first | (with_reducible first | exact HB.out | apply qAE | apply qAD | apply qAF | refine qAQ ?_ GE107.out) | exact HB.out)⟩⟩
       ·rw [if_neg c10] at H
        have c10b0:(t108 == 0)=false:=beq_eq_false_iff_ne.mpr c10
        have c10b1:(t108 != 0)=true:=bne_iff_ne.mpr c10
        (first | rw [c10b0] | (simp only [qAZ,qAb];rw [c10b0]) | rw [c10b1] | (simp only [qAZ,qAb];rw [c10b1]) | skip)
        by_cases c11:x9_1 > 0
        ·rw [if_pos c11] at H
         have c11b0:decide (0 < x9_1)=true:=decide_eq_true c11
         clear c11
         obtain ⟨ji12,hji12⟩:∃ j_:Int,(wrap64 (x9_1 - 1))=j_:=⟨_,rfl⟩
         replace H:(if 0≤(ji12) then (if (ji12) < (l0.length:Int) then (qAi.j1 k1 l0 x3_1 t108 l0 (l0.length:Int) x9_1 (!(Op.bytesLess (((qAJ l0 (ji12)).f0).toList) (((qAJ l0 x9_1).f0).toList)))) else (none)) else (none))=some r:=by first | (rw [hji12] at H;exact H) | (simp only [hji12] at H ⊢;exact H)
         have hji12w:(IntKind.i64.wrap (x9_1 - 1))=ji12:=(qAZ _).trans hji12
         by_cases c13:0≤(ji12)
         ·rw [if_pos c13] at H
          have c13b0:decide (0≤(ji12))=true:=decide_eq_true c13
          clear c13
          by_cases c14:(ji12) < (l0.length:Int)
          ·rw [if_pos c14] at H
           have c14b0:decide ((ji12) < (l0.length:Int))=true:=decide_eq_true c14
           clear c14
           have H':=qAA.mk H
           clear H
           have p109:0≤((ji12):Int):=of_decide_eq_true (by first | (with_reducible assumption) | assumption)
           have q109:(ji12) < (l0.length:Int):=of_decide_eq_true (by first | (with_reducible assumption) | assumption)
           obtain ⟨ad109,A109_4,c109_4,A109_5,c109_5,e109,hx109_0,hx109_1,hx109_2,hx109_3,hx109_4,hx109_5,hl109_4,hi109_4,hl109_5,hi109_5⟩:=qCI HR0.out (ji12) p109 q109
           obtain rfl:ad106=ad109:=(by injection e109)
           replace hx109_0:=(HB.out.cell (qs4 w _ hx109_0)).trans hx109_0
           replace hx109_1:=(HB.out.cell (qs4 w _ hx109_1)).trans hx109_1
           replace hx109_2:=(HB.out.cell (qs4 w _ hx109_2)).trans hx109_2
           replace hx109_3:=(HB.out.cell (qs4 w _ hx109_3)).trans hx109_3
           replace hx109_4:=(HB.out.cell (qs4 w _ hx109_4)).trans hx109_4
           replace hx109_5:=(HB.out.cell (qs4 w _ hx109_5)).trans hx109_5
           have HR109_4:=qAA.mk hi109_4
           have HC109_4:=qAA.mk hl109_4
           clear hi109_4 hl109_4
           have HR109_5:=qAA.mk hi109_5
           have HC109_5:=qAA.mk hl109_5
           clear hi109_5 hl109_5
           replace p109:=eq_true p109
           replace q109:=eq_true q109
           have hcz15_0:w9.cell? ⟨gb107,0,none⟩=some (.string ((qAJ l0 x9_1).f0)):=(qAB BK107.out 0).trans rfl
           have hcz15_1:w9.cell? ⟨gb107,1,none⟩=some (.int .i64 ((qAJ l0 x9_1).f1.f0)):=(qAB BK107.out 1).trans rfl
           have hcz15_2:w9.cell? ⟨gb107,2,none⟩=some (.int .i64 ((qAJ l0 x9_1).f1.f1)):=(qAB BK107.out 2).trans rfl
           have hcz15_3:w9.cell? ⟨gb107,3,none⟩=some (.string ((qAJ l0 x9_1).f1.f2)):=(qAB BK107.out 3).trans rfl
           have hcz15_4:w9.cell? ⟨gb107,4,none⟩=some (.slice A106_4 ((qAJ l0 x9_1).f1.f3).length c106_4):=(qAB BK107.out 4).trans rfl
           have hcz15_5:w9.cell? ⟨gb107,5,none⟩=some (.slice A106_5 ((qAJ l0 x9_1).f1.f4).length c106_5):=(qAB BK107.out 5).trans rfl
           have hfz15_0:=qAC BK107.out 0
           have hfz15_1:=qAC BK107.out 1
           have hfz15_2:=qAC BK107.out 2
           have hfz15_3:=qAC BK107.out 3
           have hfz15_4:=qAC BK107.out 4
           have hfz15_5:=qAC BK107.out 5
           go_wp2
           repeat (go_quiet (fail);try go_wp2)
           go_meet
           case rel=>exact ⟨_,(!(Op.bytesLess (((qAJ l0 (ji12)).f0).toList) (((qAJ l0 x9_1).f0).toList))),(by first | rfl | (simp;done) | (simp only [← hji12] <;> (first | rfl | simp)) | (simp [*];done)),H',⟨by have:=HK1.out;first | omega | exact Nat.le_refl _⟩,⟨by (with_reducible repeat (first | refine qAa ?_ _ | refine qAL ?_ | refine qAP ?_ _));exact BK107.out⟩,⟨by repeat (first | (with_reducible first | exact HB.out | apply qAE | apply qAD | apply qAF | refine qAQ ?_ GE107.out) | exact HB.out)⟩⟩
          ·rw [if_neg c14] at H
           exact absurd H (by simp)
         ·rw [if_neg c13] at H
          exact absurd H (by simp)
        ·rw [if_neg c11] at H
         have c11b0:decide (0 < x9_1)=false:=decide_eq_false c11
         clear c11
         have H':=qAA.mk H
         clear H
         go_wp2
         repeat (go_quiet (fail);try go_wp2)
         go_meet
         case rel=>exact ⟨_,(false),(by first | rfl | (simp;done) | (simp [*];done)),H',⟨by have:=HK1.out;first | omega | exact Nat.le_refl _⟩,⟨by (with_reducible repeat (first | refine qAa ?_ _ | refine qAL ?_ | refine qAP ?_ _));exact BK107.out⟩,⟨by repeat (first | (with_reducible first | exact HB.out | apply qAE | apply qAD | apply qAF | refine qAQ ?_ GE107.out) | exact HB.out)⟩⟩
      case rest =>
       clear HC6
       try clear c1
       try clear p1
       try clear q1
       try clear hx1
       try clear c2
       try clear c2b0
       try clear p2
       try clear c3
       try clear c3b0
       try clear c4
       try clear c4b0
       try clear p6
       try clear c10
       try clear c10b0
       try clear c10b1
       try clear p10
       try clear q10
       try clear hx10
       try clear c11
       try clear c11b0
       try clear c13
       try clear c13b0
       try clear c14
       try clear c14b0
       try clear hcz15_0
       try clear hcz15_1
       try clear hcz15_2
       try clear hcz15_3
       try clear hcz15_4
       try clear hcz15_5
       try clear hcz8_0
       try clear hcz8_1
       try clear hcz8_2
       try clear hcz8_3
       try clear hcz8_4
       try clear hcz8_5
       try clear hfz15_0
       try clear hfz15_1
       try clear hfz15_2
       try clear hfz15_3
       try clear hfz15_4
       try clear hfz15_5
       try clear hfz8_0
       try clear hfz8_1
       try clear hfz8_2
       try clear hfz8_3
       try clear hfz8_4
       try clear hfz8_5
       try clear hx106_0
       try clear hx106_1
       try clear hx106_2
       try clear hx106_3
       try clear hx106_4
       try clear hx106_5
       try clear hx109_0
       try clear hx109_1
       try clear hx109_2
       try clear hx109_3
       try clear hx109_4
       try clear hx109_5
       try clear p106
       try clear p109
       try clear q106
       try clear q109
       obtain ⟨kq,x32_5,rfl,HA,HJ5,BK107,HB⟩:=hcut
       cases kq with
       | zero=>exact absurd HA.out (by simp [qAi.j1])
       | succ kj5 =>
        have H:=HA.out
        clear HA
        simp only [qAi.j1] at H
        by_cases c16:x32_5=true
        ·subst c16
         have H1:(some false)=some r:=by rw [if_pos rfl] at H;exact H
         clear H
         have H:=H1
         clear H1
         obtain rfl:=Option.some.inj H
         simp only [Option.some.injEq,Prod.mk.injEq] at H
         obtain ⟨rfl⟩:=H
         go_wp2
         repeat (go_quiet (fail);try go_wp2)
         go_ret
         exact ⟨by first | rfl | (simp [qAT,qAS] <;> rfl) | (simp [*,qAT,qAS] <;> rfl),by repeat (first | (with_reducible first | exact HB.out | apply qAE | apply qAD | apply qAF | refine qAQ ?_ GE107.out) | exact HB.out)⟩
        ·replace c16:=Bool.eq_false_iff.mpr c16
         subst c16
         have H1:(if (wrap64 (x3_1+t108)) > 32768 then (some false) else (qAi.l0 kj5 l0 (wrap64 (x3_1+t108)) l0 (l0.length:Int) (wrap64 (x9_1+1))))=some r:=by rw [if_neg (show ¬ (false=true) by decide)] at H;exact H
         clear H
         have H:=H1
         clear H1
         by_cases c17:(wrap64 (x3_1+t108)) > 32768
         ·rw [if_pos c17] at H
          have c17b0:decide (32768 < (wrap64 (x3_1+t108)))=true:=decide_eq_true c17
          clear c17
          obtain rfl:=Option.some.inj H
          simp only [Option.some.injEq,Prod.mk.injEq] at H
          obtain ⟨rfl⟩:=H
          go_wp2
          repeat (go_quiet (fail);try go_wp2)
          go_ret
          exact ⟨by first | rfl | (simp [qAT,qAS] <;> rfl) | (simp [*,qAT,qAS] <;> rfl),by repeat (first | (with_reducible first | exact HB.out | apply qAE | apply qAD | apply qAF | refine qAQ ?_ GE107.out) | exact HB.out)⟩
         ·rw [if_neg c17] at H
          have c17b0:decide (32768 < (wrap64 (x3_1+t108)))=false:=decide_eq_false c17
          clear c17
          have H':=qAA.mk H
          clear H
          go_wp2
          repeat (go_quiet (fail);try go_wp2)
          go_roundg kj5
          case measure=>have:=HK1.out;have:=HJ5.out;omega
          case rel=>exact ⟨(wrap64 (x3_1+t108)),(wrap64 (x9_1+1)),(by first | rfl | (simp;done) | (simp [*];done)),(by first | rfl | (simp;done) | (simp [*];done)),H',⟨by have:=HK1.out;have:=HJ5.out;omega⟩,⟨by repeat (first | (with_reducible first | exact HB.out | apply qAE | apply qAD | apply qAF | refine qAQ ?_ GE107.out) | exact HB.out)⟩⟩
     ·rw [if_neg c4] at H
      exact absurd H (by simp)
    ·rw [if_neg c3] at H
     exact absurd H (by simp)
   ·rw [if_neg c2] at H
    have c2b0:decide (x9_1 < (l0.length:Int))=false:=decide_eq_false c2
    clear c2
    obtain rfl:=Option.some.inj H
    simp only [Option.some.injEq,Prod.mk.injEq] at H
    obtain ⟨rfl⟩:=H
    go_wp2
    repeat (go_quiet (fail);try go_wp2)
    go_ret
    exact ⟨by first | rfl | (simp [qAT,qAS] <;> rfl) | (simp [*,qAT,qAS] <;> rfl),by repeat (first | (with_reducible first | exact HB.out | apply qAE | apply qAD | apply qAF) | exact HB.out)⟩
end Go.Proofs.Ytdommiicjpjfpaa.X
