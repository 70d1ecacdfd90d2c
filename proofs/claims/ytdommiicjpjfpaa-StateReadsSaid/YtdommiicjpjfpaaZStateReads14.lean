import Derived.Test.YtdommiicjpjfpaaZStateReads3
set_option linter.unusedVariables false
set_option linter.unusedSimpArgs false
namespace Go.Proofs.Ytdommiicjpjfpaa.X
open Go.RowKit Go.Proofs.YtdommiicjpjfpaaW.PrintWords Go.Proofs.YtdommiicjpjfpaaW.PrintLast Go.Proofs.YtdommiicjpjfpaaW.PrintMore Go.Proofs.YtdommiicjpjfpaaW
attribute [local go_sem] qBE qBD qBV qBU qA6 qA5 qBJ qBI
def qA4.f (a0_0:Int) (a0_1:Int) (a0_2:ByteArray) (l0_3:List (S34)) (l0_4:List ByteArray):Option (Bool):=if a0_0=0 then (if a0_1=0 then (if a0_2.toList=([]:List UInt8) then (if (l0_3.length:Int)=0 then (some ((l0_4.length:Int) == 0)) else (some false)) else (some false)) else (some false)) else (if a0_0=1 then (if a0_1=0 then (if a0_2.toList=([]:List UInt8) then (if (l0_3.length:Int)=0 then (some ((l0_4.length:Int) == 0)) else (some false)) else (some false)) else (if a0_1=1 then (if a0_2.toList=([]:List UInt8) then (if (l0_3.length:Int)=0 then (some ((l0_4.length:Int) == 0)) else (some false)) else (some false)) else (some false))) else (if a0_0=2 then (if a0_2.toList=([]:List UInt8) then (if (l0_3.length:Int)=0 then (some ((l0_4.length:Int) == 0)) else (some false)) else (some false)) else (if a0_0=3 then (if a0_1=0 then (if (l0_3.length:Int)=0 then (some ((l0_4.length:Int) == 0)) else (some false)) else (some false)) else (if a0_0=4 then (if a0_1=0 then (if a0_2.toList=([]:List UInt8) then (some ((l0_4.length:Int) == 0)) else (some false)) else (some false)) else (if a0_0=5 then (if a0_1=0 then (if a0_2.toList=([]:List UInt8) then (some ((l0_4.length:Int) == (l0_3.length:Int))) else (some false)) else (some false)) else (some false))))))
set_option maxHeartbeats 8000000 in
set_option maxRecDepth 100000 in
theorem qA4.calls (a0_0:Int) (a0_1:Int) (a0_2:ByteArray) (A0_3:Option Addr) (c0_3:Nat) (l0_3:List (S34)) (A0_4:Option Addr) (c0_4:Nat) (l0_4:List ByteArray) (r:Bool) (w:World) (hr0_3:Kd.C k34 w A0_3 l0_3.length l0_3) (hc0_3:l0_3.length≤c0_3) (hr0_4:Kd.C Kd.string w A0_4 l0_4.length l0_4) (hc0_4:l0_4.length≤c0_4) (h:qA4.f a0_0 a0_1 a0_2 l0_3 l0_4=some r) :
  Calls Try.prog 71 #[.agg #[.int .i64 a0_0,.int .i64 a0_1,.string a0_2,.slice A0_3 l0_3.length c0_3,.slice A0_4 l0_4.length c0_4]] w fun e w'=>e=.returned (.bool r)∧Below w.heap.size w w':=by
 have hu34:=Try.underlying34
 have HR0_3:=qAA.mk hr0_3
 have HC0_3:=qAA.mk hc0_3
 clear hr0_3 hc0_3
 have HR0_4:=qAA.mk hr0_4
 have HC0_4:=qAA.mk hc0_4
 clear hr0_4 hc0_4
 have HB:=qAA.mk (Below.refl w.heap.size w)
 have H:(if a0_0=0 then (if a0_1=0 then (if a0_2.toList=([]:List UInt8) then (if (l0_3.length:Int)=0 then (some ((l0_4.length:Int) == 0)) else (some false)) else (some false)) else (some false)) else (if a0_0=1 then (if a0_1=0 then (if a0_2.toList=([]:List UInt8) then (if (l0_3.length:Int)=0 then (some ((l0_4.length:Int) == 0)) else (some false)) else (some false)) else (if a0_1=1 then (if a0_2.toList=([]:List UInt8) then (if (l0_3.length:Int)=0 then (some ((l0_4.length:Int) == 0)) else (some false)) else (some false)) else (some false))) else (if a0_0=2 then (if a0_2.toList=([]:List UInt8) then (if (l0_3.length:Int)=0 then (some ((l0_4.length:Int) == 0)) else (some false)) else (some false)) else (if a0_0=3 then (if a0_1=0 then (if (l0_3.length:Int)=0 then (some ((l0_4.length:Int) == 0)) else (some false)) else (some false)) else (if a0_0=4 then (if a0_1=0 then (if a0_2.toList=([]:List UInt8) then (some ((l0_4.length:Int) == 0)) else (some false)) else (some false)) else (if a0_0=5 then (if a0_1=0 then (if a0_2.toList=([]:List UInt8) then (some ((l0_4.length:Int) == (l0_3.length:Int))) else (some false)) else (some false)) else (some false)))))))=some r:=h
 clear h
 by_cases c2:a0_0=0
 ·rw [if_pos c2] at H
  have c2b0:(a0_0 == 0)=true:=beq_iff_eq.mpr c2
  have c2b1:(a0_0 != 0)=false:=bne_eq_false_iff_eq.mpr c2
  clear c2
  by_cases c3:a0_1=0
  ·rw [if_pos c3] at H
   have c3b0:(a0_1 == 0)=true:=beq_iff_eq.mpr c3
   have c3b1:(a0_1 != 0)=false:=bne_eq_false_iff_eq.mpr c3
   clear c3
   by_cases c4:a0_2.toList=([]:List UInt8)
   ·rw [if_pos c4] at H
    have c4b0:(a0_2.toList == ([]:List UInt8))=true:=beq_iff_eq.mpr c4
    have c4b1:(a0_2.toList != ([]:List UInt8))=false:=bne_eq_false_iff_eq.mpr c4
    clear c4
    by_cases c5:(l0_3.length:Int)=0
    ·rw [if_pos c5] at H
     have c5b0:((l0_3.length:Int) == 0)=true:=beq_iff_eq.mpr c5
     have c5b1:((l0_3.length:Int) != 0)=false:=bne_eq_false_iff_eq.mpr c5
     clear c5
     obtain rfl:=Option.some.inj H
     simp only [Option.some.injEq,Prod.mk.injEq] at H
     obtain ⟨rfl⟩:=H
     go_enter Try.func71,Try.ntmps71
     go_wp2_with (first | ((with_reducible refine qAl (N:=1) rfl ?_);(try (refine qAw (by rfl) ?_;dsimp only));refine qAg ?hg (N:=1) ?hd (cs:=#[.int .i64 a0_0,.int .i64 a0_1,.string a0_2,.slice A0_3 l0_3.length c0_3,.slice A0_4 l0_4.length c0_4]) (t:=34) ?hr ?_;(case hd=>rfl);(case hg=>rfl);(case hr=>first | (go_simp;done) | (go_simp;rfl));intro gb171 hg w6 hbox hb;have n0_:=qAA.mk (qAO (by repeat (first | (with_reducible first | exact HB.out | apply qAE | apply qAD | apply qAF) | exact HB.out)) hb);have n1_:=qAA.mk (hbox);have n2_:=qAA.mk ((by rw [hg];exact (qAV (by repeat (first | (with_reducible first | exact HB.out | apply qAE | apply qAD | apply qAF) | exact HB.out))):w.heap.size≤gb171));have n3_:=qAA.mk ((by rw [hg];exact (qAV (by repeat (first | (with_reducible first | exact HB.out | apply qAE | apply qAD | apply qAF) | exact HB.out))):w.heap.size≤gb171));clear HB;have HB:=n0_;have BK171:=n1_;have GW171:=n2_;have GE171:=n3_;clear n0_ n1_ n2_ n3_;clear hb hbox hg;have hcz7_0:w6.cell? ⟨gb171,0,none⟩=some (.int .i64 a0_0):=(qAB BK171.out 0).trans rfl;have hcz7_1:w6.cell? ⟨gb171,1,none⟩=some (.int .i64 a0_1):=(qAB BK171.out 1).trans rfl;have hcz7_2:w6.cell? ⟨gb171,2,none⟩=some (.string a0_2):=(qAB BK171.out 2).trans rfl;have hcz7_3:w6.cell? ⟨gb171,3,none⟩=some (.slice A0_3 l0_3.length c0_3):=(qAB BK171.out 3).trans rfl;have hcz7_4:w6.cell? ⟨gb171,4,none⟩=some (.slice A0_4 l0_4.length c0_4):=(qAB BK171.out 4).trans rfl;have hfz7_0:=qAC BK171.out 0;have hfz7_1:=qAC BK171.out 1;have hfz7_2:=qAC BK171.out 2;have hfz7_3:=qAC BK171.out 3;have hfz7_4:=qAC BK171.out 4))
     go_ret
     exact ⟨by first | rfl | (simp [qAT,qAS] <;> rfl) | (simp [*,qAT,qAS] <;> rfl),by repeat (first | (with_reducible first | exact HB.out | apply qAE | apply qAD | apply qAF | refine qAQ ?_ GE171.out) | exact HB.out)⟩
    ·rw [if_neg c5] at H
     have c5b0:((l0_3.length:Int) == 0)=false:=beq_eq_false_iff_ne.mpr c5
     have c5b1:((l0_3.length:Int) != 0)=true:=bne_iff_ne.mpr c5
     have c5b2:¬ (l0_3=[]):=fun h_=>c5 (by rw [h_];rfl)
     obtain rfl:=Option.some.inj H
     simp only [Option.some.injEq,Prod.mk.injEq] at H
     obtain ⟨rfl⟩:=H
     go_enter Try.func71,Try.ntmps71
     go_wp2_with (first | ((with_reducible refine qAl (N:=1) rfl ?_);(try (refine qAw (by rfl) ?_;dsimp only));refine qAg ?hg (N:=1) ?hd (cs:=#[.int .i64 a0_0,.int .i64 a0_1,.string a0_2,.slice A0_3 l0_3.length c0_3,.slice A0_4 l0_4.length c0_4]) (t:=34) ?hr ?_;(case hd=>rfl);(case hg=>rfl);(case hr=>first | (go_simp;done) | (go_simp;rfl));intro gb171 hg w8 hbox hb;have n0_:=qAA.mk (qAO (by repeat (first | (with_reducible first | exact HB.out | apply qAE | apply qAD | apply qAF) | exact HB.out)) hb);have n1_:=qAA.mk (hbox);have n2_:=qAA.mk ((by rw [hg];exact (qAV (by repeat (first | (with_reducible first | exact HB.out | apply qAE | apply qAD | apply qAF) | exact HB.out))):w.heap.size≤gb171));have n3_:=qAA.mk ((by rw [hg];exact (qAV (by repeat (first | (with_reducible first | exact HB.out | apply qAE | apply qAD | apply qAF) | exact HB.out))):w.heap.size≤gb171));clear HB;have HB:=n0_;have BK171:=n1_;have GW171:=n2_;have GE171:=n3_;clear n0_ n1_ n2_ n3_;clear hb hbox hg;have hcz9_0:w8.cell? ⟨gb171,0,none⟩=some (.int .i64 a0_0):=(qAB BK171.out 0).trans rfl;have hcz9_1:w8.cell? ⟨gb171,1,none⟩=some (.int .i64 a0_1):=(qAB BK171.out 1).trans rfl;have hcz9_2:w8.cell? ⟨gb171,2,none⟩=some (.string a0_2):=(qAB BK171.out 2).trans rfl;have hcz9_3:w8.cell? ⟨gb171,3,none⟩=some (.slice A0_3 l0_3.length c0_3):=(qAB BK171.out 3).trans rfl;have hcz9_4:w8.cell? ⟨gb171,4,none⟩=some (.slice A0_4 l0_4.length c0_4):=(qAB BK171.out 4).trans rfl;have hfz9_0:=qAC BK171.out 0;have hfz9_1:=qAC BK171.out 1;have hfz9_2:=qAC BK171.out 2;have hfz9_3:=qAC BK171.out 3;have hfz9_4:=qAC BK171.out 4))
     go_ret
     exact ⟨by first | rfl | (simp [qAT,qAS] <;> rfl) | (simp [*,qAT,qAS] <;> rfl),by repeat (first | (with_reducible first | exact HB.out | apply qAE | apply qAD | apply qAF | refine qAQ ?_ GE171.out) | exact HB.out)⟩
   ·rw [if_neg c4] at H
    have c4b0:(a0_2.toList == ([]:List UInt8))=false:=beq_eq_false_iff_ne.mpr c4
    have c4b1:(a0_2.toList != ([]:List UInt8))=true:=bne_iff_ne.mpr c4
    obtain rfl:=Option.some.inj H
    simp only [Option.some.injEq,Prod.mk.injEq] at H
    obtain ⟨rfl⟩:=H
    go_enter Try.func71,Try.ntmps71
    go_wp2_with (first | ((with_reducible refine qAl (N:=1) rfl ?_);(try (refine qAw (by rfl) ?_;dsimp only));refine qAg ?hg (N:=1) ?hd (cs:=#[.int .i64 a0_0,.int .i64 a0_1,.string a0_2,.slice A0_3 l0_3.length c0_3,.slice A0_4 l0_4.length c0_4]) (t:=34) ?hr ?_;(case hd=>rfl);(case hg=>rfl);(case hr=>first | (go_simp;done) | (go_simp;rfl));intro gb171 hg w10 hbox hb;have n0_:=qAA.mk (qAO (by repeat (first | (with_reducible first | exact HB.out | apply qAE | apply qAD | apply qAF) | exact HB.out)) hb);have n1_:=qAA.mk (hbox);have n2_:=qAA.mk ((by rw [hg];exact (qAV (by repeat (first | (with_reducible first | exact HB.out | apply qAE | apply qAD | apply qAF) | exact HB.out))):w.heap.size≤gb171));have n3_:=qAA.mk ((by rw [hg];exact (qAV (by repeat (first | (with_reducible first | exact HB.out | apply qAE | apply qAD | apply qAF) | exact HB.out))):w.heap.size≤gb171));clear HB;have HB:=n0_;have BK171:=n1_;have GW171:=n2_;have GE171:=n3_;clear n0_ n1_ n2_ n3_;clear hb hbox hg;have hcz11_0:w10.cell? ⟨gb171,0,none⟩=some (.int .i64 a0_0):=(qAB BK171.out 0).trans rfl;have hcz11_1:w10.cell? ⟨gb171,1,none⟩=some (.int .i64 a0_1):=(qAB BK171.out 1).trans rfl;have hcz11_2:w10.cell? ⟨gb171,2,none⟩=some (.string a0_2):=(qAB BK171.out 2).trans rfl;have hcz11_3:w10.cell? ⟨gb171,3,none⟩=some (.slice A0_3 l0_3.length c0_3):=(qAB BK171.out 3).trans rfl;have hcz11_4:w10.cell? ⟨gb171,4,none⟩=some (.slice A0_4 l0_4.length c0_4):=(qAB BK171.out 4).trans rfl;have hfz11_0:=qAC BK171.out 0;have hfz11_1:=qAC BK171.out 1;have hfz11_2:=qAC BK171.out 2;have hfz11_3:=qAC BK171.out 3;have hfz11_4:=qAC BK171.out 4))
    go_ret
    exact ⟨by first | rfl | (simp [qAT,qAS] <;> rfl) | (simp [*,qAT,qAS] <;> rfl),by repeat (first | (with_reducible first | exact HB.out | apply qAE | apply qAD | apply qAF | refine qAQ ?_ GE171.out) | exact HB.out)⟩
  ·rw [if_neg c3] at H
   have c3b0:(a0_1 == 0)=false:=beq_eq_false_iff_ne.mpr c3
   have c3b1:(a0_1 != 0)=true:=bne_iff_ne.mpr c3
   obtain rfl:=Option.some.inj H
   simp only [Option.some.injEq,Prod.mk.injEq] at H
   obtain ⟨rfl⟩:=H
   go_enter Try.func71,Try.ntmps71
   go_wp2_with (first | ((with_reducible refine qAl (N:=1) rfl ?_);(try (refine qAw (by rfl) ?_;dsimp only));refine qAg ?hg (N:=1) ?hd (cs:=#[.int .i64 a0_0,.int .i64 a0_1,.string a0_2,.slice A0_3 l0_3.length c0_3,.slice A0_4 l0_4.length c0_4]) (t:=34) ?hr ?_;(case hd=>rfl);(case hg=>rfl);(case hr=>first | (go_simp;done) | (go_simp;rfl));intro gb171 hg w12 hbox hb;have n0_:=qAA.mk (qAO (by repeat (first | (with_reducible first | exact HB.out | apply qAE | apply qAD | apply qAF) | exact HB.out)) hb);have n1_:=qAA.mk (hbox);have n2_:=qAA.mk ((by rw [hg];exact (qAV (by repeat (first | (with_reducible first | exact HB.out | apply qAE | apply qAD | apply qAF) | exact HB.out))):w.heap.size≤gb171));have n3_:=qAA.mk ((by rw [hg];exact (qAV (by repeat (first | (with_reducible first | exact HB.out | apply qAE | apply qAD | apply qAF) | exact HB.out))):w.heap.size≤gb171));clear HB;have HB:=n0_;have BK171:=n1_;have GW171:=n2_;have GE171:=n3_;clear n0_ n1_ n2_ n3_;clear hb hbox hg;have hcz13_0:w12.cell? ⟨gb171,0,none⟩=some (.int .i64 a0_0):=(qAB BK171.out 0).trans rfl;have hcz13_1:w12.cell? ⟨gb171,1,none⟩=some (.int .i64 a0_1):=(qAB BK171.out 1).trans rfl;have hcz13_2:w12.cell? ⟨gb171,2,none⟩=some (.string a0_2):=(qAB BK171.out 2).trans rfl;have hcz13_3:w12.cell? ⟨gb171,3,none⟩=some (.slice A0_3 l0_3.length c0_3):=(qAB BK171.out 3).trans rfl;have hcz13_4:w12.cell? ⟨gb171,4,none⟩=some (.slice A0_4 l0_4.length c0_4):=(qAB BK171.out 4).trans rfl;have hfz13_0:=qAC BK171.out 0;have hfz13_1:=qAC BK171.out 1;have hfz13_2:=qAC BK171.out 2;have hfz13_3:=qAC BK171.out 3;have hfz13_4:=qAC BK171.out 4))
   go_ret
   exact ⟨by first | rfl | (simp [qAT,qAS] <;> rfl) | (simp [*,qAT,qAS] <;> rfl),by repeat (first | (with_reducible first | exact HB.out | apply qAE | apply qAD | apply qAF | refine qAQ ?_ GE171.out) | exact HB.out)⟩
 ·rw [if_neg c2] at H
  have c2b0:(a0_0 == 0)=false:=beq_eq_false_iff_ne.mpr c2
  have c2b1:(a0_0 != 0)=true:=bne_iff_ne.mpr c2
  by_cases c14:a0_0=1
  ·rw [if_pos c14] at H
   have c14b0:(a0_0 == 1)=true:=beq_iff_eq.mpr c14
   have c14b1:(a0_0 != 1)=false:=bne_eq_false_iff_eq.mpr c14
   clear c14
   by_cases c15:a0_1=0
   ·rw [if_pos c15] at H
    have c15b0:(a0_1 == 0)=true:=beq_iff_eq.mpr c15
    have c15b1:(a0_1 != 0)=false:=bne_eq_false_iff_eq.mpr c15
    clear c15
    by_cases c16:a0_2.toList=([]:List UInt8)
    ·rw [if_pos c16] at H
     have c16b0:(a0_2.toList == ([]:List UInt8))=true:=beq_iff_eq.mpr c16
     have c16b1:(a0_2.toList != ([]:List UInt8))=false:=bne_eq_false_iff_eq.mpr c16
     clear c16
     by_cases c17:(l0_3.length:Int)=0
     ·rw [if_pos c17] at H
      have c17b0:((l0_3.length:Int) == 0)=true:=beq_iff_eq.mpr c17
      have c17b1:((l0_3.length:Int) != 0)=false:=bne_eq_false_iff_eq.mpr c17
      clear c17
      obtain rfl:=Option.some.inj H
      simp only [Option.some.injEq,Prod.mk.injEq] at H
      obtain ⟨rfl⟩:=H
      go_enter Try.func71,Try.ntmps71
      go_wp2_with (first | ((with_reducible refine qAl (N:=1) rfl ?_);(try (refine qAw (by rfl) ?_;dsimp only));refine qAg ?hg (N:=1) ?hd (cs:=#[.int .i64 a0_0,.int .i64 a0_1,.string a0_2,.slice A0_3 l0_3.length c0_3,.slice A0_4 l0_4.length c0_4]) (t:=34) ?hr ?_;(case hd=>rfl);(case hg=>rfl);(case hr=>first | (go_simp;done) | (go_simp;rfl));intro gb171 hg w18 hbox hb;have n0_:=qAA.mk (qAO (by repeat (first | (with_reducible first | exact HB.out | apply qAE | apply qAD | apply qAF) | exact HB.out)) hb);have n1_:=qAA.mk (hbox);have n2_:=qAA.mk ((by rw [hg];exact (qAV (by repeat (first | (with_reducible first | exact HB.out | apply qAE | apply qAD | apply qAF) | exact HB.out))):w.heap.size≤gb171));have n3_:=qAA.mk ((by rw [hg];exact (qAV (by repeat (first | (with_reducible first | exact HB.out | apply qAE | apply qAD | apply qAF) | exact HB.out))):w.heap.size≤gb171));clear HB;have HB:=n0_;have BK171:=n1_;have GW171:=n2_;have GE171:=n3_;clear n0_ n1_ n2_ n3_;clear hb hbox hg;have hcz19_0:w18.cell? ⟨gb171,0,none⟩=some (.int .i64 a0_0):=(qAB BK171.out 0).trans rfl;have hcz19_1:w18.cell? ⟨gb171,1,none⟩=some (.int .i64 a0_1):=(qAB BK171.out 1).trans rfl;have hcz19_2:w18.cell? ⟨gb171,2,none⟩=some (.string a0_2):=(qAB BK171.out 2).trans rfl;have hcz19_3:w18.cell? ⟨gb171,3,none⟩=some (.slice A0_3 l0_3.length c0_3):=(qAB BK171.out 3).trans rfl;have hcz19_4:w18.cell? ⟨gb171,4,none⟩=some (.slice A0_4 l0_4.length c0_4):=(qAB BK171.out 4).trans rfl;have hfz19_0:=qAC BK171.out 0;have hfz19_1:=qAC BK171.out 1;have hfz19_2:=qAC BK171.out 2;have hfz19_3:=qAC BK171.out 3;have hfz19_4:=qAC BK171.out 4))
      go_ret
      exact ⟨by first | rfl | (simp [qAT,qAS] <;> rfl) | (simp [*,qAT,qAS] <;> rfl),by repeat (first | (with_reducible first | exact HB.out | apply qAE | apply qAD | apply qAF | refine qAQ ?_ GE171.out) | exact HB.out)⟩
     ·rw [if_neg c17] at H
      have c17b0:((l0_3.length:Int) == 0)=false:=beq_eq_false_iff_ne.mpr c17
      have c17b1:((l0_3.length:Int) != 0)=true:=bne_iff_ne.mpr c17
      have c17b2:¬ (l0_3=[]):=fun h_=>c17 (by rw [h_];rfl)
      obtain rfl:=Option.some.inj H
      simp only [Option.some.injEq,Prod.mk.injEq] at H
      obtain ⟨rfl⟩:=H
      go_enter Try.func71,Try.ntmps71
      go_wp2_with (first | ((with_reducible refine qAl (N:=1) rfl ?_);(try (refine qAw (by rfl) ?_;dsimp only));refine qAg ?hg (N:=1) ?hd (cs:=#[.int .i64 a0_0,.int .i64 a0_1,.string a0_2,.slice A0_3 l0_3.length c0_3,.slice A0_4 l0_4.length c0_4]) (t:=34) ?hr ?_;(case hd=>rfl);(case hg=>rfl);(case hr=>first | (go_simp;done) | (go_simp;rfl));intro gb171 hg w20 hbox hb;have n0_:=qAA.mk (qAO (by repeat (first | (with_reducible first | exact HB.out | apply qAE | apply qAD | apply qAF) | exact HB.out)) hb);have n1_:=qAA.mk (hbox);have n2_:=qAA.mk ((by rw [hg];exact (qAV (by repeat (first | (with_reducible first | exact HB.out | apply qAE | apply qAD | apply qAF) | exact HB.out))):w.heap.size≤gb171));have n3_:=qAA.mk ((by rw [hg];exact (qAV (by repeat (first | (with_reducible first | exact HB.out | apply qAE | apply qAD | apply qAF) | exact HB.out))):w.heap.size≤gb171));clear HB;have HB:=n0_;have BK171:=n1_;have GW171:=n2_;have GE171:=n3_;clear n0_ n1_ n2_ n3_;clear hb hbox hg;have hcz21_0:w20.cell? ⟨gb171,0,none⟩=some (.int .i64 a0_0):=(qAB BK171.out 0).trans rfl;have hcz21_1:w20.cell? ⟨gb171,1,none⟩=some (.int .i64 a0_1):=(qAB BK171.out 1).trans rfl;have hcz21_2:w20.cell? ⟨gb171,2,none⟩=some (.string a0_2):=(qAB BK171.out 2).trans rfl;have hcz21_3:w20.cell? ⟨gb171,3,none⟩=some (.slice A0_3 l0_3.length c0_3):=(qAB BK171.out 3).trans rfl;have hcz21_4:w20.cell? ⟨gb171,4,none⟩=some (.slice A0_4 l0_4.length c0_4):=(qAB BK171.out 4).trans rfl;have hfz21_0:=qAC BK171.out 0;have hfz21_1:=qAC BK171.out 1;have hfz21_2:=qAC BK171.out 2;have hfz21_3:=qAC BK171.out 3;have hfz21_4:=qAC BK171.out 4))
      go_ret
      exact ⟨by first | rfl | (simp [qAT,qAS] <;> rfl) | (simp [*,qAT,qAS] <;> rfl),by repeat (first | (with_reducible first | exact HB.out | apply qAE | apply qAD | apply qAF | refine qAQ ?_ GE171.out) | exact HB.out)⟩
    ·rw [if_neg c16] at H
     have c16b0:(a0_2.toList == ([]:List UInt8))=false:=beq_eq_false_iff_ne.mpr c16
     have c16b1:(a0_2.toList != ([]:List UInt8))=true:=bne_iff_ne.mpr c16
     obtain rfl:=Option.some.inj H
     simp only [Option.some.injEq,Prod.mk.injEq] at H
     obtain ⟨rfl⟩:=H
     go_enter Try.func71,Try.ntmps71
     go_wp2_with (first | ((with_reducible refine qAl (N:=1) rfl ?_);(try (refine qAw (by rfl) ?_;dsimp only));refine qAg ?hg (N:=1) ?hd (cs:=#[.int .i64 a0_0,.int .i64 a0_1,.string a0_2,.slice A0_3 l0_3.length c0_3,.slice A0_4 l0_4.length c0_4]) (t:=34) ?hr ?_;(case hd=>rfl);(case hg=>rfl);(case hr=>first | (go_simp;done) | (go_simp;rfl));intro gb171 hg w22 hbox hb;have n0_:=qAA.mk (qAO (by repeat (first | (with_reducible first | exact HB.out | apply qAE | apply qAD | apply qAF) | exact HB.out)) hb);have n1_:=qAA.mk (hbox);have n2_:=qAA.mk ((by rw [hg];exact (qAV (by repeat (first | (with_reducible first | exact HB.out | apply qAE | apply qAD | apply qAF) | exact HB.out))):w.heap.size≤gb171));have n3_:=qAA.mk ((by rw [hg];exact (qAV (by repeat (first | (with_reducible first | exact HB.out | apply qAE | apply qAD | apply qAF) | exact HB.out))):w.heap.size≤gb171));clear HB;have HB:=n0_;have BK171:=n1_;have GW171:=n2_;have GE171:=n3_;clear n0_ n1_ n2_ n3_;clear hb hbox hg;have hcz23_0:w22.cell? ⟨gb171,0,none⟩=some (.int .i64 a0_0):=(qAB BK171.out 0).trans rfl;have hcz23_1:w22.cell? ⟨gb171,1,none⟩=some (.int .i64 a0_1):=(qAB BK171.out 1).trans rfl;have hcz23_2:w22.cell? ⟨gb171,2,none⟩=some (.string a0_2):=(qAB BK171.out 2).trans rfl;have hcz23_3:w22.cell? ⟨gb171,3,none⟩=some (.slice A0_3 l0_3.length c0_3):=(qAB BK171.out 3).trans rfl;have hcz23_4:w22.cell? ⟨gb171,4,none⟩=some (.slice A0_4 l0_4.length c0_4):=(qAB BK171.out 4).trans rfl;have hfz23_0:=qAC BK171.out 0;have hfz23_1:=qAC BK171.out 1;have hfz23_2:=qAC BK171.out 2;have hfz23_3:=qAC BK171.out 3;have hfz23_4:=qAC BK171.out 4))
     go_ret
     exact ⟨by first | rfl | (simp [qAT,qAS] <;> rfl) | (simp [*,qAT,qAS] <;> rfl),by repeat (first | (with_reducible first | exact HB.out | apply qAE | apply qAD | apply qAF | refine qAQ ?_ GE171.out) | exact HB.out)⟩
   ·rw [if_neg c15] at H
    have c15b0:(a0_1 == 0)=false:=beq_eq_false_iff_ne.mpr c15
    have c15b1:(a0_1 != 0)=true:=bne_iff_ne.mpr c15
    by_cases c24:a0_1=1
    ·rw [if_pos c24] at H
     have c24b0:(a0_1 == 1)=true:=beq_iff_eq.mpr c24
     have c24b1:(a0_1 != 1)=false:=bne_eq_false_iff_eq.mpr c24
     clear c24
     by_cases c25:a0_2.toList=([]:List UInt8)
     ·rw [if_pos c25] at H
      have c25b0:(a0_2.toList == ([]:List UInt8))=true:=beq_iff_eq.mpr c25
      have c25b1:(a0_2.toList != ([]:List UInt8))=false:=bne_eq_false_iff_eq.mpr c25
      clear c25
      by_cases c26:(l0_3.length:Int)=0
      ·rw [if_pos c26] at H
       have c26b0:((l0_3.length:Int) == 0)=true:=beq_iff_eq.mpr c26
       have c26b1:((l0_3.length:Int) != 0)=false:=bne_eq_false_iff_eq.mpr c26
       clear c26
       obtain rfl:=Option.some.inj H
       simp only [Option.some.injEq,Prod.mk.injEq] at H
       obtain ⟨rfl⟩:=H
       go_enter Try.func71,Try.ntmps71
       go_wp2_with (first | ((with_reducible refine qAl (N:=1) rfl ?_);(try (refine qAw (by rfl) ?_;dsimp only));refine qAg ?hg (N:=1) ?hd (cs:=#[.int .i64 a0_0,.int .i64 a0_1,.string a0_2,.slice A0_3 l0_3.length c0_3,.slice A0_4 l0_4.length c0_4]) (t:=34) ?hr ?_;(case hd=>rfl);(case hg=>rfl);(case hr=>first | (go_simp;done) | (go_simp;rfl));intro gb171 hg w27 hbox hb;have n0_:=qAA.mk (qAO (by repeat (first | (with_reducible first | exact HB.out | apply qAE | apply qAD | apply qAF) | exact HB.out)) hb);have n1_:=qAA.mk (hbox);have n2_:=qAA.mk ((by rw [hg];exact (qAV (by repeat (first | (with_reducible first | exact HB.out | apply qAE | apply qAD | apply qAF) | exact HB.out))):w.heap.size≤gb171));have n3_:=qAA.mk ((by rw [hg];exact (qAV (by repeat (first | (with_reducible first | exact HB.out | apply qAE | apply qAD | apply qAF) | exact HB.out))):w.heap.size≤gb171));clear HB;have HB:=n0_;have BK171:=n1_;have GW171:=n2_;have GE171:=n3_;clear n0_ n1_ n2_ n3_;clear hb hbox hg;have hcz28_0:w27.cell? ⟨gb171,0,none⟩=some (.int .i64 a0_0):=(qAB BK171.out 0).trans rfl;have hcz28_1:w27.cell? ⟨gb171,1,none⟩=some (.int .i64 a0_1):=(qAB BK171.out 1).trans rfl;have hcz28_2:w27.cell? ⟨gb171,2,none⟩=some (.string a0_2):=(qAB BK171.out 2).trans rfl;have hcz28_3:w27.cell? ⟨gb171,3,none⟩=some (.slice A0_3 l0_3.length c0_3):=(qAB BK171.out 3).trans rfl;have hcz28_4:w27.cell? ⟨gb171,4,none⟩=some (.slice A0_4 l0_4.length c0_4):=(qAB BK171.out 4).trans rfl;have hfz28_0:=qAC BK171.out 0;have hfz28_1:=qAC BK171.out 1;have hfz28_2:=qAC BK171.out 2;have hfz28_3:=qAC BK171.out 3;have hfz28_4:=qAC BK171.out 4))
       go_ret
       exact ⟨by first | rfl | (simp [qAT,qAS] <;> rfl) | (simp [*,qAT,qAS] <;> rfl),by repeat (first | (with_reducible first | exact HB.out | apply qAE | apply qAD | apply qAF | refine qAQ ?_ GE171.out) | exact HB.out)⟩
      ·rw [if_neg c26] at H
       have c26b0:((l0_3.length:Int) == 0)=false:=beq_eq_false_iff_ne.mpr c26
       have c26b1:((l0_3.length:Int) != 0)=true:=bne_iff_ne.mpr c26
       have c26b2:¬ (l0_3=[]):=fun h_=>c26 (by rw [h_];rfl)
       obtain rfl:=Option.some.inj H
       simp only [Option.some.injEq,Prod.mk.injEq] at H
       obtain ⟨rfl⟩:=H
       go_enter Try.func71,Try.ntmps71
       go_wp2_with (first | ((with_reducible refine qAl (N:=1) rfl ?_);(try (refine qAw (by rfl) ?_;dsimp only));refine qAg ?hg (N:=1) ?hd (cs:=#[.int .i64 a0_0,.int .i64 a0_1,.string a0_2,.slice A0_3 l0_3.length c0_3,.slice A0_4 l0_4.length c0_4]) (t:=34) ?hr ?_;(case hd=>rfl);(case hg=>rfl);(case hr=>first | (go_simp;done) | (go_simp;rfl));intro gb171 hg w29 hbox hb;have n0_:=qAA.mk (qAO (by repeat (first | (with_reducible first | exact HB.out | apply qAE | apply qAD | apply qAF) | exact HB.out)) hb);have n1_:=qAA.mk (hbox);have n2_:=qAA.mk ((by rw [hg];exact (qAV (by repeat (first | (with_reducible first | exact HB.out | apply qAE | apply qAD | apply qAF) | exact HB.out))):w.heap.size≤gb171));have n3_:=qAA.mk ((by rw [hg];exact (qAV (by repeat (first | (with_reducible first | exact HB.out | apply qAE | apply qAD | apply qAF) | exact HB.out))):w.heap.size≤gb171));clear HB;have HB:=n0_;have BK171:=n1_;have GW171:=n2_;have GE171:=n3_;clear n0_ n1_ n2_ n3_;clear hb hbox hg;have hcz30_0:w29.cell? ⟨gb171,0,none⟩=some (.int .i64 a0_0):=(qAB BK171.out 0).trans rfl;have hcz30_1:w29.cell? ⟨gb171,1,none⟩=some (.int .i64 a0_1):=(qAB BK171.out 1).trans rfl;have hcz30_2:w29.cell? ⟨gb171,2,none⟩=some (.string a0_2):=(qAB BK171.out 2).trans rfl;have hcz30_3:w29.cell? ⟨gb171,3,none⟩=some (.slice A0_3 l0_3.length c0_3):=(qAB BK171.out 3).trans rfl;have hcz30_4:w29.cell? ⟨gb171,4,none⟩=some (.slice A0_4 l0_4.length c0_4):=(qAB BK171.out 4).trans rfl;have hfz30_0:=qAC BK171.out 0;have hfz30_1:=qAC BK171.out 1;have hfz30_2:=qAC BK171.out 2;have hfz30_3:=qAC BK171.out 3;have hfz30_4:=qAC BK171.out 4))
       go_ret
       exact ⟨by first | rfl | (simp [qAT,qAS] <;> rfl) | (simp [*,qAT,qAS] <;> rfl),by repeat (first | (with_reducible first | exact HB.out | apply qAE | apply qAD | apply qAF | refine qAQ ?_ GE171.out) | exact HB.out)⟩
     ·rw [if_neg c25] at H
      have c25b0:(a0_2.toList == ([]:List UInt8))=false:=beq_eq_false_iff_ne.mpr c25
      have c25b1:(a0_2.toList != ([]:List UInt8))=true:=bne_iff_ne.mpr c25
      obtain rfl:=Option.some.inj H
      simp only [Option.some.injEq,Prod.mk.injEq] at H
      obtain ⟨rfl⟩:=H
      go_enter Try.func71,Try.ntmps71
      go_wp2_with (first | ((with_reducible refine qAl (N:=1) rfl ?_);(try (refine qAw (by rfl) ?_;dsimp only));refine qAg ?hg (N:=1) ?hd (cs:=#[.int .i64 a0_0,.int .i64 a0_1,.string a0_2,.slice A0_3 l0_3.length c0_3,.slice A0_4 l0_4.length c0_4]) (t:=34) ?hr ?_;(case hd=>rfl);(case hg=>rfl);(case hr=>first | (go_simp;done) | (go_simp;rfl));intro gb171 hg w31 hbox hb;have n0_:=qAA.mk (qAO (by repeat (first | (with_reducible first | exact HB.out | apply qAE | apply qAD | apply qAF) | exact HB.out)) hb);have n1_:=qAA.mk (hbox);have n2_:=qAA.mk ((by rw [hg];exact (qAV (by repeat (first | (with_reducible first | exact HB.out | apply qAE | apply qAD | apply qAF) | exact HB.out))):w.heap.size≤gb171));have n3_:=qAA.mk ((by rw [hg];exact (qAV (by repeat (first | (with_reducible first | exact HB.out | apply qAE | apply qAD | apply qAF) | exact HB.out))):w.heap.size≤gb171));clear HB;have HB:=n0_;have BK171:=n1_;have GW171:=n2_;have GE171:=n3_;clear n0_ n1_ n2_ n3_;clear hb hbox hg;have hcz32_0:w31.cell? ⟨gb171,0,none⟩=some (.int .i64 a0_0):=(qAB BK171.out 0).trans rfl;have hcz32_1:w31.cell? ⟨gb171,1,none⟩=some (.int .i64 a0_1):=(qAB BK171.out 1).trans rfl;have hcz32_2:w31.cell? ⟨gb171,2,none⟩=some (.string a0_2):=(qAB BK171.out 2).trans rfl;have hcz32_3:w31.cell? ⟨gb171,3,none⟩=some (.slice A0_3 l0_3.length c0_3):=(qAB BK171.out 3).trans rfl;have hcz32_4:w31.cell? ⟨gb171,4,none⟩=some (.slice A0_4 l0_4.length c0_4):=(qAB BK171.out 4).trans rfl;have hfz32_0:=qAC BK171.out 0;have hfz32_1:=qAC BK171.out 1;have hfz32_2:=qAC BK171.out 2;have hfz32_3:=qAC BK171.out 3;have hfz32_4:=qAC BK171.out 4))
      go_ret
      exact ⟨by first | rfl | (simp [qAT,qAS] <;> rfl) | (simp [*,qAT,qAS] <;> rfl),by repeat (first | (with_reducible first | exact HB.out | apply qAE | apply qAD | apply qAF | refine qAQ ?_ GE171.out) | exact HB.out)⟩
    ·rw [if_neg c24] at H
     have c24b0:(a0_1 == 1)=false:=beq_eq_false_iff_ne.mpr c24
     have c24b1:(a0_1 != 1)=true:=bne_iff_ne.mpr c24
     obtain rfl:=Option.some.inj H
     simp only [Option.some.injEq,Prod.mk.injEq] at H
     obtain ⟨rfl⟩:=H
     go_enter Try.func71,Try.ntmps71
     go_wp2_with (first | ((with_reducible refine qAl (N:=1) rfl ?_);(try (refine qAw (by rfl) ?_;dsimp only));refine qAg ?hg (N:=1) ?hd (cs:=#[.int .i64 a0_0,.int .i64 a0_1,.string a0_2,.slice A0_3 l0_3.length c0_3,.slice A0_4 l0_4.length c0_4]) (t:=34) ?hr ?_;(case hd=>rfl);(case hg=>rfl);(case hr=>first | (go_simp;done) | (go_simp;rfl));intro gb171 hg w33 hbox hb;have n0_:=qAA.mk (qAO (by repeat (first | (with_reducible first | exact HB.out | apply qAE | apply qAD | apply qAF) | exact HB.out)) hb);have n1_:=qAA.mk (hbox);have n2_:=qAA.mk ((by rw [hg];exact (qAV (by repeat (first | (with_reducible first | exact HB.out | apply qAE | apply qAD | apply qAF) | exact HB.out))):w.heap.size≤gb171));have n3_:=qAA.mk ((by rw [hg];exact (qAV (by repeat (first | (with_reducible first | exact HB.out | apply qAE | apply qAD | apply qAF) | exact HB.out))):w.heap.size≤gb171));clear HB;have HB:=n0_;have BK171:=n1_;have GW171:=n2_;have GE171:=n3_;clear n0_ n1_ n2_ n3_;clear hb hbox hg;have hcz34_0:w33.cell? ⟨gb171,0,none⟩=some (.int .i64 a0_0):=(qAB BK171.out 0).trans rfl;have hcz34_1:w33.cell? ⟨gb171,1,none⟩=some (.int .i64 a0_1):=(qAB BK171.out 1).trans rfl;have hcz34_2:w33.cell? ⟨gb171,2,none⟩=some (.string a0_2):=(qAB BK171.out 2).trans rfl;have hcz34_3:w33.cell? ⟨gb171,3,none⟩=some (.slice A0_3 l0_3.length c0_3):=(qAB BK171.out 3).trans rfl;have hcz34_4:w33.cell? ⟨gb171,4,none⟩=some (.slice A0_4 l0_4.length c0_4):=(qAB BK171.out 4).trans rfl;have hfz34_0:=qAC BK171.out 0;have hfz34_1:=qAC BK171.out 1;have hfz34_2:=qAC BK171.out 2;have hfz34_3:=qAC BK171.out 3;have hfz34_4:=qAC BK171.out 4))
     go_ret
     exact ⟨by first | rfl | (simp [qAT,qAS] <;> rfl) | (simp [*,qAT,qAS] <;> rfl),by repeat (first | (with_reducible first | exact HB.out | apply qAE | apply qAD | apply qAF | refine qAQ ?_ GE171.out) | exact HB.out)⟩
  ·rw [if_neg c14] at H
   have c14b0:(a0_0 == 1)=false:=beq_eq_false_iff_ne.mpr c14
   have c14b1:(a0_0 != 1)=true:=bne_iff_ne.mpr c14
   by_cases c35:a0_0=2
   ·rw [if_pos c35] at H
    have c35b0:(a0_0 == 2)=true:=beq_iff_eq.mpr c35
    have c35b1:(a0_0 != 2)=false:=bne_eq_false_iff_eq.mpr c35
    clear c35
    by_cases c36:a0_2.toList=([]:List UInt8)
    ·rw [if_pos c36] at H
     have c36b0:(a0_2.toList == ([]:List UInt8))=true:=beq_iff_eq.mpr c36
     have c36b1:(a0_2.toList != ([]:List UInt8))=false:=bne_eq_false_iff_eq.mpr c36
     clear c36
     by_cases c37:(l0_3.length:Int)=0
     ·rw [if_pos c37] at H
      have c37b0:((l0_3.length:Int) == 0)=true:=beq_iff_eq.mpr c37
      have c37b1:((l0_3.length:Int) != 0)=false:=bne_eq_false_iff_eq.mpr c37
      clear c37
      obtain rfl:=Option.some.inj H
      simp only [Option.some.injEq,Prod.mk.injEq] at H
      obtain ⟨rfl⟩:=H
      go_enter Try.func71,Try.ntmps71
      go_wp2_with (first | ((with_reducible refine qAl (N:=1) rfl ?_);(try (refine qAw (by rfl) ?_;dsimp only));refine qAg ?hg (N:=1) ?hd (cs:=#[.int .i64 a0_0,.int .i64 a0_1,.string a0_2,.slice A0_3 l0_3.length c0_3,.slice A0_4 l0_4.length c0_4]) (t:=34) ?hr ?_;(case hd=>rfl);(case hg=>rfl);(case hr=>first | (go_simp;done) | (go_simp;rfl));intro gb171 hg w38 hbox hb;have n0_:=qAA.mk (qAO (by repeat (first | (with_reducible first | exact HB.out | apply qAE | apply qAD | apply qAF) | exact HB.out)) hb);have n1_:=qAA.mk (hbox);have n2_:=qAA.mk ((by rw [hg];exact (qAV (by repeat (first | (with_reducible first | exact HB.out | apply qAE | apply qAD | apply qAF) | exact HB.out))):w.heap.size≤gb171));have n3_:=qAA.mk ((by rw [hg];exact (qAV (by repeat (first | (with_reducible first | exact HB.out | apply qAE | apply qAD | apply qAF) | exact HB.out))):w.heap.size≤gb171));clear HB;have HB:=n0_;have BK171:=n1_;have GW171:=n2_;have GE171:=n3_;clear n0_ n1_ n2_ n3_;clear hb hbox hg;have hcz39_0:w38.cell? ⟨gb171,0,none⟩=some (.int .i64 a0_0):=(qAB BK171.out 0).trans rfl;have hcz39_1:w38.cell? ⟨gb171,1,none⟩=some (.int .i64 a0_1):=(qAB BK171.out 1).trans rfl;have hcz39_2:w38.cell? ⟨gb171,2,none⟩=some (.string a0_2):=(qAB BK171.out 2).trans rfl;have hcz39_3:w38.cell? ⟨gb171,3,none⟩=some (.slice A0_3 l0_3.length c0_3):=(qAB BK171.out 3).trans rfl;have hcz39_4:w38.cell? ⟨gb171,4,none⟩=some (.slice A0_4 l0_4.length c0_4):=(qAB BK171.out 4).trans rfl;have hfz39_0:=qAC BK171.out 0;have hfz39_1:=qAC BK171.out 1;have hfz39_2:=qAC BK171.out 2;have hfz39_3:=qAC BK171.out 3;have hfz39_4:=qAC BK171.out 4))
      go_ret
      exact ⟨by first | rfl | (simp [qAT,qAS] <;> rfl) | (simp [*,qAT,qAS] <;> rfl),by repeat (first | (with_reducible first | exact HB.out | apply qAE | apply qAD | apply qAF | refine qAQ ?_ GE171.out) | exact HB.out)⟩
     ·rw [if_neg c37] at H
      have c37b0:((l0_3.length:Int) == 0)=false:=beq_eq_false_iff_ne.mpr c37
      have c37b1:((l0_3.length:Int) != 0)=true:=bne_iff_ne.mpr c37
      have c37b2:¬ (l0_3=[]):=fun h_=>c37 (by rw [h_];rfl)
      obtain rfl:=Option.some.inj H
      simp only [Option.some.injEq,Prod.mk.injEq] at H
      obtain ⟨rfl⟩:=H
      go_enter Try.func71,Try.ntmps71
      go_wp2_with (first | ((with_reducible refine qAl (N:=1) rfl ?_);(try (refine qAw (by rfl) ?_;dsimp only));refine qAg ?hg (N:=1) ?hd (cs:=#[.int .i64 a0_0,.int .i64 a0_1,.string a0_2,.slice A0_3 l0_3.length c0_3,.slice A0_4 l0_4.length c0_4]) (t:=34) ?hr ?_;(case hd=>rfl);(case hg=>rfl);(case hr=>first | (go_simp;done) | (go_simp;rfl));intro gb171 hg w40 hbox hb;have n0_:=qAA.mk (qAO (by repeat (first | (with_reducible first | exact HB.out | apply qAE | apply qAD | apply qAF) | exact HB.out)) hb);have n1_:=qAA.mk (hbox);have n2_:=qAA.mk ((by rw [hg];exact (qAV (by repeat (first | (with_reducible first | exact HB.out | apply qAE | apply qAD | apply qAF) | exact HB.out))):w.heap.size≤gb171));have n3_:=qAA.mk ((by rw [hg];exact (qAV (by repeat (first | (with_reducible first | exact HB.out | apply qAE | apply qAD | apply qAF) | exact HB.out))):w.heap.size≤gb171));clear HB;have HB:=n0_;have BK171:=n1_;have GW171:=n2_;have GE171:=n3_;clear n0_ n1_ n2_ n3_;clear hb hbox hg;have hcz41_0:w40.cell? ⟨gb171,0,none⟩=some (.int .i64 a0_0):=(qAB BK171.out 0).trans rfl;have hcz41_1:w40.cell? ⟨gb171,1,none⟩=some (.int .i64 a0_1):=(qAB BK171.out 1).trans rfl;have hcz41_2:w40.cell? ⟨gb171,2,none⟩=some (.string a0_2):=(qAB BK171.out 2).trans rfl;have hcz41_3:w40.cell? ⟨gb171,3,none⟩=some (.slice A0_3 l0_3.length c0_3):=(qAB BK171.out 3).trans rfl;have hcz41_4:w40.cell? ⟨gb171,4,none⟩=some (.slice A0_4 l0_4.length c0_4):=(qAB BK171.out 4).trans rfl;have hfz41_0:=qAC BK171.out 0;have hfz41_1:=qAC BK171.out 1;have hfz41_2:=qAC BK171.out 2;have hfz41_3:=qAC BK171.out 3;have hfz41_4:=qAC BK171.out 4))
      go_ret
      exact ⟨by first | rfl | (simp [qAT,qAS] <;> rfl) | (simp [*,qAT,qAS] <;> rfl),by repeat (first | (with_reducible first | exact HB.out | apply qAE | apply qAD | apply qAF | refine qAQ ?_ GE171.out) | exact HB.out)⟩
    ·rw [if_neg c36] at H
     have c36b0:(a0_2.toList == ([]:List UInt8))=false:=beq_eq_false_iff_ne.mpr c36
     have c36b1:(a0_2.toList != ([]:List UInt8))=true:=bne_iff_ne.mpr c36
     obtain rfl:=Option.some.inj H
     simp only [Option.some.injEq,Prod.mk.injEq] at H
     obtain ⟨rfl⟩:=H
     go_enter Try.func71,Try.ntmps71
     go_wp2_with (first | ((with_reducible refine qAl (N:=1) rfl ?_);(try (refine qAw (by rfl) ?_;dsimp only));refine qAg ?hg (N:=1) ?hd (cs:=#[.int .i64 a0_0,.int .i64 a0_1,.string a0_2,.slice A0_3 l0_3.length c0_3,.slice A0_4 l0_4.length c0_4]) (t:=34) ?hr ?_;(case hd=>rfl);(case hg=>rfl);(case hr=>first | (go_simp;done) | (go_simp;rfl));intro gb171 hg w42 hbox hb;have n0_:=qAA.mk (qAO (by repeat (first | (with_reducible first | exact HB.out | apply qAE | apply qAD | apply qAF) | exact HB.out)) hb);have n1_:=qAA.mk (hbox);have n2_:=qAA.mk ((by rw [hg];exact (qAV (by repeat (first | (with_reducible first | exact HB.out | apply qAE | apply qAD | apply qAF) | exact HB.out))):w.heap.size≤gb171));have n3_:=qAA.mk ((by rw [hg];exact (qAV (by repeat (first | (with_reducible first | exact HB.out | apply qAE | apply qAD | apply qAF) | exact HB.out))):w.heap.size≤gb171));clear HB;have HB:=n0_;have BK171:=n1_;have GW171:=n2_;have GE171:=n3_;clear n0_ n1_ n2_ n3_;clear hb hbox hg;have hcz43_0:w42.cell? ⟨gb171,0,none⟩=some (.int .i64 a0_0):=(qAB BK171.out 0).trans rfl;have hcz43_1:w42.cell? ⟨gb171,1,none⟩=some (.int .i64 a0_1):=(qAB BK171.out 1).trans rfl;have hcz43_2:w42.cell? ⟨gb171,2,none⟩=some (.string a0_2):=(qAB BK171.out 2).trans rfl;have hcz43_3:w42.cell? ⟨gb171,3,none⟩=some (.slice A0_3 l0_3.length c0_3):=(qAB BK171.out 3).trans rfl;have hcz43_4:w42.cell? ⟨gb171,4,none⟩=some (.slice A0_4 l0_4.length c0_4):=(qAB BK171.out 4).trans rfl;have hfz43_0:=qAC BK171.out 0;have hfz43_1:=qAC BK171.out 1;have hfz43_2:=qAC BK171.out 2;have hfz43_3:=qAC BK171.out 3;have hfz43_4:=qAC BK171.out 4))
     go_ret
     exact ⟨by first | rfl | (simp [qAT,qAS] <;> rfl) | (simp [*,qAT,qAS] <;> rfl),by repeat (first | (with_reducible first | exact HB.out | apply qAE | apply qAD | apply qAF | refine qAQ ?_ GE171.out) | exact HB.out)⟩
   ·rw [if_neg c35] at H
    have c35b0:(a0_0 == 2)=false:=beq_eq_false_iff_ne.mpr c35
    have c35b1:(a0_0 != 2)=true:=bne_iff_ne.mpr c35
    by_cases c44:a0_0=3
    ·rw [if_pos c44] at H
     have c44b0:(a0_0 == 3)=true:=beq_iff_eq.mpr c44
     have c44b1:(a0_0 != 3)=false:=bne_eq_false_iff_eq.mpr c44
     clear c44
     by_cases c45:a0_1=0
     ·rw [if_pos c45] at H
      have c45b0:(a0_1 == 0)=true:=beq_iff_eq.mpr c45
      have c45b1:(a0_1 != 0)=false:=bne_eq_false_iff_eq.mpr c45
      clear c45
      by_cases c46:(l0_3.length:Int)=0
      ·rw [if_pos c46] at H
       have c46b0:((l0_3.length:Int) == 0)=true:=beq_iff_eq.mpr c46
       have c46b1:((l0_3.length:Int) != 0)=false:=bne_eq_false_iff_eq.mpr c46
       clear c46
       obtain rfl:=Option.some.inj H
       simp only [Option.some.injEq,Prod.mk.injEq] at H
       obtain ⟨rfl⟩:=H
       go_enter Try.func71,Try.ntmps71
       go_wp2_with (first | ((with_reducible refine qAl (N:=1) rfl ?_);(try (refine qAw (by rfl) ?_;dsimp only));refine qAg ?hg (N:=1) ?hd (cs:=#[.int .i64 a0_0,.int .i64 a0_1,.string a0_2,.slice A0_3 l0_3.length c0_3,.slice A0_4 l0_4.length c0_4]) (t:=34) ?hr ?_;(case hd=>rfl);(case hg=>rfl);(case hr=>first | (go_simp;done) | (go_simp;rfl));intro gb171 hg w47 hbox hb;have n0_:=qAA.mk (qAO (by repeat (first | (with_reducible first | exact HB.out | apply qAE | apply qAD | apply qAF) | exact HB.out)) hb);have n1_:=qAA.mk (hbox);have n2_:=qAA.mk ((by rw [hg];exact (qAV (by repeat (first | (with_reducible first | exact HB.out | apply qAE | apply qAD | apply qAF) | exact HB.out))):w.heap.size≤gb171));have n3_:=qAA.mk ((by rw [hg];exact (qAV (by repeat (first | (with_reducible first | exact HB.out | apply qAE | apply qAD | apply qAF) | exact HB.out))):w.heap.size≤gb171));clear HB;have HB:=n0_;have BK171:=n1_;have GW171:=n2_;have GE171:=n3_;clear n0_ n1_ n2_ n3_;clear hb hbox hg;have hcz48_0:w47.cell? ⟨gb171,0,none⟩=some (.int .i64 a0_0):=(qAB BK171.out 0).trans rfl;have hcz48_1:w47.cell? ⟨gb171,1,none⟩=some (.int .i64 a0_1):=(qAB BK171.out 1).trans rfl;have hcz48_2:w47.cell? ⟨gb171,2,none⟩=some (.string a0_2):=(qAB BK171.out 2).trans rfl;have hcz48_3:w47.cell? ⟨gb171,3,none⟩=some (.slice A0_3 l0_3.length c0_3):=(qAB BK171.out 3).trans rfl;have hcz48_4:w47.cell? ⟨gb171,4,none⟩=some (.slice A0_4 l0_4.length c0_4):=(qAB BK171.out 4).trans rfl;have hfz48_0:=qAC BK171.out 0;have hfz48_1:=qAC BK171.out 1;have hfz48_2:=qAC BK171.out 2;have hfz48_3:=qAC BK171.out 3;have hfz48_4:=qAC BK171.out 4))
       go_ret
       exact ⟨by first | rfl | (simp [qAT,qAS] <;> rfl) | (simp [*,qAT,qAS] <;> rfl),by repeat (first | (with_reducible first | exact HB.out | apply qAE | apply qAD | apply qAF | refine qAQ ?_ GE171.out) | exact HB.out)⟩
      ·rw [if_neg c46] at H
       have c46b0:((l0_3.length:Int) == 0)=false:=beq_eq_false_iff_ne.mpr c46
       have c46b1:((l0_3.length:Int) != 0)=true:=bne_iff_ne.mpr c46
       have c46b2:¬ (l0_3=[]):=fun h_=>c46 (by rw [h_];rfl)
       obtain rfl:=Option.some.inj H
       simp only [Option.some.injEq,Prod.mk.injEq] at H
       obtain ⟨rfl⟩:=H
       go_enter Try.func71,Try.ntmps71
       go_wp2_with (first | ((with_reducible refine qAl (N:=1) rfl ?_);(try (refine qAw (by rfl) ?_;dsimp only));refine qAg ?hg (N:=1) ?hd (cs:=#[.int .i64 a0_0,.int .i64 a0_1,.string a0_2,.slice A0_3 l0_3.length c0_3,.slice A0_4 l0_4.length c0_4]) (t:=34) ?hr ?_;(case hd=>rfl);(case hg=>rfl);(case hr=>first | (go_simp;done) | (go_simp;rfl));intro gb171 hg w49 hbox hb;have n0_:=qAA.mk (qAO (by repeat (first | (with_reducible first | exact HB.out | apply qAE | apply qAD | apply qAF) | exact HB.out)) hb);have n1_:=qAA.mk (hbox);have n2_:=qAA.mk ((by rw [hg];exact (qAV (by repeat (first | (with_reducible first | exact HB.out | apply qAE | apply qAD | apply qAF) | exact HB.out))):w.heap.size≤gb171));have n3_:=qAA.mk ((by rw [hg];exact (qAV (by repeat (first | (with_reducible first | exact HB.out | apply qAE | apply qAD | apply qAF) | exact HB.out))):w.heap.size≤gb171));clear HB;have HB:=n0_;have BK171:=n1_;have GW171:=n2_;have GE171:=n3_;clear n0_ n1_ n2_ n3_;clear hb hbox hg;have hcz50_0:w49.cell? ⟨gb171,0,none⟩=some (.int .i64 a0_0):=(qAB BK171.out 0).trans rfl;have hcz50_1:w49.cell? ⟨gb171,1,none⟩=some (.int .i64 a0_1):=(qAB BK171.out 1).trans rfl;have hcz50_2:w49.cell? ⟨gb171,2,none⟩=some (.string a0_2):=(qAB BK171.out 2).trans rfl;have hcz50_3:w49.cell? ⟨gb171,3,none⟩=some (.slice A0_3 l0_3.length c0_3):=(qAB BK171.out 3).trans rfl;have hcz50_4:w49.cell? ⟨gb171,4,none⟩=some (.slice A0_4 l0_4.length c0_4):=(qAB BK171.out 4).trans rfl;have hfz50_0:=qAC BK171.out 0;have hfz50_1:=qAC BK171.out 1;have hfz50_2:=qAC BK171.out 2;have hfz50_3:=qAC BK171.out 3;have hfz50_4:=qAC BK171.out 4))
       go_ret
       exact ⟨by first | rfl | (simp [qAT,qAS] <;> rfl) | (simp [*,qAT,qAS] <;> rfl),by repeat (first | (with_reducible first | exact HB.out | apply qAE | apply qAD | apply qAF | refine qAQ ?_ GE171.out) | exact HB.out)⟩
     ·rw [if_neg c45] at H
      have c45b0:(a0_1 == 0)=false:=beq_eq_false_iff_ne.mpr c45
      have c45b1:(a0_1 != 0)=true:=bne_iff_ne.mpr c45
      obtain rfl:=Option.some.inj H
      simp only [Option.some.injEq,Prod.mk.injEq] at H
      obtain ⟨rfl⟩:=H
      go_enter Try.func71,Try.ntmps71
      go_wp2_with (first | ((with_reducible refine qAl (N:=1) rfl ?_);(try (refine qAw (by rfl) ?_;dsimp only));refine qAg ?hg (N:=1) ?hd (cs:=#[.int .i64 a0_0,.int .i64 a0_1,.string a0_2,.slice A0_3 l0_3.length c0_3,.slice A0_4 l0_4.length c0_4]) (t:=34) ?hr ?_;(case hd=>rfl);(case hg=>rfl);(case hr=>first | (go_simp;done) | (go_simp;rfl));intro gb171 hg w51 hbox hb;have n0_:=qAA.mk (qAO (by repeat (first | (with_reducible first | exact HB.out | apply qAE | apply qAD | apply qAF) | exact HB.out)) hb);have n1_:=qAA.mk (hbox);have n2_:=qAA.mk ((by rw [hg];exact (qAV (by repeat (first | (with_reducible first | exact HB.out | apply qAE | apply qAD | apply qAF) | exact HB.out))):w.heap.size≤gb171));have n3_:=qAA.mk ((by rw [hg];exact (qAV (by repeat (first | (with_reducible first | exact HB.out | apply qAE | apply qAD | apply qAF) | exact HB.out))):w.heap.size≤gb171));clear HB;have HB:=n0_;have BK171:=n1_;have GW171:=n2_;have GE171:=n3_;clear n0_ n1_ n2_ n3_;clear hb hbox hg;have hcz52_0:w51.cell? ⟨gb171,0,none⟩=some (.int .i64 a0_0):=(qAB BK171.out 0).trans rfl;have hcz52_1:w51.cell? ⟨gb171,1,none⟩=some (.int .i64 a0_1):=(qAB BK171.out 1).trans rfl;have hcz52_2:w51.cell? ⟨gb171,2,none⟩=some (.string a0_2):=(qAB BK171.out 2).trans rfl;have hcz52_3:w51.cell? ⟨gb171,3,none⟩=some (.slice A0_3 l0_3.length c0_3):=(qAB BK171.out 3).trans rfl;have hcz52_4:w51.cell? ⟨gb171,4,none⟩=some (.slice A0_4 l0_4.length c0_4):=(qAB BK171.out 4).trans rfl;have hfz52_0:=qAC BK171.out 0;have hfz52_1:=qAC BK171.out 1;have hfz52_2:=qAC BK171.out 2;have hfz52_3:=qAC BK171.out 3;have hfz52_4:=qAC BK171.out 4))
      go_ret
      exact ⟨by first | rfl | (simp [qAT,qAS] <;> rfl) | (simp [*,qAT,qAS] <;> rfl),by repeat (first | (with_reducible first | exact HB.out | apply qAE | apply qAD | apply qAF | refine qAQ ?_ GE171.out) | exact HB.out)⟩
    ·rw [if_neg c44] at H
     have c44b0:(a0_0 == 3)=false:=beq_eq_false_iff_ne.mpr c44
     have c44b1:(a0_0 != 3)=true:=bne_iff_ne.mpr c44
     by_cases c53:a0_0=4
     ·rw [if_pos c53] at H
      have c53b0:(a0_0 == 4)=true:=beq_iff_eq.mpr c53
      have c53b1:(a0_0 != 4)=false:=bne_eq_false_iff_eq.mpr c53
      clear c53
      by_cases c54:a0_1=0
      ·rw [if_pos c54] at H
       have c54b0:(a0_1 == 0)=true:=beq_iff_eq.mpr c54
       have c54b1:(a0_1 != 0)=false:=bne_eq_false_iff_eq.mpr c54
       clear c54
       by_cases c55:a0_2.toList=([]:List UInt8)
       ·rw [if_pos c55] at H
        have c55b0:(a0_2.toList == ([]:List UInt8))=true:=beq_iff_eq.mpr c55
        have c55b1:(a0_2.toList != ([]:List UInt8))=false:=bne_eq_false_iff_eq.mpr c55
        clear c55
        obtain rfl:=Option.some.inj H
        simp only [Option.some.injEq,Prod.mk.injEq] at H
        obtain ⟨rfl⟩:=H
        go_enter Try.func71,Try.ntmps71
        go_wp2_with (first | ((with_reducible refine qAl (N:=1) rfl ?_);(try (refine qAw (by rfl) ?_;dsimp only));refine qAg ?hg (N:=1) ?hd (cs:=#[.int .i64 a0_0,.int .i64 a0_1,.string a0_2,.slice A0_3 l0_3.length c0_3,.slice A0_4 l0_4.length c0_4]) (t:=34) ?hr ?_;(case hd=>rfl);(case hg=>rfl);(case hr=>first | (go_simp;done) | (go_simp;rfl));intro gb171 hg w56 hbox hb;have n0_:=qAA.mk (qAO (by repeat (first | (with_reducible first | exact HB.out | apply qAE | apply qAD | apply qAF) | exact HB.out)) hb);have n1_:=qAA.mk (hbox);have n2_:=qAA.mk ((by rw [hg];exact (qAV (by repeat (first | (with_reducible first | exact HB.out | apply qAE | apply qAD | apply qAF) | exact HB.out))):w.heap.size≤gb171));have n3_:=qAA.mk ((by rw [hg];exact (qAV (by repeat (first | (with_reducible first | exact HB.out | apply qAE | apply qAD | apply qAF) | exact HB.out))):w.heap.size≤gb171));clear HB;have HB:=n0_;have BK171:=n1_;have GW171:=n2_;have GE171:=n3_;clear n0_ n1_ n2_ n3_;clear hb hbox hg;have hcz57_0:w56.cell? ⟨gb171,0,none⟩=some (.int .i64 a0_0):=(qAB BK171.out 0).trans rfl;have hcz57_1:w56.cell? ⟨gb171,1,none⟩=some (.int .i64 a0_1):=(qAB BK171.out 1).trans rfl;have hcz57_2:w56.cell? ⟨gb171,2,none⟩=some (.string a0_2):=(qAB BK171.out 2).trans rfl;have hcz57_3:w56.cell? ⟨gb171,3,none⟩=some (.slice A0_3 l0_3.length c0_3):=(qAB BK171.out 3).trans rfl;have hcz57_4:w56.cell? ⟨gb171,4,none⟩=some (.slice A0_4 l0_4.length c0_4):=(qAB BK171.out 4).trans rfl;have hfz57_0:=qAC BK171.out 0;have hfz57_1:=qAC BK171.out 1;have hfz57_2:=qAC BK171.out 2;have hfz57_3:=qAC BK171.out 3;have hfz57_4:=qAC BK171.out 4))
        go_ret
        exact ⟨by first | rfl | (simp [qAT,qAS] <;> rfl) | (simp [*,qAT,qAS] <;> rfl),by repeat (first | (with_reducible first | exact HB.out | apply qAE | apply qAD | apply qAF | refine qAQ ?_ GE171.out) | exact HB.out)⟩
       ·rw [if_neg c55] at H
        have c55b0:(a0_2.toList == ([]:List UInt8))=false:=beq_eq_false_iff_ne.mpr c55
        have c55b1:(a0_2.toList != ([]:List UInt8))=true:=bne_iff_ne.mpr c55
        obtain rfl:=Option.some.inj H
        simp only [Option.some.injEq,Prod.mk.injEq] at H
        obtain ⟨rfl⟩:=H
        go_enter Try.func71,Try.ntmps71
        go_wp2_with (first | ((with_reducible refine qAl (N:=1) rfl ?_);(try (refine qAw (by rfl) ?_;dsimp only));refine qAg ?hg (N:=1) ?hd (cs:=#[.int .i64 a0_0,.int .i64 a0_1,.string a0_2,.slice A0_3 l0_3.length c0_3,.slice A0_4 l0_4.length c0_4]) (t:=34) ?hr ?_;(case hd=>rfl);(case hg=>rfl);(case hr=>first | (go_simp;done) | (go_simp;rfl));intro gb171 hg w58 hbox hb;have n0_:=qAA.mk (qAO (by repeat (first | (with_reducible first | exact HB.out | apply qAE | apply qAD | apply qAF) | exact HB.out)) hb);have n1_:=qAA.mk (hbox);have n2_:=qAA.mk ((by rw [hg];exact (qAV (by repeat (first | (with_reducible first | exact HB.out | apply qAE | apply qAD | apply qAF) | exact HB.out))):w.heap.size≤gb171));have n3_:=qAA.mk ((by rw [hg];exact (qAV (by repeat (first | (with_reducible first | exact HB.out | apply qAE | apply qAD | apply qAF) | exact HB.out))):w.heap.size≤gb171));clear HB;have HB:=n0_;have BK171:=n1_;have GW171:=n2_;have GE171:=n3_;clear n0_ n1_ n2_ n3_;clear hb hbox hg;have hcz59_0:w58.cell? ⟨gb171,0,none⟩=some (.int .i64 a0_0):=(qAB BK171.out 0).trans rfl;have hcz59_1:w58.cell? ⟨gb171,1,none⟩=some (.int .i64 a0_1):=(qAB BK171.out 1).trans rfl;have hcz59_2:w58.cell? ⟨gb171,2,none⟩=some (.string a0_2):=(qAB BK171.out 2).trans rfl;have hcz59_3:w58.cell? ⟨gb171,3,none⟩=some (.slice A0_3 l0_3.length c0_3):=(qAB BK171.out 3).trans rfl;have hcz59_4:w58.cell? ⟨gb171,4,none⟩=some (.slice A0_4 l0_4.length c0_4):=(qAB BK171.out 4).trans rfl;have hfz59_0:=qAC BK171.out 0;have hfz59_1:=qAC BK171.out 1;have hfz59_2:=qAC BK171.out 2;have hfz59_3:=qAC BK171.out 3;have hfz59_4:=qAC BK171.out 4))
        go_ret
        exact ⟨by first | rfl | (simp [qAT,qAS] <;> rfl) | (simp [*,qAT,qAS] <;> rfl),by repeat (first | (with_reducible first | exact HB.out | apply qAE | apply qAD | apply qAF | refine qAQ ?_ GE171.out) | exact HB.out)⟩
      ·rw [if_neg c54] at H
       have c54b0:(a0_1 == 0)=false:=beq_eq_false_iff_ne.mpr c54
       have c54b1:(a0_1 != 0)=true:=bne_iff_ne.mpr c54
       obtain rfl:=Option.some.inj H
       simp only [Option.some.injEq,Prod.mk.injEq] at H
       obtain ⟨rfl⟩:=H
       go_enter Try.func71,Try.ntmps71
       go_wp2_with (first | ((with_reducible refine qAl (N:=1) rfl ?_);(try (refine qAw (by rfl) ?_;dsimp only));refine qAg ?hg (N:=1) ?hd (cs:=#[.int .i64 a0_0,.int .i64 a0_1,.string a0_2,.slice A0_3 l0_3.length c0_3,.slice A0_4 l0_4.length c0_4]) (t:=34) ?hr ?_;(case hd=>rfl);(case hg=>rfl);(case hr=>first | (go_simp;done) | (go_simp;rfl));intro gb171 hg w60 hbox hb;have n0_:=qAA.mk (qAO (by repeat (first | (with_reducible first | exact HB.out | apply qAE | apply qAD | apply qAF) | exact HB.out)) hb);have n1_:=qAA.mk (hbox);have n2_:=qAA.mk ((by rw [hg];exact (qAV (by repeat (first | (with_reducible first | exact HB.out | apply qAE | apply qAD | apply qAF) | exact HB.out))):w.heap.size≤gb171));have n3_:=qAA.mk ((by rw [hg];exact (qAV (by repeat (first | (with_reducible first | exact HB.out | apply qAE | apply qAD | apply qAF) | exact HB.out))):w.heap.size≤gb171));clear HB;have HB:=n0_;have BK171:=n1_;have GW171:=n2_;have GE171:=n3_;clear n0_ n1_ n2_ n3_;clear hb hbox hg;have hcz61_0:w60.cell? ⟨gb171,0,none⟩=some (.int .i64 a0_0):=(qAB BK171.out 0).trans rfl;have hcz61_1:w60.cell? ⟨gb171,1,none⟩=some (.int .i64 a0_1):=(qAB BK171.out 1).trans rfl;have hcz61_2:w60.cell? ⟨gb171,2,none⟩=some (.string a0_2):=(qAB BK171.out 2).trans rfl;have hcz61_3:w60.cell? ⟨gb171,3,none⟩=some (.slice A0_3 l0_3.length c0_3):=(qAB BK171.out 3).trans rfl;have hcz61_4:w60.cell? ⟨gb171,4,none⟩=some (.slice A0_4 l0_4.length c0_4):=(qAB BK171.out 4).trans rfl;have hfz61_0:=qAC BK171.out 0;have hfz61_1:=qAC BK171.out 1;have hfz61_2:=qAC BK171.out 2;have hfz61_3:=qAC BK171.out 3;have hfz61_4:=qAC BK171.out 4))
       go_ret
       exact ⟨by first | rfl | (simp [qAT,qAS] <;> rfl) | (simp [*,qAT,qAS] <;> rfl),by repeat (first | (with_reducible first | exact HB.out | apply qAE | apply qAD | apply qAF | refine qAQ ?_ GE171.out) | exact HB.out)⟩
     ·rw [if_neg c53] at H
      have c53b0:(a0_0 == 4)=false:=beq_eq_false_iff_ne.mpr c53
      have c53b1:(a0_0 != 4)=true:=bne_iff_ne.mpr c53
      by_cases c62:a0_0=5
      ·rw [if_pos c62] at H
       have c62b0:(a0_0 == 5)=true:=beq_iff_eq.mpr c62
       have c62b1:(a0_0 != 5)=false:=bne_eq_false_iff_eq.mpr c62
       clear c62
       by_cases c63:a0_1=0
       ·rw [if_pos c63] at H
        have c63b0:(a0_1 == 0)=true:=beq_iff_eq.mpr c63
        have c63b1:(a0_1 != 0)=false:=bne_eq_false_iff_eq.mpr c63
        clear c63
        by_cases c64:a0_2.toList=([]:List UInt8)
        ·rw [if_pos c64] at H
         have c64b0:(a0_2.toList == ([]:List UInt8))=true:=beq_iff_eq.mpr c64
         have c64b1:(a0_2.toList != ([]:List UInt8))=false:=bne_eq_false_iff_eq.mpr c64
         clear c64
         obtain rfl:=Option.some.inj H
         simp only [Option.some.injEq,Prod.mk.injEq] at H
         obtain ⟨rfl⟩:=H
         go_enter Try.func71,Try.ntmps71
         go_wp2_with (first | ((with_reducible refine qAl (N:=1) rfl ?_);(try (refine qAw (by rfl) ?_;dsimp only));refine qAg ?hg (N:=1) ?hd (cs:=#[.int .i64 a0_0,.int .i64 a0_1,.string a0_2,.slice A0_3 l0_3.length c0_3,.slice A0_4 l0_4.length c0_4]) (t:=34) ?hr ?_;(case hd=>rfl);(case hg=>rfl);(case hr=>first | (go_simp;done) | (go_simp;rfl));intro gb171 hg w65 hbox hb;have n0_:=qAA.mk (qAO (by repeat (first | (with_reducible first | exact HB.out | apply qAE | apply qAD | apply qAF) | exact HB.out)) hb);have n1_:=qAA.mk (hbox);have n2_:=qAA.mk ((by rw [hg];exact (qAV (by repeat (first | (with_reducible first | exact HB.out | apply qAE | apply qAD | apply qAF) | exact HB.out))):w.heap.size≤gb171));have n3_:=qAA.mk ((by rw [hg];exact (qAV (by repeat (first | (with_reducible first | exact HB.out | apply qAE | apply qAD | apply qAF) | exact HB.out))):w.heap.size≤gb171));clear HB;have HB:=n0_;have BK171:=n1_;have GW171:=n2_;have GE171:=n3_;clear n0_ n1_ n2_ n3_;clear hb hbox hg;have hcz66_0:w65.cell? ⟨gb171,0,none⟩=some (.int .i64 a0_0):=(qAB BK171.out 0).trans rfl;have hcz66_1:w65.cell? ⟨gb171,1,none⟩=some (.int .i64 a0_1):=(qAB BK171.out 1).trans rfl;have hcz66_2:w65.cell? ⟨gb171,2,none⟩=some (.string a0_2):=(qAB BK171.out 2).trans rfl;have hcz66_3:w65.cell? ⟨gb171,3,none⟩=some (.slice A0_3 l0_3.length c0_3):=(qAB BK171.out 3).trans rfl;have hcz66_4:w65.cell? ⟨gb171,4,none⟩=some (.slice A0_4 l0_4.length c0_4):=(qAB BK171.out 4).trans rfl;have hfz66_0:=qAC BK171.out 0;have hfz66_1:=qAC BK171.out 1;have hfz66_2:=qAC BK171.out 2;have hfz66_3:=qAC BK171.out 3;have hfz66_4:=qAC BK171.out 4))
         go_ret
         exact ⟨by first | rfl | (simp [qAT,qAS] <;> rfl) | (simp [*,qAT,qAS] <;> rfl),by repeat (first | (with_reducible first | exact HB.out | apply qAE | apply qAD | apply qAF | refine qAQ ?_ GE171.out) | exact HB.out)⟩
        ·rw [if_neg c64] at H
         have c64b0:(a0_2.toList == ([]:List UInt8))=false:=beq_eq_false_iff_ne.mpr c64
         have c64b1:(a0_2.toList != ([]:List UInt8))=true:=bne_iff_ne.mpr c64
         obtain rfl:=Option.some.inj H
         simp only [Option.some.injEq,Prod.mk.injEq] at H
         obtain ⟨rfl⟩:=H
         go_enter Try.func71,Try.ntmps71
         go_wp2_with (first | ((with_reducible refine qAl (N:=1) rfl ?_);(try (refine qAw (by rfl) ?_;dsimp only));refine qAg ?hg (N:=1) ?hd (cs:=#[.int .i64 a0_0,.int .i64 a0_1,.string a0_2,.slice A0_3 l0_3.length c0_3,.slice A0_4 l0_4.length c0_4]) (t:=34) ?hr ?_;(case hd=>rfl);(case hg=>rfl);(case hr=>first | (go_simp;done) | (go_simp;rfl));intro gb171 hg w67 hbox hb;have n0_:=qAA.mk (qAO (by repeat (first | (with_reducible first | exact HB.out | apply qAE | apply qAD | apply qAF) | exact HB.out)) hb);have n1_:=qAA.mk (hbox);have n2_:=qAA.mk ((by rw [hg];exact (qAV (by repeat (first | (with_reducible first | exact HB.out | apply qAE | apply qAD | apply qAF) | exact HB.out))):w.heap.size≤gb171));have n3_:=qAA.mk ((by rw [hg];exact (qAV (by repeat (first | (with_reducible first | exact HB.out | apply qAE | apply qAD | apply qAF) | exact HB.out))):w.heap.size≤gb171));clear HB;have HB:=n0_;have BK171:=n1_;have GW171:=n2_;have GE171:=n3_;clear n0_ n1_ n2_ n3_;clear hb hbox hg;have hcz68_0:w67.cell? ⟨gb171,0,none⟩=some (.int .i64 a0_0):=(qAB BK171.out 0).trans rfl;have hcz68_1:w67.cell? ⟨gb171,1,none⟩=some (.int .i64 a0_1):=(qAB BK171.out 1).trans rfl;have hcz68_2:w67.cell? ⟨gb171,2,none⟩=some (.string a0_2):=(qAB BK171.out 2).trans rfl;have hcz68_3:w67.cell? ⟨gb171,3,none⟩=some (.slice A0_3 l0_3.length c0_3):=(qAB BK171.out 3).trans rfl;have hcz68_4:w67.cell? ⟨gb171,4,none⟩=some (.slice A0_4 l0_4.length c0_4):=(qAB BK171.out 4).trans rfl;have hfz68_0:=qAC BK171.out 0;have hfz68_1:=qAC BK171.out 1;have hfz68_2:=qAC BK171.out 2;have hfz68_3:=qAC BK171.out 3;have hfz68_4:=qAC BK171.out 4))
         go_ret
         exact ⟨by first | rfl | (simp [qAT,qAS] <;> rfl) | (simp [*,qAT,qAS] <;> rfl),by repeat (first | (with_reducible first | exact HB.out | apply qAE | apply qAD | apply qAF | refine qAQ ?_ GE171.out) | exact HB.out)⟩
       ·rw [if_neg c63] at H
        have c63b0:(a0_1 == 0)=false:=beq_eq_false_iff_ne.mpr c63
        have c63b1:(a0_1 != 0)=true:=bne_iff_ne.mpr c63
        obtain rfl:=Option.some.inj H
        simp only [Option.some.injEq,Prod.mk.injEq] at H
        obtain ⟨rfl⟩:=H
        go_enter Try.func71,Try.ntmps71
        go_wp2_with (first | ((with_reducible refine qAl (N:=1) rfl ?_);(try (refine qAw (by rfl) ?_;dsimp only));refine qAg ?hg (N:=1) ?hd (cs:=#[.int .i64 a0_0,.int .i64 a0_1,.string a0_2,.slice A0_3 l0_3.length c0_3,.slice A0_4 l0_4.length c0_4]) (t:=34) ?hr ?_;(case hd=>rfl);(case hg=>rfl);(case hr=>first | (go_simp;done) | (go_simp;rfl));intro gb171 hg w69 hbox hb;have n0_:=qAA.mk (qAO (by repeat (first | (with_reducible first | exact HB.out | apply qAE | apply qAD | apply qAF) | exact HB.out)) hb);have n1_:=qAA.mk (hbox);have n2_:=qAA.mk ((by rw [hg];exact (qAV (by repeat (first | (with_reducible first | exact HB.out | apply qAE | apply qAD | apply qAF) | exact HB.out))):w.heap.size≤gb171));have n3_:=qAA.mk ((by rw [hg];exact (qAV (by repeat (first | (with_reducible first | exact HB.out | apply qAE | apply qAD | apply qAF) | exact HB.out))):w.heap.size≤gb171));clear HB;have HB:=n0_;have BK171:=n1_;have GW171:=n2_;have GE171:=n3_;clear n0_ n1_ n2_ n3_;clear hb hbox hg;have hcz70_0:w69.cell? ⟨gb171,0,none⟩=some (.int .i64 a0_0):=(qAB BK171.out 0).trans rfl;have hcz70_1:w69.cell? ⟨gb171,1,none⟩=some (.int .i64 a0_1):=(qAB BK171.out 1).trans rfl;have hcz70_2:w69.cell? ⟨gb171,2,none⟩=some (.string a0_2):=(qAB BK171.out 2).trans rfl;have hcz70_3:w69.cell? ⟨gb171,3,none⟩=some (.slice A0_3 l0_3.length c0_3):=(qAB BK171.out 3).trans rfl;have hcz70_4:w69.cell? ⟨gb171,4,none⟩=some (.slice A0_4 l0_4.length c0_4):=(qAB BK171.out 4).trans rfl;have hfz70_0:=qAC BK171.out 0;have hfz70_1:=qAC BK171.out 1;have hfz70_2:=qAC BK171.out 2;have hfz70_3:=qAC BK171.out 3;have hfz70_4:=qAC BK171.out 4))
        go_ret
        exact ⟨by first | rfl | (simp [qAT,qAS] <;> rfl) | (simp [*,qAT,qAS] <;> rfl),by repeat (first | (with_reducible first | exact HB.out | apply qAE | apply qAD | apply qAF | refine qAQ ?_ GE171.out) | exact HB.out)⟩
      ·rw [if_neg c62] at H
       have c62b0:(a0_0 == 5)=false:=beq_eq_false_iff_ne.mpr c62
       have c62b1:(a0_0 != 5)=true:=bne_iff_ne.mpr c62
       obtain rfl:=Option.some.inj H
       simp only [Option.some.injEq,Prod.mk.injEq] at H
       obtain ⟨rfl⟩:=H
       go_enter Try.func71,Try.ntmps71
       go_wp2_with (first | ((with_reducible refine qAl (N:=1) rfl ?_);(try (refine qAw (by rfl) ?_;dsimp only));refine qAg ?hg (N:=1) ?hd (cs:=#[.int .i64 a0_0,.int .i64 a0_1,.string a0_2,.slice A0_3 l0_3.length c0_3,.slice A0_4 l0_4.length c0_4]) (t:=34) ?hr ?_;(case hd=>rfl);(case hg=>rfl);(case hr=>first | (go_simp;done) | (go_simp;rfl));intro gb171 hg w71 hbox hb;have n0_:=qAA.mk (qAO (by repeat (first | (with_reducible first | exact HB.out | apply qAE | apply qAD | apply qAF) | exact HB.out)) hb);have n1_:=qAA.mk (hbox);have n2_:=qAA.mk ((by rw [hg];exact (qAV (by repeat (first | (with_reducible first | exact HB.out | apply qAE | apply qAD | apply qAF) | exact HB.out))):w.heap.size≤gb171));have n3_:=qAA.mk ((by rw [hg];exact (qAV (by repeat (first | (with_reducible first | exact HB.out | apply qAE | apply qAD | apply qAF) | exact HB.out))):w.heap.size≤gb171));clear HB;have HB:=n0_;have BK171:=n1_;have GW171:=n2_;have GE171:=n3_;clear n0_ n1_ n2_ n3_;clear hb hbox hg;have hcz72_0:w71.cell? ⟨gb171,0,none⟩=some (.int .i64 a0_0):=(qAB BK171.out 0).trans rfl;have hcz72_1:w71.cell? ⟨gb171,1,none⟩=some (.int .i64 a0_1):=(qAB BK171.out 1).trans rfl;have hcz72_2:w71.cell? ⟨gb171,2,none⟩=some (.string a0_2):=(qAB BK171.out 2).trans rfl;have hcz72_3:w71.cell? ⟨gb171,3,none⟩=some (.slice A0_3 l0_3.length c0_3):=(qAB BK171.out 3).trans rfl;have hcz72_4:w71.cell? ⟨gb171,4,none⟩=some (.slice A0_4 l0_4.length c0_4):=(qAB BK171.out 4).trans rfl;have hfz72_0:=qAC BK171.out 0;have hfz72_1:=qAC BK171.out 1;have hfz72_2:=qAC BK171.out 2;have hfz72_3:=qAC BK171.out 3;have hfz72_4:=qAC BK171.out 4))
       go_ret
       exact ⟨by first | rfl | (simp [qAT,qAS] <;> rfl) | (simp [*,qAT,qAS] <;> rfl),by repeat (first | (with_reducible first | exact HB.out | apply qAE | apply qAD | apply qAF | refine qAQ ?_ GE171.out) | exact HB.out)⟩
end Go.Proofs.Ytdommiicjpjfpaa.X
