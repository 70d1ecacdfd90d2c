import Derived.Test.YtdommiicjpjfpaaZStateReads3
import Derived.Test.YtdommiicjpjfpaaZStateReads14
set_option linter.unusedVariables false
set_option linter.unusedSimpArgs false
namespace Go.Proofs.Ytdommiicjpjfpaa.X
open Go.RowKit Go.Proofs.YtdommiicjpjfpaaW.PrintWords Go.Proofs.YtdommiicjpjfpaaW.PrintLast Go.Proofs.YtdommiicjpjfpaaW.PrintMore Go.Proofs.YtdommiicjpjfpaaW
attribute [local go_sem] qBE qBD qBV qBU qA6 qA5 qBJ qBI
mutual
def qAG.j0:Nat→Int→Int→Int→Bool→Int→Int→ByteArray→List (S34)→List ByteArray→Option (Int)
 | 0,_,_,_,_,_,_,_,_,_=>none
 | k+1,x1,x2,x7,x22,x173000,x173001,x173002,x173003,x173004=>if x22=true then (some x7) else (if x173000=3 then (if (x173002.size:Int) > 2048 then (some x7) else (qAG.j1 k x1 x7 (wrap64 ((wrap64 (x2+1))+(x173002.size:Int))) x173000 x173001 x173002 x173003 x173004)) else (qAG.j1 k x1 x7 (wrap64 (x2+1)) x173000 x173001 x173002 x173003 x173004))
def qAG.j1:Nat→Int→Int→Int→Int→Int→ByteArray→List (S34)→List ByteArray→Option (Int)
 | 0,_,_,_,_,_,_,_,_=>none
 | k+1,x1,x7,x9,x173000,x173001,x173002,x173003,x173004=>qAG.l0 k x1 x7 x9 0 x173000 x173001 x173002 x173003 x173004
def qAG.l0:Nat→Int→Int→Int→Int→Int→Int→ByteArray→List (S34)→List ByteArray→Option (Int)
 | 0,_,_,_,_,_,_,_,_,_=>none
 | k+1,x1,x7,x9,x10,x173000,x173001,x173002,x173003,x173004=>if x10 < (x173003.length:Int) then (qAG.j3 k x1 x7 x9 x10 (decide (x9 < x7)) x173000 x173001 x173002 x173003 x173004) else (qAG.j3 k x1 x7 x9 x10 false x173000 x173001 x173002 x173003 x173004)
def qAG.j3:Nat→Int→Int→Int→Int→Bool→Int→Int→ByteArray→List (S34)→List ByteArray→Option (Int)
 | 0,_,_,_,_,_,_,_,_,_,_=>none
 | k+1,x1,x7,x9,x10,x48,x173000,x173001,x173002,x173003,x173004=>if x48=true then (if x173000=5 then (if 0≤x10 then (if x10 < (x173004.length:Int) then (if ((rdOf ByteArray.empty x173004 x10).size:Int) > 32 then (some x7) else (if x10 > 0 then (if 0≤(wrap64 (x10 - 1)) then (if (wrap64 (x10 - 1)) < (x173004.length:Int) then (if ((Op.bytesLess ((rdOf ByteArray.empty x173004 (wrap64 (x10 - 1))).toList) ((rdOf ByteArray.empty x173004 x10).toList))=true) then (if x10 < (x173003.length:Int) then ((qAG.f k ((qAR x173003 x10).f0) ((qAR x173003 x10).f1) ((qAR x173003 x10).f2) ((qAR x173003 x10).f3) ((qAR x173003 x10).f4) (wrap64 (x1+1)) (wrap64 ((wrap64 (x9+1))+((rdOf ByteArray.empty x173004 x10).size:Int)))).bind fun t179=>(qAG.l0 k x1 x7 t179 (wrap64 (x10+1)) x173000 x173001 x173002 x173003 x173004)) else (none)) else (some x7)) else (none)) else (none)) else (if x10 < (x173003.length:Int) then ((qAG.f k ((qAR x173003 x10).f0) ((qAR x173003 x10).f1) ((qAR x173003 x10).f2) ((qAR x173003 x10).f3) ((qAR x173003 x10).f4) (wrap64 (x1+1)) (wrap64 ((wrap64 (x9+1))+((rdOf ByteArray.empty x173004 x10).size:Int)))).bind fun t182=>(qAG.l0 k x1 x7 t182 (wrap64 (x10+1)) x173000 x173001 x173002 x173003 x173004)) else (none)))) else (none)) else (none)) else (if 0≤x10 then (if x10 < (x173003.length:Int) then ((qAG.f k ((qAR x173003 x10).f0) ((qAR x173003 x10).f1) ((qAR x173003 x10).f2) ((qAR x173003 x10).f3) ((qAR x173003 x10).f4) (wrap64 (x1+1)) x9).bind fun t184=>(qAG.l0 k x1 x7 t184 (wrap64 (x10+1)) x173000 x173001 x173002 x173003 x173004)) else (none)) else (none))) else (if x9 > 2048 then (some x7) else (some x9))
def qAG.f:Nat→Int→Int→ByteArray→List (S34)→List ByteArray→Int→Int→Option (Int)
 | 0,_,_,_,_,_,_,_=>none
 | k+1,a0_0,a0_1,a0_2,l0_3,l0_4,a1,a2=>(qA4.f a0_0 a0_1 a0_2 l0_3 l0_4).bind fun t173=>(if t173=true then (if a1 ≥ 8 then (qAG.j0 k a1 a2 2049 true a0_0 a0_1 a0_2 l0_3 l0_4) else (qAG.j0 k a1 a2 2049 (decide (a2 > 2048)) a0_0 a0_1 a0_2 l0_3 l0_4)) else (qAG.j0 k a1 a2 2049 true a0_0 a0_1 a0_2 l0_3 l0_4))
end
set_option maxHeartbeats 8000000 in
set_option maxRecDepth 100000 in
theorem qAG.calls (k:Nat):∀ (a0_0:Int) (a0_1:Int) (a0_2:ByteArray) (A0_3:Option Addr) (c0_3:Nat) (l0_3:List (S34)) (A0_4:Option Addr) (c0_4:Nat) (l0_4:List ByteArray) (a1:Int) (a2:Int) (r:Int) (w:World) (hr0_3:Kd.C k34 w A0_3 l0_3.length l0_3) (hc0_3:l0_3.length≤c0_3) (hr0_4:Kd.C Kd.string w A0_4 l0_4.length l0_4) (hc0_4:l0_4.length≤c0_4) (h:qAG.f k a0_0 a0_1 a0_2 l0_3 l0_4 a1 a2=some r),
  Calls Try.prog 56 #[.agg #[.int .i64 a0_0,.int .i64 a0_1,.string a0_2,.slice A0_3 l0_3.length c0_3,.slice A0_4 l0_4.length c0_4],.int .i64 a1,.int .i64 a2] w fun e w'=>e=.returned (.int .i64 r)∧Below w.heap.size w w':=by
 induction k using Nat.strongRecOn with
 | _ k ih =>
 intro a0_0 a0_1 a0_2 A0_3 c0_3 l0_3 A0_4 c0_4 l0_4 a1 a2 r w hr0_3 hc0_3 hr0_4 hc0_4 h
 cases k with
 | zero=>exact absurd h (by simp [qAG.f])
 | succ k =>
 simp only [qAG.f] at h
 have hu34:=Try.underlying34
 have HR0_3:=qAA.mk hr0_3
 have HC0_3:=qAA.mk hc0_3
 clear hr0_3 hc0_3
 have HR0_4:=qAA.mk hr0_4
 have HC0_4:=qAA.mk hc0_4
 clear hr0_4 hc0_4
 have HB:=qAA.mk (Below.refl w.heap.size w)
 have H:((qA4.f a0_0 a0_1 a0_2 l0_3 l0_4).bind fun t173=>(if t173=true then (if a1 ≥ 8 then (qAG.j0 k a1 a2 2049 true a0_0 a0_1 a0_2 l0_3 l0_4) else (qAG.j0 k a1 a2 2049 (decide (a2 > 2048)) a0_0 a0_1 a0_2 l0_3 l0_4)) else (qAG.j0 k a1 a2 2049 true a0_0 a0_1 a0_2 l0_3 l0_4)))=some r:=h
 clear h
 replace H:=Option.bind_eq_some_iff.mp H
 obtain ⟨t173,A40,H⟩:=H
 replace H:(if t173=true then (if a1 ≥ 8 then (qAG.j0 k a1 a2 2049 true a0_0 a0_1 a0_2 l0_3 l0_4) else (qAG.j0 k a1 a2 2049 (decide (a2 > 2048)) a0_0 a0_1 a0_2 l0_3 l0_4)) else (qAG.j0 k a1 a2 2049 true a0_0 a0_1 a0_2 l0_3 l0_4))=some r:=H
 have A4:=qAA.mk A40
 clear A40
 have HC5:=qAA.mk H
 clear H
 go_enter Try.func56,Try.ntmps56
 go_upto_region 3 with (first | ((with_reducible refine qAl (N:=3) rfl ?_);refine qAg ?hg (N:=3) ?hd (cs:=#[.int .i64 a0_0,.int .i64 a0_1,.string a0_2,.slice A0_3 l0_3.length c0_3,.slice A0_4 l0_4.length c0_4]) (t:=34) ?hr ?_;(case hd=>rfl);(case hg=>rfl);(case hr=>first | (go_simp;done) | (go_simp;rfl));intro gb172 hg w6 hbox hb;have n0_:=qAA.mk (qAO (by repeat (first | (with_reducible first | exact HB.out | apply qAE | apply qAD | apply qAF) | exact HB.out)) hb);have n1_:=qAA.mk (hbox);have n2_:=qAA.mk ((by rw [hg];exact (qAV (by repeat (first | (with_reducible first | exact HB.out | apply qAE | apply qAD | apply qAF) | exact HB.out))):w.heap.size≤gb172));have n3_:=qAA.mk ((by rw [hg];exact (qAV (by repeat (first | (with_reducible first | exact HB.out | apply qAE | apply qAD | apply qAF) | exact HB.out))):w.heap.size≤gb172));clear HB;have HB:=n0_;have BK172:=n1_;have GW172:=n2_;have GE172:=n3_;clear n0_ n1_ n2_ n3_;clear hb hbox hg;have hcz7_0:w6.cell? ⟨gb172,0,none⟩=some (.int .i64 a0_0):=(qAB BK172.out 0).trans rfl;have hcz7_1:w6.cell? ⟨gb172,1,none⟩=some (.int .i64 a0_1):=(qAB BK172.out 1).trans rfl;have hcz7_2:w6.cell? ⟨gb172,2,none⟩=some (.string a0_2):=(qAB BK172.out 2).trans rfl;have hcz7_3:w6.cell? ⟨gb172,3,none⟩=some (.slice A0_3 l0_3.length c0_3):=(qAB BK172.out 3).trans rfl;have hcz7_4:w6.cell? ⟨gb172,4,none⟩=some (.slice A0_4 l0_4.length c0_4):=(qAB BK172.out 4).trans rfl;have hfz7_0:=qAC BK172.out 0;have hfz7_1:=qAC BK172.out 1;have hfz7_2:=qAC BK172.out 2;have hfz7_3:=qAC BK172.out 3;have hfz7_4:=qAC BK172.out 4) | (go_at_call 71;(with_reducible refine (qA4.calls a0_0 a0_1 a0_2 _ _ l0_3 _ _ l0_4 t173 _ ?side1 ?side2 ?side3 ?side4 A4.out).mono ?_);(case side1=>repeat (first | exact (Kd.qAc HR0_3.out HB.out) | (with_reducible refine Kd.qAh ?_ _) | (with_reducible refine Kd.qAk ?_ _) | (with_reducible refine Kd.qAs ?_)));(case side2=>exact HC0_3.out);(case side3=>repeat (first | exact (Kd.qAc HR0_4.out HB.out) | (with_reducible refine Kd.qAh ?_ _) | (with_reducible refine Kd.qAk ?_ _) | (with_reducible refine Kd.qAs ?_)));(case side4=>exact HC0_4.out);rintro e w8 ⟨rfl,hb⟩;have n0_:=qAA.mk (qAX (g:=gb172) (o:=.cells #[.int .i64 a0_0,.int .i64 a0_1,.string a0_2,.slice A0_3 l0_3.length c0_3,.slice A0_4 l0_4.length c0_4] 34 (0,0)) (by (with_reducible repeat (first | refine qAa ?_ _ | refine qAL ?_ | refine qAP ?_ _));exact BK172.out) hb);have n1_:=qAA.mk (qAO (by repeat (first | (with_reducible first | exact HB.out | apply qAE | apply qAD | apply qAF | refine qAQ ?_ GE172.out) | exact HB.out)) hb);clear BK172;clear HB;have BK172:=n0_;have HB:=n1_;clear n0_ n1_;(try clear hb);(try clear hb2);(try clear hk);(try clear hi)))
 repeat (go_quiet (first | ((with_reducible refine qAl (N:=3) rfl ?_);refine qAg ?hg (N:=3) ?hd (cs:=#[.int .i64 a0_0,.int .i64 a0_1,.string a0_2,.slice A0_3 l0_3.length c0_3,.slice A0_4 l0_4.length c0_4]) (t:=34) ?hr ?_;(case hd=>rfl);(case hg=>rfl);(case hr=>first | (go_simp;done) | (go_simp;rfl));intro gb172 hg w6 hbox hb;have n0_:=qAA.mk (qAO (by repeat (first | (with_reducible first | exact HB.out | apply qAE | apply qAD | apply qAF) | exact HB.out)) hb);have n1_:=qAA.mk (hbox);have n2_:=qAA.mk ((by rw [hg];exact (qAV (by repeat (first | (with_reducible first | exact HB.out | apply qAE | apply qAD | apply qAF) | exact HB.out))):w.heap.size≤gb172));have n3_:=qAA.mk ((by rw [hg];exact (qAV (by repeat (first | (with_reducible first | exact HB.out | apply qAE | apply qAD | apply qAF) | exact HB.out))):w.heap.size≤gb172));clear HB;have HB:=n0_;have BK172:=n1_;have GW172:=n2_;have GE172:=n3_;clear n0_ n1_ n2_ n3_;clear hb hbox hg;have hcz7_0:w6.cell? ⟨gb172,0,none⟩=some (.int .i64 a0_0):=(qAB BK172.out 0).trans rfl;have hcz7_1:w6.cell? ⟨gb172,1,none⟩=some (.int .i64 a0_1):=(qAB BK172.out 1).trans rfl;have hcz7_2:w6.cell? ⟨gb172,2,none⟩=some (.string a0_2):=(qAB BK172.out 2).trans rfl;have hcz7_3:w6.cell? ⟨gb172,3,none⟩=some (.slice A0_3 l0_3.length c0_3):=(qAB BK172.out 3).trans rfl;have hcz7_4:w6.cell? ⟨gb172,4,none⟩=some (.slice A0_4 l0_4.length c0_4):=(qAB BK172.out 4).trans rfl;have hfz7_0:=qAC BK172.out 0;have hfz7_1:=qAC BK172.out 1;have hfz7_2:=qAC BK172.out 2;have hfz7_3:=qAC BK172.out 3;have hfz7_4:=qAC BK172.out 4) | (go_at_call 71;(with_reducible refine (qA4.calls a0_0 a0_1 a0_2 _ _ l0_3 _ _ l0_4 t173 _ ?side1 ?side2 ?side3 ?side4 A4.out).mono ?_);(case side1=>repeat (first | exact (Kd.qAc HR0_3.out HB.out) | (with_reducible refine Kd.qAh ?_ _) | (with_reducible refine Kd.qAk ?_ _) | (with_reducible refine Kd.qAs ?_)));(case side2=>exact HC0_3.out);(case side3=>repeat (first | exact (Kd.qAc HR0_4.out HB.out) | (with_reducible refine Kd.qAh ?_ _) | (with_reducible refine Kd.qAk ?_ _) | (with_reducible refine Kd.qAs ?_)));(case side4=>exact HC0_4.out);rintro e w8 ⟨rfl,hb⟩;have n0_:=qAA.mk (qAX (g:=gb172) (o:=.cells #[.int .i64 a0_0,.int .i64 a0_1,.string a0_2,.slice A0_3 l0_3.length c0_3,.slice A0_4 l0_4.length c0_4] 34 (0,0)) (by (with_reducible repeat (first | refine qAa ?_ _ | refine qAL ?_ | refine qAP ?_ _));exact BK172.out) hb);have n1_:=qAA.mk (qAO (by repeat (first | (with_reducible first | exact HB.out | apply qAE | apply qAD | apply qAF | refine qAQ ?_ GE172.out) | exact HB.out)) hb);clear BK172;clear HB;have BK172:=n0_;have HB:=n1_;clear n0_ n1_;(try clear hb);(try clear hb2);(try clear hk);(try clear hi)));go_upto_region 3 with (first | ((with_reducible refine qAl (N:=3) rfl ?_);refine qAg ?hg (N:=3) ?hd (cs:=#[.int .i64 a0_0,.int .i64 a0_1,.string a0_2,.slice A0_3 l0_3.length c0_3,.slice A0_4 l0_4.length c0_4]) (t:=34) ?hr ?_;(case hd=>rfl);(case hg=>rfl);(case hr=>first | (go_simp;done) | (go_simp;rfl));intro gb172 hg w6 hbox hb;have n0_:=qAA.mk (qAO (by repeat (first | (with_reducible first | exact HB.out | apply qAE | apply qAD | apply qAF) | exact HB.out)) hb);have n1_:=qAA.mk (hbox);have n2_:=qAA.mk ((by rw [hg];exact (qAV (by repeat (first | (with_reducible first | exact HB.out | apply qAE | apply qAD | apply qAF) | exact HB.out))):w.heap.size≤gb172));have n3_:=qAA.mk ((by rw [hg];exact (qAV (by repeat (first | (with_reducible first | exact HB.out | apply qAE | apply qAD | apply qAF) | exact HB.out))):w.heap.size≤gb172));clear HB;have HB:=n0_;have BK172:=n1_;have GW172:=n2_;have GE172:=n3_;clear n0_ n1_ n2_ n3_;clear hb hbox hg;have hcz7_0:w6.cell? ⟨gb172,0,none⟩=some (.int .i64 a0_0):=(qAB BK172.out 0).trans rfl;have hcz7_1:w6.cell? ⟨gb172,1,none⟩=some (.int .i64 a0_1):=(qAB BK172.out 1).trans rfl;have hcz7_2:w6.cell? ⟨gb172,2,none⟩=some (.string a0_2):=(qAB BK172.out 2).trans rfl;have hcz7_3:w6.cell? ⟨gb172,3,none⟩=some (.slice A0_3 l0_3.length c0_3):=(qAB BK172.out 3).trans rfl;have hcz7_4:w6.cell? ⟨gb172,4,none⟩=some (.slice A0_4 l0_4.length c0_4):=(qAB BK172.out 4).trans rfl;have hfz7_0:=qAC BK172.out 0;have hfz7_1:=qAC BK172.out 1;have hfz7_2:=qAC BK172.out 2;have hfz7_3:=qAC BK172.out 3;have hfz7_4:=qAC BK172.out 4) | (go_at_call 71;(with_reducible refine (qA4.calls a0_0 a0_1 a0_2 _ _ l0_3 _ _ l0_4 t173 _ ?side1 ?side2 ?side3 ?side4 A4.out).mono ?_);(case side1=>repeat (first | exact (Kd.qAc HR0_3.out HB.out) | (with_reducible refine Kd.qAh ?_ _) | (with_reducible refine Kd.qAk ?_ _) | (with_reducible refine Kd.qAs ?_)));(case side2=>exact HC0_3.out);(case side3=>repeat (first | exact (Kd.qAc HR0_4.out HB.out) | (with_reducible refine Kd.qAh ?_ _) | (with_reducible refine Kd.qAk ?_ _) | (with_reducible refine Kd.qAs ?_)));(case side4=>exact HC0_4.out);rintro e w8 ⟨rfl,hb⟩;have n0_:=qAA.mk (qAX (g:=gb172) (o:=.cells #[.int .i64 a0_0,.int .i64 a0_1,.string a0_2,.slice A0_3 l0_3.length c0_3,.slice A0_4 l0_4.length c0_4] 34 (0,0)) (by (with_reducible repeat (first | refine qAa ?_ _ | refine qAL ?_ | refine qAP ?_ _));exact BK172.out) hb);have n1_:=qAA.mk (qAO (by repeat (first | (with_reducible first | exact HB.out | apply qAE | apply qAD | apply qAF | refine qAQ ?_ GE172.out) | exact HB.out)) hb);clear BK172;clear HB;have BK172:=n0_;have HB:=n1_;clear n0_ n1_;(try clear hb);(try clear hb2);(try clear hk);(try clear hi))))
 (try simp only [Act.put,qs1,qs2,qs3])
 go_cut [22] (fun v22 wc=>∃ (kq:Nat) (x22_4:Bool),v22=.bool x22_4∧qAA (qAG.j0 kq a1 a2 2049 x22_4 a0_0 a0_1 a0_2 l0_3 l0_4=some r)∧qAA (kq≤k)∧qAA (wc.heap[gb172]?=some (.cells #[.int .i64 a0_0,.int .i64 a0_1,.string a0_2,(.slice A0_3 l0_3.length c0_3),(.slice A0_4 l0_4.length c0_4)] 34 (0,0)))∧qAA (Below w.heap.size w wc))
 case first =>
  have H:=HC5.out
  clear HC5
  by_cases c9:t173=true
  ·subst c9
   have H1:(if a1 ≥ 8 then (qAG.j0 k a1 a2 2049 true a0_0 a0_1 a0_2 l0_3 l0_4) else (qAG.j0 k a1 a2 2049 (decide (a2 > 2048)) a0_0 a0_1 a0_2 l0_3 l0_4))=some r:=by rw [if_pos rfl] at H;exact H
   clear H
   have H:=H1
   clear H1
   by_cases c10:a1 ≥ 8
   ·rw [if_pos c10] at H
    have c10b0:decide (8≤a1)=true:=decide_eq_true c10
    clear c10
    (first | rw [c10b0] | (simp only [qAZ,qAb];rw [c10b0]) | rw [c10b1] | (simp only [qAZ,qAb];rw [c10b1]) | skip)
    have H':=qAA.mk H
    clear H
    go_wp2
    repeat (go_quiet (fail);try go_wp2)
    go_meet
    case rel=>exact ⟨_,(true),(by first | rfl | (simp;done) | (simp [*];done)),H',⟨by first | omega | exact Nat.le_refl _⟩,⟨by (with_reducible repeat (first | refine qAa ?_ _ | refine qAL ?_ | refine qAP ?_ _));exact BK172.out⟩,⟨by repeat (first | (with_reducible first | exact HB.out | apply qAE | apply qAD | apply qAF | refine qAQ ?_ GE172.out) | exact HB.out)⟩⟩
   ·rw [if_neg c10] at H
    have c10b0:decide (8≤a1)=false:=decide_eq_false c10
    clear c10
    (first | rw [c10b0] | (simp only [qAZ,qAb];rw [c10b0]) | rw [c10b1] | (simp only [qAZ,qAb];rw [c10b1]) | skip)
    have H':=qAA.mk H
    clear H
    go_wp2
    repeat (go_quiet (fail);try go_wp2)
    go_meet
    case rel=>exact ⟨_,(decide (a2 > 2048)),(by first | rfl | (simp;done) | (simp [*];done)),H',⟨by first | omega | exact Nat.le_refl _⟩,⟨by (with_reducible repeat (first | refine qAa ?_ _ | refine qAL ?_ | refine qAP ?_ _));exact BK172.out⟩,⟨by repeat (first | (with_reducible first | exact HB.out | apply qAE | apply qAD | apply qAF | refine qAQ ?_ GE172.out) | exact HB.out)⟩⟩
  ·replace c9:=Bool.eq_false_iff.mpr c9
   subst c9
   have H1:(qAG.j0 k a1 a2 2049 true a0_0 a0_1 a0_2 l0_3 l0_4)=some r:=by rw [if_neg (show ¬ (false=true) by decide)] at H;exact H
   clear H
   have H:=H1
   clear H1
   have H':=qAA.mk H
   clear H
   go_wp2
   repeat (go_quiet (fail);try go_wp2)
   go_meet
   case rel=>exact ⟨_,(true),(by first | rfl | (simp;done) | (simp [*];done)),H',⟨by first | omega | exact Nat.le_refl _⟩,⟨by (with_reducible repeat (first | refine qAa ?_ _ | refine qAL ?_ | refine qAP ?_ _));exact BK172.out⟩,⟨by repeat (first | (with_reducible first | exact HB.out | apply qAE | apply qAD | apply qAF | refine qAQ ?_ GE172.out) | exact HB.out)⟩⟩
 case rest =>
  clear HC5
  try clear c1
  try clear p2
  try clear c5
  try clear c9
  try clear c10
  try clear c10b0
  try clear c10b1
  try clear hcz7_0
  try clear hcz7_1
  try clear hcz7_2
  try clear hcz7_3
  try clear hcz7_4
  try clear hfz7_0
  try clear hfz7_1
  try clear hfz7_2
  try clear hfz7_3
  try clear hfz7_4
  obtain ⟨kq,x22_4,rfl,HA,HJ4,BK172,HB⟩:=hcut
  cases kq with
  | zero=>exact absurd HA.out (by simp [qAG.j0])
  | succ kj4 =>
   have H:=HA.out
   clear HA
   simp only [qAG.j0] at H
   by_cases c11:x22_4=true
   ·subst c11
    have H1:(some 2049)=some r:=by rw [if_pos rfl] at H;exact H
    clear H
    have H:=H1
    clear H1
    obtain rfl:=Option.some.inj H
    simp only [Option.some.injEq,Prod.mk.injEq] at H
    obtain ⟨rfl⟩:=H
    go_wp2
    repeat (go_quiet (fail);try go_wp2)
    go_ret
    exact ⟨by first | rfl | (simp [qAT,qAS] <;> rfl) | (simp [*,qAT,qAS] <;> rfl),by repeat (first | (with_reducible first | exact HB.out | apply qAE | apply qAD | apply qAF | refine qAQ ?_ GE172.out) | exact HB.out)⟩
   ·replace c11:=Bool.eq_false_iff.mpr c11
    subst c11
    have H1:(if a0_0=3 then (if (a0_2.size:Int) > 2048 then (some 2049) else (qAG.j1 kj4 a1 2049 (wrap64 ((wrap64 (a2+1))+(a0_2.size:Int))) a0_0 a0_1 a0_2 l0_3 l0_4)) else (qAG.j1 kj4 a1 2049 (wrap64 (a2+1)) a0_0 a0_1 a0_2 l0_3 l0_4))=some r:=by rw [if_neg (show ¬ (false=true) by decide)] at H;exact H
    clear H
    have H:=H1
    clear H1
    have HC12:=qAA.mk H
    clear H
    have hcz13_0:wc.cell? ⟨gb172,0,none⟩=some (.int .i64 a0_0):=(qAB BK172.out 0).trans rfl
    have hcz13_1:wc.cell? ⟨gb172,1,none⟩=some (.int .i64 a0_1):=(qAB BK172.out 1).trans rfl
    have hcz13_2:wc.cell? ⟨gb172,2,none⟩=some (.string a0_2):=(qAB BK172.out 2).trans rfl
    have hcz13_3:wc.cell? ⟨gb172,3,none⟩=some (.slice A0_3 l0_3.length c0_3):=(qAB BK172.out 3).trans rfl
    have hcz13_4:wc.cell? ⟨gb172,4,none⟩=some (.slice A0_4 l0_4.length c0_4):=(qAB BK172.out 4).trans rfl
    have hfz13_0:=qAC BK172.out 0
    have hfz13_1:=qAC BK172.out 1
    have hfz13_2:=qAC BK172.out 2
    have hfz13_3:=qAC BK172.out 3
    have hfz13_4:=qAC BK172.out 4
    go_upto_if 28 with (fail)
    repeat (go_quiet (fail);go_upto_if 28 with (fail))
    go_cut [9] (fun v9 wc=>∃ (kq:Nat) (x9_11:Int),v9=.int .i64 x9_11∧qAA (qAG.j1 kq a1 2049 x9_11 a0_0 a0_1 a0_2 l0_3 l0_4=some r)∧qAA (kq≤kj4)∧qAA (wc.heap[gb172]?=some (.cells #[.int .i64 a0_0,.int .i64 a0_1,.string a0_2,(.slice A0_3 l0_3.length c0_3),(.slice A0_4 l0_4.length c0_4)] 34 (0,0)))∧qAA (Below w.heap.size w wc))
    case first =>
     have H:=HC12.out
     clear HC12
     by_cases c14:a0_0=3
     ·rw [if_pos c14] at H
      have c14b0:(a0_0 == 3)=true:=beq_iff_eq.mpr c14
      have c14b1:(a0_0 != 3)=false:=bne_eq_false_iff_eq.mpr c14
      clear c14
      (first | rw [c14b0] | (simp only [qAZ,qAb];rw [c14b0]) | rw [c14b1] | (simp only [qAZ,qAb];rw [c14b1]) | skip)
      by_cases c15:(a0_2.size:Int) > 2048
      ·rw [if_pos c15] at H
       have c15b0:decide (2048 < (a0_2.size:Int))=true:=decide_eq_true c15
       have c15b1:decide (2048 < a0_2.size)=true:=decide_eq_true (by omega)
       clear c15
       obtain rfl:=Option.some.inj H
       simp only [Option.some.injEq,Prod.mk.injEq] at H
       obtain ⟨rfl⟩:=H
       have hcz16_0:wc.cell? ⟨gb172,0,none⟩=some (.int .i64 a0_0):=(qAB BK172.out 0).trans rfl
       have hcz16_1:wc.cell? ⟨gb172,1,none⟩=some (.int .i64 a0_1):=(qAB BK172.out 1).trans rfl
       have hcz16_2:wc.cell? ⟨gb172,2,none⟩=some (.string a0_2):=(qAB BK172.out 2).trans rfl
       have hcz16_3:wc.cell? ⟨gb172,3,none⟩=some (.slice A0_3 l0_3.length c0_3):=(qAB BK172.out 3).trans rfl
       have hcz16_4:wc.cell? ⟨gb172,4,none⟩=some (.slice A0_4 l0_4.length c0_4):=(qAB BK172.out 4).trans rfl
       have hfz16_0:=qAC BK172.out 0
       have hfz16_1:=qAC BK172.out 1
       have hfz16_2:=qAC BK172.out 2
       have hfz16_3:=qAC BK172.out 3
       have hfz16_4:=qAC BK172.out 4
       go_wp2
       repeat (go_quiet (fail);try go_wp2)
       go_ret
       exact ⟨by first | rfl | (simp [qAT,qAS] <;> rfl) | (simp [*,qAT,qAS] <;> rfl),by repeat (first | (with_reducible first | exact HB.out | apply qAE | apply qAD | apply qAF | refine qAQ ?_ GE172.out) | exact HB.out)⟩
      ·rw [if_neg c15] at H
       have c15b0:decide (2048 < (a0_2.size:Int))=false:=decide_eq_false c15
       have c15b1:decide (2048 < a0_2.size)=false:=decide_eq_false (by omega)
       clear c15
       have H':=qAA.mk H
       clear H
       have hcz17_0:wc.cell? ⟨gb172,0,none⟩=some (.int .i64 a0_0):=(qAB BK172.out 0).trans rfl
       have hcz17_1:wc.cell? ⟨gb172,1,none⟩=some (.int .i64 a0_1):=(qAB BK172.out 1).trans rfl
       have hcz17_2:wc.cell? ⟨gb172,2,none⟩=some (.string a0_2):=(qAB BK172.out 2).trans rfl
       have hcz17_3:wc.cell? ⟨gb172,3,none⟩=some (.slice A0_3 l0_3.length c0_3):=(qAB BK172.out 3).trans rfl
       have hcz17_4:wc.cell? ⟨gb172,4,none⟩=some (.slice A0_4 l0_4.length c0_4):=(qAB BK172.out 4).trans rfl
       have hfz17_0:=qAC BK172.out 0
       have hfz17_1:=qAC BK172.out 1
       have hfz17_2:=qAC BK172.out 2
       have hfz17_3:=qAC BK172.out 3
       have hfz17_4:=qAC BK172.out 4
       go_wp2
       repeat (go_quiet (fail);try go_wp2)
       go_meet
       case rel=>exact ⟨_,(wrap64 ((wrap64 (a2+1))+(a0_2.size:Int))),(by first | rfl | (simp;done) | (simp [*];done)),H',⟨by have:=HJ4.out;first | omega | exact Nat.le_refl _⟩,⟨by (with_reducible repeat (first | refine qAa ?_ _ | refine qAL ?_ | refine qAP ?_ _));exact BK172.out⟩,⟨by repeat (first | (with_reducible first | exact HB.out | apply qAE | apply qAD | apply qAF | refine qAQ ?_ GE172.out) | exact HB.out)⟩⟩
     ·rw [if_neg c14] at H
      have c14b0:(a0_0 == 3)=false:=beq_eq_false_iff_ne.mpr c14
      have c14b1:(a0_0 != 3)=true:=bne_iff_ne.mpr c14
      (first | rw [c14b0] | (simp only [qAZ,qAb];rw [c14b0]) | rw [c14b1] | (simp only [qAZ,qAb];rw [c14b1]) | skip)
      have H':=qAA.mk H
      clear H
      go_wp2
      repeat (go_quiet (fail);try go_wp2)
      go_meet
      case rel=>exact ⟨_,(wrap64 (a2+1)),(by first | rfl | (simp;done) | (simp [*];done)),H',⟨by have:=HJ4.out;first | omega | exact Nat.le_refl _⟩,⟨by (with_reducible repeat (first | refine qAa ?_ _ | refine qAL ?_ | refine qAP ?_ _));exact BK172.out⟩,⟨by repeat (first | (with_reducible first | exact HB.out | apply qAE | apply qAD | apply qAF | refine qAQ ?_ GE172.out) | exact HB.out)⟩⟩
    case rest =>
     clear HC12
     try clear c1
     try clear p2
     try clear c5
     try clear p6
     try clear c9
     try clear c10
     try clear c10b0
     try clear c10b1
     try clear c11
     try clear c14
     try clear c14b0
     try clear c14b1
     try clear c15
     try clear c15b0
     try clear c15b1
     try clear hcz13_0
     try clear hcz13_1
     try clear hcz13_2
     try clear hcz13_3
     try clear hcz13_4
     try clear hcz16_0
     try clear hcz16_1
     try clear hcz16_2
     try clear hcz16_3
     try clear hcz16_4
     try clear hcz17_0
     try clear hcz17_1
     try clear hcz17_2
     try clear hcz17_3
     try clear hcz17_4
     try clear hcz7_0
     try clear hcz7_1
     try clear hcz7_2
     try clear hcz7_3
     try clear hcz7_4
     try clear hfz13_0
     try clear hfz13_1
     try clear hfz13_2
     try clear hfz13_3
     try clear hfz13_4
     try clear hfz16_0
     try clear hfz16_1
     try clear hfz16_2
     try clear hfz16_3
     try clear hfz16_4
     try clear hfz17_0
     try clear hfz17_1
     try clear hfz17_2
     try clear hfz17_3
     try clear hfz17_4
     try clear hfz7_0
     try clear hfz7_1
     try clear hfz7_2
     try clear hfz7_3
     try clear hfz7_4
     try clear p2
     obtain ⟨kq,x9_11,rfl,HA,HJ11,BK172,HB⟩:=hcut
     cases kq with
     | zero=>exact absurd HA.out (by simp [qAG.j1])
     | succ kj11 =>
      have H:=HA.out
      clear HA
      simp only [qAG.j1] at H
      have H':=qAA.mk H
      clear H
      go_wp2
      repeat (go_quiet (fail);try go_wp2)
      go_loopg [9,10] kj11 (fun kq v9 v10 w'=>∃ (x9_3:Int) (x10_3:Int),v9=.int .i64 x9_3∧v10=.int .i64 x10_3∧qAA (qAG.l0 kq a1 2049 x9_3 x10_3 a0_0 a0_1 a0_2 l0_3 l0_4=some r)∧qAA (kq≤kj11)∧qAA (w'.heap[gb172]?=some (.cells #[.int .i64 a0_0,.int .i64 a0_1,.string a0_2,(.slice A0_3 l0_3.length c0_3),(.slice A0_4 l0_4.length c0_4)] 34 (0,0)))∧qAA (Below w.heap.size w w'))
      case atStart=>exact ⟨(x9_11),(0),(by first | rfl | (simp;done) | (simp [*];done)),(by first | rfl | (simp;done) | (simp [*];done)),H',⟨Nat.le_refl _⟩,⟨by (with_reducible repeat (first | refine qAa ?_ _ | refine qAL ?_ | refine qAP ?_ _));exact BK172.out⟩,⟨by repeat (first | (with_reducible first | exact HB.out | apply qAE | apply qAD | apply qAF | refine qAQ ?_ GE172.out) | exact HB.out)⟩⟩
      case round =>
       clear H'
       try clear c1
       try clear p2
       try clear c5
       try clear p6
       try clear c9
       try clear c10
       try clear c10b0
       try clear c10b1
       try clear c11
       try clear c14
       try clear c14b0
       try clear c14b1
       try clear c15
       try clear c15b0
       try clear c15b1
       try clear hcz13_0
       try clear hcz13_1
       try clear hcz13_2
       try clear hcz13_3
       try clear hcz13_4
       try clear hcz16_0
       try clear hcz16_1
       try clear hcz16_2
       try clear hcz16_3
       try clear hcz16_4
       try clear hcz17_0
       try clear hcz17_1
       try clear hcz17_2
       try clear hcz17_3
       try clear hcz17_4
       try clear hcz7_0
       try clear hcz7_1
       try clear hcz7_2
       try clear hcz7_3
       try clear hcz7_4
       try clear hfz13_0
       try clear hfz13_1
       try clear hfz13_2
       try clear hfz13_3
       try clear hfz13_4
       try clear hfz16_0
       try clear hfz16_1
       try clear hfz16_2
       try clear hfz16_3
       try clear hfz16_4
       try clear hfz17_0
       try clear hfz17_1
       try clear hfz17_2
       try clear hfz17_3
       try clear hfz17_4
       try clear hfz7_0
       try clear hfz7_1
       try clear hfz7_2
       try clear hfz7_3
       try clear hfz7_4
       try clear p2
       try clear p6
       obtain ⟨x9_3,x10_3,rfl,rfl,HA,HK3,BK172,HB⟩:=hrel
       cases gk with
       | zero=>exact absurd HA.out (by simp [qAG.l0])
       | succ k3 =>
        have H:=HA.out
        clear HA
        simp only [qAG.l0] at H
        have HC18:=qAA.mk H
        clear H
        go_upto_region 11 with (fail)
        repeat (go_quiet (fail);go_upto_region 11 with (fail))
        go_cut [48] (fun v48 wc=>∃ (kq:Nat) (x48_17:Bool),v48=.bool x48_17∧qAA (qAG.j3 kq a1 2049 x9_3 x10_3 x48_17 a0_0 a0_1 a0_2 l0_3 l0_4=some r)∧qAA (kq≤k3)∧qAA (wc.heap[gb172]?=some (.cells #[.int .i64 a0_0,.int .i64 a0_1,.string a0_2,(.slice A0_3 l0_3.length c0_3),(.slice A0_4 l0_4.length c0_4)] 34 (0,0)))∧qAA (Below w.heap.size w wc))
        case first =>
         have H:=HC18.out
         clear HC18
         by_cases c19:x10_3 < (l0_3.length:Int)
         ·rw [if_pos c19] at H
          have c19b0:decide (x10_3 < (l0_3.length:Int))=true:=decide_eq_true c19
          clear c19
          (first | rw [c19b0] | (simp only [qAZ,qAb];rw [c19b0]) | rw [c19b1] | (simp only [qAZ,qAb];rw [c19b1]) | skip)
          have H':=qAA.mk H
          clear H
          have hcz20_0:wr.cell? ⟨gb172,0,none⟩=some (.int .i64 a0_0):=(qAB BK172.out 0).trans rfl
          have hcz20_1:wr.cell? ⟨gb172,1,none⟩=some (.int .i64 a0_1):=(qAB BK172.out 1).trans rfl
          have hcz20_2:wr.cell? ⟨gb172,2,none⟩=some (.string a0_2):=(qAB BK172.out 2).trans rfl
          have hcz20_3:wr.cell? ⟨gb172,3,none⟩=some (.slice A0_3 l0_3.length c0_3):=(qAB BK172.out 3).trans rfl
          have hcz20_4:wr.cell? ⟨gb172,4,none⟩=some (.slice A0_4 l0_4.length c0_4):=(qAB BK172.out 4).trans rfl
          have hfz20_0:=qAC BK172.out 0
          have hfz20_1:=qAC BK172.out 1
          have hfz20_2:=qAC BK172.out 2
          have hfz20_3:=qAC BK172.out 3
          have hfz20_4:=qAC BK172.out 4
          go_wp2
          repeat (go_quiet (fail);try go_wp2)
          go_meet
          case rel=>exact ⟨_,(decide (x9_3 < 2049)),(by first | rfl | (simp;done) | (simp [*];done)),H',⟨by have:=HJ4.out;have:=HJ11.out;have:=HK3.out;first | omega | exact Nat.le_refl _⟩,⟨by (with_reducible repeat (first | refine qAa ?_ _ | refine qAL ?_ | refine qAP ?_ _));exact BK172.out⟩,⟨by repeat (first | (with_reducible first | exact HB.out | apply qAE | apply qAD | apply qAF | refine qAQ ?_ GE172.out) | exact HB.out)⟩⟩
         ·rw [if_neg c19] at H
          have c19b0:decide (x10_3 < (l0_3.length:Int))=false:=decide_eq_false c19
          clear c19
          (first | rw [c19b0] | (simp only [qAZ,qAb];rw [c19b0]) | rw [c19b1] | (simp only [qAZ,qAb];rw [c19b1]) | skip)
          have H':=qAA.mk H
          clear H
          have hcz21_0:wr.cell? ⟨gb172,0,none⟩=some (.int .i64 a0_0):=(qAB BK172.out 0).trans rfl
          have hcz21_1:wr.cell? ⟨gb172,1,none⟩=some (.int .i64 a0_1):=(qAB BK172.out 1).trans rfl
          have hcz21_2:wr.cell? ⟨gb172,2,none⟩=some (.string a0_2):=(qAB BK172.out 2).trans rfl
          have hcz21_3:wr.cell? ⟨gb172,3,none⟩=some (.slice A0_3 l0_3.length c0_3):=(qAB BK172.out 3).trans rfl
          have hcz21_4:wr.cell? ⟨gb172,4,none⟩=some (.slice A0_4 l0_4.length c0_4):=(qAB BK172.out 4).trans rfl
          have hfz21_0:=qAC BK172.out 0
          have hfz21_1:=qAC BK172.out 1
          have hfz21_2:=qAC BK172.out 2
          have hfz21_3:=qAC BK172.out 3
          have hfz21_4:=qAC BK172.out 4
          go_wp2
          repeat (go_quiet (fail);try go_wp2)
          go_meet
          case rel=>exact ⟨_,(false),(by first | rfl | (simp;done) | (simp [*];done)),H',⟨by have:=HJ4.out;have:=HJ11.out;have:=HK3.out;first | omega | exact Nat.le_refl _⟩,⟨by (with_reducible repeat (first | refine qAa ?_ _ | refine qAL ?_ | refine qAP ?_ _));exact BK172.out⟩,⟨by repeat (first | (with_reducible first | exact HB.out | apply qAE | apply qAD | apply qAF | refine qAQ ?_ GE172.out) | exact HB.out)⟩⟩
        case rest =>
         clear HC18
         try clear c1
         try clear p2
         try clear c5
         try clear p6
         try clear c9
         try clear c10
         try clear c10b0
         try clear c10b1
         try clear c11
         try clear c14
         try clear c14b0
         try clear c14b1
         try clear c15
         try clear c15b0
         try clear c15b1
         try clear c19
         try clear c19b0
         try clear c19b1
         try clear hcz13_0
         try clear hcz13_1
         try clear hcz13_2
         try clear hcz13_3
         try clear hcz13_4
         try clear hcz16_0
         try clear hcz16_1
         try clear hcz16_2
         try clear hcz16_3
         try clear hcz16_4
         try clear hcz17_0
         try clear hcz17_1
         try clear hcz17_2
         try clear hcz17_3
         try clear hcz17_4
         try clear hcz20_0
         try clear hcz20_1
         try clear hcz20_2
         try clear hcz20_3
         try clear hcz20_4
         try clear hcz21_0
         try clear hcz21_1
         try clear hcz21_2
         try clear hcz21_3
         try clear hcz21_4
         try clear hcz7_0
         try clear hcz7_1
         try clear hcz7_2
         try clear hcz7_3
         try clear hcz7_4
         try clear hfz13_0
         try clear hfz13_1
         try clear hfz13_2
         try clear hfz13_3
         try clear hfz13_4
         try clear hfz16_0
         try clear hfz16_1
         try clear hfz16_2
         try clear hfz16_3
         try clear hfz16_4
         try clear hfz17_0
         try clear hfz17_1
         try clear hfz17_2
         try clear hfz17_3
         try clear hfz17_4
         try clear hfz20_0
         try clear hfz20_1
         try clear hfz20_2
         try clear hfz20_3
         try clear hfz20_4
         try clear hfz21_0
         try clear hfz21_1
         try clear hfz21_2
         try clear hfz21_3
         try clear hfz21_4
         try clear hfz7_0
         try clear hfz7_1
         try clear hfz7_2
         try clear hfz7_3
         try clear hfz7_4
         try clear p2
         try clear p6
         obtain ⟨kq,x48_17,rfl,HA,HJ17,BK172,HB⟩:=hcut
         cases kq with
         | zero=>exact absurd HA.out (by simp [qAG.j3])
         | succ kj17 =>
          have H:=HA.out
          clear HA
          simp only [qAG.j3] at H
          by_cases c22:x48_17=true
          ·subst c22
           have H1:(if a0_0=5 then (if 0≤x10_3 then (if x10_3 < (l0_4.length:Int) then (if ((rdOf ByteArray.empty l0_4 x10_3).size:Int) > 32 then (some 2049) else (if x10_3 > 0 then (if 0≤(wrap64 (x10_3 - 1)) then (if (wrap64 (x10_3 - 1)) < (l0_4.length:Int) then (if ((Op.bytesLess ((rdOf ByteArray.empty l0_4 (wrap64 (x10_3 - 1))).toList) ((rdOf ByteArray.empty l0_4 x10_3).toList))=true) then (if x10_3 < (l0_3.length:Int) then ((qAG.f kj17 ((qAR l0_3 x10_3).f0) ((qAR l0_3 x10_3).f1) ((qAR l0_3 x10_3).f2) ((qAR l0_3 x10_3).f3) ((qAR l0_3 x10_3).f4) (wrap64 (a1+1)) (wrap64 ((wrap64 (x9_3+1))+((rdOf ByteArray.empty l0_4 x10_3).size:Int)))).bind fun t179=>(qAG.l0 kj17 a1 2049 t179 (wrap64 (x10_3+1)) a0_0 a0_1 a0_2 l0_3 l0_4)) else (none)) else (some 2049)) else (none)) else (none)) else (if x10_3 < (l0_3.length:Int) then ((qAG.f kj17 ((qAR l0_3 x10_3).f0) ((qAR l0_3 x10_3).f1) ((qAR l0_3 x10_3).f2) ((qAR l0_3 x10_3).f3) ((qAR l0_3 x10_3).f4) (wrap64 (a1+1)) (wrap64 ((wrap64 (x9_3+1))+((rdOf ByteArray.empty l0_4 x10_3).size:Int)))).bind fun t182=>(qAG.l0 kj17 a1 2049 t182 (wrap64 (x10_3+1)) a0_0 a0_1 a0_2 l0_3 l0_4)) else (none)))) else (none)) else (none)) else (if 0≤x10_3 then (if x10_3 < (l0_3.length:Int) then ((qAG.f kj17 ((qAR l0_3 x10_3).f0) ((qAR l0_3 x10_3).f1) ((qAR l0_3 x10_3).f2) ((qAR l0_3 x10_3).f3) ((qAR l0_3 x10_3).f4) (wrap64 (a1+1)) x9_3).bind fun t184=>(qAG.l0 kj17 a1 2049 t184 (wrap64 (x10_3+1)) a0_0 a0_1 a0_2 l0_3 l0_4)) else (none)) else (none)))=some r:=by rw [if_pos rfl] at H;exact H
           clear H
           have H:=H1
           clear H1
           by_cases c23:a0_0=5
           ·rw [if_pos c23] at H
            have c23b0:(a0_0 == 5)=true:=beq_iff_eq.mpr c23
            have c23b1:(a0_0 != 5)=false:=bne_eq_false_iff_eq.mpr c23
            clear c23
            by_cases c24:0≤x10_3
            ·rw [if_pos c24] at H
             have c24b0:decide (0≤x10_3)=true:=decide_eq_true c24
             clear c24
             by_cases c25:x10_3 < (l0_4.length:Int)
             ·rw [if_pos c25] at H
              have c25b0:decide (x10_3 < (l0_4.length:Int))=true:=decide_eq_true c25
              clear c25
              by_cases c26:((rdOf ByteArray.empty l0_4 x10_3).size:Int) > 32
              ·rw [if_pos c26] at H
               have c26b0:decide (32 < ((rdOf ByteArray.empty l0_4 x10_3).size:Int))=true:=decide_eq_true c26
               have c26b1:decide (32 < (rdOf ByteArray.empty l0_4 x10_3).size)=true:=decide_eq_true (by omega)
               clear c26
               obtain rfl:=Option.some.inj H
               simp only [Option.some.injEq,Prod.mk.injEq] at H
               obtain ⟨rfl⟩:=H
               have hcz27_0:wc.cell? ⟨gb172,0,none⟩=some (.int .i64 a0_0):=(qAB BK172.out 0).trans rfl
               have hcz27_1:wc.cell? ⟨gb172,1,none⟩=some (.int .i64 a0_1):=(qAB BK172.out 1).trans rfl
               have hcz27_2:wc.cell? ⟨gb172,2,none⟩=some (.string a0_2):=(qAB BK172.out 2).trans rfl
               have hcz27_3:wc.cell? ⟨gb172,3,none⟩=some (.slice A0_3 l0_3.length c0_3):=(qAB BK172.out 3).trans rfl
               have hcz27_4:wc.cell? ⟨gb172,4,none⟩=some (.slice A0_4 l0_4.length c0_4):=(qAB BK172.out 4).trans rfl
               have hfz27_0:=qAC BK172.out 0
               have hfz27_1:=qAC BK172.out 1
               have hfz27_2:=qAC BK172.out 2
               have hfz27_3:=qAC BK172.out 3
               have hfz27_4:=qAC BK172.out 4
               have p174:0≤(x10_3:Int):=of_decide_eq_true (by first | (with_reducible assumption) | assumption)
               have q174:x10_3 < (l0_4.length:Int):=of_decide_eq_true (by first | (with_reducible assumption) | assumption)
               obtain ⟨ad174,e174,hx174_0⟩:=Kd.qBH HR0_4.out x10_3 p174 q174
               cases e174
               replace hx174_0:=(HB.out.cell (qs4 w _ hx174_0)).trans hx174_0
               replace p174:=eq_true p174
               replace q174:=eq_true q174
               go_wp2
               repeat (go_quiet (fail);try go_wp2)
               go_ret
               exact ⟨by first | rfl | (simp [qAT,qAS] <;> rfl) | (simp [*,qAT,qAS] <;> rfl),by repeat (first | (with_reducible first | exact HB.out | apply qAE | apply qAD | apply qAF | refine qAQ ?_ GE172.out) | exact HB.out)⟩
              ·rw [if_neg c26] at H
               have c26b0:decide (32 < ((rdOf ByteArray.empty l0_4 x10_3).size:Int))=false:=decide_eq_false c26
               have c26b1:decide (32 < (rdOf ByteArray.empty l0_4 x10_3).size)=false:=decide_eq_false (by omega)
               clear c26
               by_cases c28:x10_3 > 0
               ·rw [if_pos c28] at H
                have c28b0:decide (0 < x10_3)=true:=decide_eq_true c28
                clear c28
                obtain ⟨ji29,hji29⟩:∃ j_:Int,(wrap64 (x10_3 - 1))=j_:=⟨_,rfl⟩
                replace H:(if 0≤(ji29) then (if (ji29) < (l0_4.length:Int) then (if ((Op.bytesLess ((rdOf ByteArray.empty l0_4 (ji29)).toList) ((rdOf ByteArray.empty l0_4 x10_3).toList))=true) then (if x10_3 < (l0_3.length:Int) then ((qAG.f kj17 ((qAR l0_3 x10_3).f0) ((qAR l0_3 x10_3).f1) ((qAR l0_3 x10_3).f2) ((qAR l0_3 x10_3).f3) ((qAR l0_3 x10_3).f4) (wrap64 (a1+1)) (wrap64 ((wrap64 (x9_3+1))+((rdOf ByteArray.empty l0_4 x10_3).size:Int)))).bind fun t179=>(qAG.l0 kj17 a1 2049 t179 (wrap64 (x10_3+1)) a0_0 a0_1 a0_2 l0_3 l0_4)) else (none)) else (some 2049)) else (none)) else (none))=some r:=by first | (rw [hji29] at H;exact H) | (simp only [hji29] at H ⊢;exact H)
                have hji29w:(IntKind.i64.wrap (x10_3 - 1))=ji29:=(qAZ _).trans hji29
                by_cases c30:0≤(ji29)
                ·rw [if_pos c30] at H
                 have c30b0:decide (0≤(ji29))=true:=decide_eq_true c30
                 clear c30
                 by_cases c31:(ji29) < (l0_4.length:Int)
                 ·rw [if_pos c31] at H
                  have c31b0:decide ((ji29) < (l0_4.length:Int))=true:=decide_eq_true c31
                  clear c31
                  by_cases c32:((Op.bytesLess ((rdOf ByteArray.empty l0_4 (ji29)).toList) ((rdOf ByteArray.empty l0_4 x10_3).toList))=true)
                  ·rw [if_pos c32] at H
                   have c32b0:(Op.bytesLess ((rdOf ByteArray.empty l0_4 (ji29)).toList) ((rdOf ByteArray.empty l0_4 x10_3).toList))=true:=c32
                   clear c32
                   by_cases c33:x10_3 < (l0_3.length:Int)
                   ·rw [if_pos c33] at H
                    have c33b0:decide (x10_3 < (l0_3.length:Int))=true:=decide_eq_true c33
                    clear c33
                    replace H:=Option.bind_eq_some_iff.mp H
                    obtain ⟨t179,A340,H⟩:=H
                    replace H:(qAG.l0 kj17 a1 2049 t179 (wrap64 (x10_3+1)) a0_0 a0_1 a0_2 l0_3 l0_4)=some r:=H
                    have A34:=qAA.mk A340
                    clear A340
                    have H':=qAA.mk H
                    clear H
                    have hcz35_0:wc.cell? ⟨gb172,0,none⟩=some (.int .i64 a0_0):=(qAB BK172.out 0).trans rfl
                    have hcz35_1:wc.cell? ⟨gb172,1,none⟩=some (.int .i64 a0_1):=(qAB BK172.out 1).trans rfl
                    have hcz35_2:wc.cell? ⟨gb172,2,none⟩=some (.string a0_2):=(qAB BK172.out 2).trans rfl
                    have hcz35_3:wc.cell? ⟨gb172,3,none⟩=some (.slice A0_3 l0_3.length c0_3):=(qAB BK172.out 3).trans rfl
                    have hcz35_4:wc.cell? ⟨gb172,4,none⟩=some (.slice A0_4 l0_4.length c0_4):=(qAB BK172.out 4).trans rfl
                    have hfz35_0:=qAC BK172.out 0
                    have hfz35_1:=qAC BK172.out 1
                    have hfz35_2:=qAC BK172.out 2
                    have hfz35_3:=qAC BK172.out 3
                    have hfz35_4:=qAC BK172.out 4
                    have p174:0≤(x10_3:Int):=of_decide_eq_true (by first | (with_reducible assumption) | assumption)
                    have q174:x10_3 < (l0_4.length:Int):=of_decide_eq_true (by first | (with_reducible assumption) | assumption)
                    obtain ⟨ad174,e174,hx174_0⟩:=Kd.qBH HR0_4.out x10_3 p174 q174
                    cases e174
                    replace hx174_0:=(HB.out.cell (qs4 w _ hx174_0)).trans hx174_0
                    replace p174:=eq_true p174
                    replace q174:=eq_true q174
                    have p175:0≤(x10_3:Int):=of_decide_eq_true (by first | (with_reducible assumption) | assumption)
                    have q175:x10_3 < (l0_4.length:Int):=of_decide_eq_true (by first | (with_reducible assumption) | assumption)
                    obtain ⟨ad175,e175,hx175_0⟩:=Kd.qBH HR0_4.out x10_3 p175 q175
                    obtain rfl:ad174=ad175:=(by injection e175)
                    replace hx175_0:=(HB.out.cell (qs4 w _ hx175_0)).trans hx175_0
                    replace p175:=eq_true p175
                    replace q175:=eq_true q175
                    have p176:0≤((ji29):Int):=of_decide_eq_true (by first | (with_reducible assumption) | assumption)
                    have q176:(ji29) < (l0_4.length:Int):=of_decide_eq_true (by first | (with_reducible assumption) | assumption)
                    obtain ⟨ad176,e176,hx176_0⟩:=Kd.qBH HR0_4.out (ji29) p176 q176
                    obtain rfl:ad174=ad176:=(by injection e176)
                    replace hx176_0:=(HB.out.cell (qs4 w _ hx176_0)).trans hx176_0
                    replace p176:=eq_true p176
                    replace q176:=eq_true q176
                    have p177:0≤(x10_3:Int):=of_decide_eq_true (by first | (with_reducible assumption) | assumption)
                    have q177:x10_3 < (l0_4.length:Int):=of_decide_eq_true (by first | (with_reducible assumption) | assumption)
                    obtain ⟨ad177,e177,hx177_0⟩:=Kd.qBH HR0_4.out x10_3 p177 q177
                    obtain rfl:ad174=ad177:=(by injection e177)
                    replace hx177_0:=(HB.out.cell (qs4 w _ hx177_0)).trans hx177_0
                    replace p177:=eq_true p177
                    replace q177:=eq_true q177
                    have p178:0≤(x10_3:Int):=of_decide_eq_true (by first | (with_reducible assumption) | assumption)
                    have q178:x10_3 < (l0_3.length:Int):=of_decide_eq_true (by first | (with_reducible assumption) | assumption)
                    obtain ⟨ad178,A178_3,c178_3,A178_4,c178_4,e178,hx178_0,hx178_1,hx178_2,hx178_3,hx178_4,hl178_3,hi178_3,hl178_4,hi178_4⟩:=at_T34 HR0_3.out x10_3 p178 q178
                    cases e178
                    replace hx178_0:=(HB.out.cell (qs4 w _ hx178_0)).trans hx178_0
                    replace hx178_1:=(HB.out.cell (qs4 w _ hx178_1)).trans hx178_1
                    replace hx178_2:=(HB.out.cell (qs4 w _ hx178_2)).trans hx178_2
                    replace hx178_3:=(HB.out.cell (qs4 w _ hx178_3)).trans hx178_3
                    replace hx178_4:=(HB.out.cell (qs4 w _ hx178_4)).trans hx178_4
                    have HR178_3:=qAA.mk hi178_3
                    have HC178_3:=qAA.mk hl178_3
                    clear hi178_3 hl178_3
                    have HR178_4:=qAA.mk hi178_4
                    have HC178_4:=qAA.mk hl178_4
                    clear hi178_4 hl178_4
                    replace p178:=eq_true p178
                    replace q178:=eq_true q178
                    go_wp2_with (first | (go_at_call 56;(with_reducible refine (ih kj17 (by have:=HJ4.out;have:=HJ11.out;have:=HK3.out;have:=HJ17.out;omega) ((qAR l0_3 x10_3).f0) ((qAR l0_3 x10_3).f1) ((qAR l0_3 x10_3).f2) _ _ ((qAR l0_3 x10_3).f3) _ _ ((qAR l0_3 x10_3).f4) (wrap64 (a1+1)) (wrap64 ((wrap64 (x9_3+1))+((rdOf ByteArray.empty l0_4 x10_3).size:Int))) t179 _ ?side1 ?side2 ?side3 ?side4 A34.out).mono ?_);(case side1=>repeat (first | exact (Kd.qAc HR178_3.out HB.out) | (with_reducible refine Kd.qAh ?_ _) | (with_reducible refine Kd.qAk ?_ _) | (with_reducible refine Kd.qAs ?_)));(case side2=>exact HC178_3.out);(case side3=>repeat (first | exact (Kd.qAc HR178_4.out HB.out) | (with_reducible refine Kd.qAh ?_ _) | (with_reducible refine Kd.qAk ?_ _) | (with_reducible refine Kd.qAs ?_)));(case side4=>exact HC178_4.out);rintro e w36 ⟨rfl,hb⟩;have n0_:=qAA.mk (qAX (g:=gb172) (o:=.cells #[.int .i64 a0_0,.int .i64 a0_1,.string a0_2,.slice (some ad178) l0_3.length c0_3,.slice (some ad174) l0_4.length c0_4] 34 (0,0)) (by (with_reducible repeat (first | refine qAa ?_ _ | refine qAL ?_ | refine qAP ?_ _));exact BK172.out) hb);have n1_:=qAA.mk (qAO (by repeat (first | (with_reducible first | exact HB.out | apply qAE | apply qAD | apply qAF | refine qAQ ?_ GE172.out) | exact HB.out)) hb);clear BK172;clear HB;have BK172:=n0_;have HB:=n1_;clear n0_ n1_;(try clear hb);(try clear hb2);(try clear hk);(try clear hi)))
                    repeat (go_quiet (first | (go_at_call 56;(with_reducible refine (ih kj17 (by have:=HJ4.out;have:=HJ11.out;have:=HK3.out;have:=HJ17.out;omega) ((qAR l0_3 x10_3).f0) ((qAR l0_3 x10_3).f1) ((qAR l0_3 x10_3).f2) _ _ ((qAR l0_3 x10_3).f3) _ _ ((qAR l0_3 x10_3).f4) (wrap64 (a1+1)) (wrap64 ((wrap64 (x9_3+1))+((rdOf ByteArray.empty l0_4 x10_3).size:Int))) t179 _ ?side1 ?side2 ?side3 ?side4 A34.out).mono ?_);(case side1=>repeat (first | exact (Kd.qAc HR178_3.out HB.out) | (with_reducible refine Kd.qAh ?_ _) | (with_reducible refine Kd.qAk ?_ _) | (with_reducible refine Kd.qAs ?_)));(case side2=>exact HC178_3.out);(case side3=>repeat (first | exact (Kd.qAc HR178_4.out HB.out) | (with_reducible refine Kd.qAh ?_ _) | (with_reducible refine Kd.qAk ?_ _) | (with_reducible refine Kd.qAs ?_)));(case side4=>exact HC178_4.out);rintro e w36 ⟨rfl,hb⟩;have n0_:=qAA.mk (qAX (g:=gb172) (o:=.cells #[.int .i64 a0_0,.int .i64 a0_1,.string a0_2,.slice (some ad178) l0_3.length c0_3,.slice (some ad174) l0_4.length c0_4] 34 (0,0)) (by (with_reducible repeat (first | refine qAa ?_ _ | refine qAL ?_ | refine qAP ?_ _));exact BK172.out) hb);have n1_:=qAA.mk (qAO (by repeat (first | (with_reducible first | exact HB.out | apply qAE | apply qAD | apply qAF | refine qAQ ?_ GE172.out) | exact HB.out)) hb);clear BK172;clear HB;have BK172:=n0_;have HB:=n1_;clear n0_ n1_;(try clear hb);(try clear hb2);(try clear hk);(try clear hi)));try go_wp2_with (first | (go_at_call 56;(with_reducible refine (ih kj17 (by have:=HJ4.out;have:=HJ11.out;have:=HK3.out;have:=HJ17.out;omega) ((qAR l0_3 x10_3).f0) ((qAR l0_3 x10_3).f1) ((qAR l0_3 x10_3).f2) _ _ ((qAR l0_3 x10_3).f3) _ _ ((qAR l0_3 x10_3).f4) (wrap64 (a1+1)) (wrap64 ((wrap64 (x9_3+1))+((rdOf ByteArray.empty l0_4 x10_3).size:Int))) t179 _ ?side1 ?side2 ?side3 ?side4 A34.out).mono ?_);(case side1=>repeat (first | exact (Kd.qAc HR178_3.out HB.out) | (with_reducible refine Kd.qAh ?_ _) | (with_reducible refine Kd.qAk ?_ _) | (with_reducible refine Kd.qAs ?_)));(case side2=>exact HC178_3.out);(case side3=>repeat (first | exact (Kd.qAc HR178_4.out HB.out) | (with_reducible refine Kd.qAh ?_ _) | (with_reducible refine Kd.qAk ?_ _) | (with_reducible refine Kd.qAs ?_)));(case side4=>exact HC178_4.out);rintro e w36 ⟨rfl,hb⟩;have n0_:=qAA.mk (qAX (g:=gb172) (o:=.cells #[.int .i64 a0_0,.int .i64 a0_1,.string a0_2,.slice (some ad178) l0_3.length c0_3,.slice (some ad174) l0_4.length c0_4] 34 (0,0)) (by (with_reducible repeat (first | refine qAa ?_ _ | refine qAL ?_ | refine qAP ?_ _));exact BK172.out) hb);have n1_:=qAA.mk (qAO (by repeat (first | (with_reducible first | exact HB.out | apply qAE | apply qAD | apply qAF | refine qAQ ?_ GE172.out) | exact HB.out)) hb);clear BK172;clear HB;have BK172:=n0_;have HB:=n1_;clear n0_ n1_;(try clear hb);(try clear hb2);(try clear hk);(try clear hi))))
                    go_roundg kj17
                    case measure=>have:=HJ4.out;have:=HJ11.out;have:=HK3.out;have:=HJ17.out;omega
                    case rel=>exact ⟨(t179),(wrap64 (x10_3+1)),(by first | rfl | (simp;done) | (simp [*];done)),(by first | rfl | (simp;done) | (simp [*];done)),H',⟨by have:=HJ4.out;have:=HJ11.out;have:=HK3.out;have:=HJ17.out;omega⟩,⟨by (with_reducible repeat (first | refine qAa ?_ _ | refine qAL ?_ | refine qAP ?_ _));exact BK172.out⟩,⟨by repeat (first | (with_reducible first | exact HB.out | apply qAE | apply qAD | apply qAF | refine qAQ ?_ GE172.out) | exact HB.out)⟩⟩
                   ·rw [if_neg c33] at H
                    exact absurd H (by simp)
                  ·rw [if_neg c32] at H
                   have c32b0:(Op.bytesLess ((rdOf ByteArray.empty l0_4 (ji29)).toList) ((rdOf ByteArray.empty l0_4 x10_3).toList))=false:=by simpa using c32
                   clear c32
                   obtain rfl:=Option.some.inj H
                   simp only [Option.some.injEq,Prod.mk.injEq] at H
                   obtain ⟨rfl⟩:=H
                   have hcz37_0:wc.cell? ⟨gb172,0,none⟩=some (.int .i64 a0_0):=(qAB BK172.out 0).trans rfl
                   have hcz37_1:wc.cell? ⟨gb172,1,none⟩=some (.int .i64 a0_1):=(qAB BK172.out 1).trans rfl
                   have hcz37_2:wc.cell? ⟨gb172,2,none⟩=some (.string a0_2):=(qAB BK172.out 2).trans rfl
                   have hcz37_3:wc.cell? ⟨gb172,3,none⟩=some (.slice A0_3 l0_3.length c0_3):=(qAB BK172.out 3).trans rfl
                   have hcz37_4:wc.cell? ⟨gb172,4,none⟩=some (.slice A0_4 l0_4.length c0_4):=(qAB BK172.out 4).trans rfl
                   have hfz37_0:=qAC BK172.out 0
                   have hfz37_1:=qAC BK172.out 1
                   have hfz37_2:=qAC BK172.out 2
                   have hfz37_3:=qAC BK172.out 3
                   have hfz37_4:=qAC BK172.out 4
                   have p174:0≤(x10_3:Int):=of_decide_eq_true (by first | (with_reducible assumption) | assumption)
                   have q174:x10_3 < (l0_4.length:Int):=of_decide_eq_true (by first | (with_reducible assumption) | assumption)
                   obtain ⟨ad174,e174,hx174_0⟩:=Kd.qBH HR0_4.out x10_3 p174 q174
                   cases e174
                   replace hx174_0:=(HB.out.cell (qs4 w _ hx174_0)).trans hx174_0
                   replace p174:=eq_true p174
                   replace q174:=eq_true q174
                   have p175:0≤(x10_3:Int):=of_decide_eq_true (by first | (with_reducible assumption) | assumption)
                   have q175:x10_3 < (l0_4.length:Int):=of_decide_eq_true (by first | (with_reducible assumption) | assumption)
                   obtain ⟨ad175,e175,hx175_0⟩:=Kd.qBH HR0_4.out x10_3 p175 q175
                   obtain rfl:ad174=ad175:=(by injection e175)
                   replace hx175_0:=(HB.out.cell (qs4 w _ hx175_0)).trans hx175_0
                   replace p175:=eq_true p175
                   replace q175:=eq_true q175
                   have p176:0≤((ji29):Int):=of_decide_eq_true (by first | (with_reducible assumption) | assumption)
                   have q176:(ji29) < (l0_4.length:Int):=of_decide_eq_true (by first | (with_reducible assumption) | assumption)
                   obtain ⟨ad176,e176,hx176_0⟩:=Kd.qBH HR0_4.out (ji29) p176 q176
                   obtain rfl:ad174=ad176:=(by injection e176)
                   replace hx176_0:=(HB.out.cell (qs4 w _ hx176_0)).trans hx176_0
                   replace p176:=eq_true p176
                   replace q176:=eq_true q176
                   go_wp2
                   repeat (go_quiet (fail);try go_wp2)
                   go_ret
                   exact ⟨by first | rfl | (simp [qAT,qAS] <;> rfl) | (simp only [← hji29];first | rfl | (simp [qAT,qAS] <;> rfl)) | (simp [*,qAT,qAS] <;> rfl),by repeat (first | (with_reducible first | exact HB.out | apply qAE | apply qAD | apply qAF | refine qAQ ?_ GE172.out) | exact HB.out)⟩
                 ·rw [if_neg c31] at H
                  exact absurd H (by simp)
                ·rw [if_neg c30] at H
                 exact absurd H (by simp)
               ·rw [if_neg c28] at H
                have c28b0:decide (0 < x10_3)=false:=decide_eq_false c28
                clear c28
                by_cases c38:x10_3 < (l0_3.length:Int)
                ·rw [if_pos c38] at H
                 have c38b0:decide (x10_3 < (l0_3.length:Int))=true:=decide_eq_true c38
                 clear c38
                 replace H:=Option.bind_eq_some_iff.mp H
                 obtain ⟨t182,A390,H⟩:=H
                 replace H:(qAG.l0 kj17 a1 2049 t182 (wrap64 (x10_3+1)) a0_0 a0_1 a0_2 l0_3 l0_4)=some r:=H
                 have A39:=qAA.mk A390
                 clear A390
                 have H':=qAA.mk H
                 clear H
                 have hcz40_0:wc.cell? ⟨gb172,0,none⟩=some (.int .i64 a0_0):=(qAB BK172.out 0).trans rfl
                 have hcz40_1:wc.cell? ⟨gb172,1,none⟩=some (.int .i64 a0_1):=(qAB BK172.out 1).trans rfl
                 have hcz40_2:wc.cell? ⟨gb172,2,none⟩=some (.string a0_2):=(qAB BK172.out 2).trans rfl
                 have hcz40_3:wc.cell? ⟨gb172,3,none⟩=some (.slice A0_3 l0_3.length c0_3):=(qAB BK172.out 3).trans rfl
                 have hcz40_4:wc.cell? ⟨gb172,4,none⟩=some (.slice A0_4 l0_4.length c0_4):=(qAB BK172.out 4).trans rfl
                 have hfz40_0:=qAC BK172.out 0
                 have hfz40_1:=qAC BK172.out 1
                 have hfz40_2:=qAC BK172.out 2
                 have hfz40_3:=qAC BK172.out 3
                 have hfz40_4:=qAC BK172.out 4
                 have p174:0≤(x10_3:Int):=of_decide_eq_true (by first | (with_reducible assumption) | assumption)
                 have q174:x10_3 < (l0_4.length:Int):=of_decide_eq_true (by first | (with_reducible assumption) | assumption)
                 obtain ⟨ad174,e174,hx174_0⟩:=Kd.qBH HR0_4.out x10_3 p174 q174
                 cases e174
                 replace hx174_0:=(HB.out.cell (qs4 w _ hx174_0)).trans hx174_0
                 replace p174:=eq_true p174
                 replace q174:=eq_true q174
                 have p180:0≤(x10_3:Int):=of_decide_eq_true (by first | (with_reducible assumption) | assumption)
                 have q180:x10_3 < (l0_4.length:Int):=of_decide_eq_true (by first | (with_reducible assumption) | assumption)
                 obtain ⟨ad180,e180,hx180_0⟩:=Kd.qBH HR0_4.out x10_3 p180 q180
                 obtain rfl:ad174=ad180:=(by injection e180)
                 replace hx180_0:=(HB.out.cell (qs4 w _ hx180_0)).trans hx180_0
                 replace p180:=eq_true p180
                 replace q180:=eq_true q180
                 have p181:0≤(x10_3:Int):=of_decide_eq_true (by first | (with_reducible assumption) | assumption)
                 have q181:x10_3 < (l0_3.length:Int):=of_decide_eq_true (by first | (with_reducible assumption) | assumption)
                 obtain ⟨ad181,A181_3,c181_3,A181_4,c181_4,e181,hx181_0,hx181_1,hx181_2,hx181_3,hx181_4,hl181_3,hi181_3,hl181_4,hi181_4⟩:=at_T34 HR0_3.out x10_3 p181 q181
                 cases e181
                 replace hx181_0:=(HB.out.cell (qs4 w _ hx181_0)).trans hx181_0
                 replace hx181_1:=(HB.out.cell (qs4 w _ hx181_1)).trans hx181_1
                 replace hx181_2:=(HB.out.cell (qs4 w _ hx181_2)).trans hx181_2
                 replace hx181_3:=(HB.out.cell (qs4 w _ hx181_3)).trans hx181_3
                 replace hx181_4:=(HB.out.cell (qs4 w _ hx181_4)).trans hx181_4
                 have HR181_3:=qAA.mk hi181_3
                 have HC181_3:=qAA.mk hl181_3
                 clear hi181_3 hl181_3
                 have HR181_4:=qAA.mk hi181_4
                 have HC181_4:=qAA.mk hl181_4
                 clear hi181_4 hl181_4
                 replace p181:=eq_true p181
                 replace q181:=eq_true q181
                 go_wp2_with (first | (go_at_call 56;(with_reducible refine (ih kj17 (by have:=HJ4.out;have:=HJ11.out;have:=HK3.out;have:=HJ17.out;omega) ((qAR l0_3 x10_3).f0) ((qAR l0_3 x10_3).f1) ((qAR l0_3 x10_3).f2) _ _ ((qAR l0_3 x10_3).f3) _ _ ((qAR l0_3 x10_3).f4) (wrap64 (a1+1)) (wrap64 ((wrap64 (x9_3+1))+((rdOf ByteArray.empty l0_4 x10_3).size:Int))) t182 _ ?side1 ?side2 ?side3 ?side4 A39.out).mono ?_);(case side1=>repeat (first | exact (Kd.qAc HR181_3.out HB.out) | (with_reducible refine Kd.qAh ?_ _) | (with_reducible refine Kd.qAk ?_ _) | (with_reducible refine Kd.qAs ?_)));(case side2=>exact HC181_3.out);(case side3=>repeat (first | exact (Kd.qAc HR181_4.out HB.out) | (with_reducible refine Kd.qAh ?_ _) | (with_reducible refine Kd.qAk ?_ _) | (with_reducible refine Kd.qAs ?_)));(case side4=>exact HC181_4.out);rintro e w41 ⟨rfl,hb⟩;have n0_:=qAA.mk (qAX (g:=gb172) (o:=.cells #[.int .i64 a0_0,.int .i64 a0_1,.string a0_2,.slice (some ad181) l0_3.length c0_3,.slice (some ad174) l0_4.length c0_4] 34 (0,0)) (by (with_reducible repeat (first | refine qAa ?_ _ | refine qAL ?_ | refine qAP ?_ _));exact BK172.out) hb);have n1_:=qAA.mk (qAO (by repeat (first | (with_reducible first | exact HB.out | apply qAE | apply qAD | apply qAF | refine qAQ ?_ GE172.out) | exact HB.out)) hb);clear BK172;clear HB;have BK172:=n0_;have HB:=n1_;clear n0_ n1_;(try clear hb);(try clear hb2);(try clear hk);(try clear hi)))
                 repeat (go_quiet (first | (go_at_call 56;(with_reducible refine (ih kj17 (by have:=HJ4.out;have:=HJ11.out;have:=HK3.out;have:=HJ17.out;omega) ((qAR l0_3 x10_3).f0) ((qAR l0_3 x10_3).f1) ((qAR l0_3 x10_3).f2) _ _ ((qAR l0_3 x10_3).f3) _ _ ((qAR l0_3 x10_3).f4) (wrap64 (a1+1)) (wrap64 ((wrap64 (x9_3+1))+((rdOf ByteArray.empty l0_4 x10_3).size:Int))) t182 _ ?side1 ?side2 ?side3 ?side4 A39.out).mono ?_);(case side1=>repeat (first | exact (Kd.qAc HR181_3.out HB.out) | (with_reducible refine Kd.qAh ?_ _) | (with_reducible refine Kd.qAk ?_ _) | (with_reducible refine Kd.qAs ?_)));(case side2=>exact HC181_3.out);(case side3=>repeat (first | exact (Kd.qAc HR181_4.out HB.out) | (with_reducible refine Kd.qAh ?_ _) | (with_reducible refine Kd.qAk ?_ _) | (with_reducible refine Kd.qAs ?_)));(case side4=>exact HC181_4.out);rintro e w41 ⟨rfl,hb⟩;have n0_:=qAA.mk (qAX (g:=gb172) (o:=.cells #[.int .i64 a0_0,.int .i64 a0_1,.string a0_2,.slice (some ad181) l0_3.length c0_3,.slice (some ad174) l0_4.length c0_4] 34 (0,0)) (by (with_reducible repeat (first | refine qAa ?_ _ | refine qAL ?_ | refine qAP ?_ _));exact BK172.out) hb);have n1_:=qAA.mk (qAO (by repeat (first | (with_reducible first | exact HB.out | apply qAE | apply qAD | apply qAF | refine qAQ ?_ GE172.out) | exact HB.out)) hb);clear BK172;clear HB;have BK172:=n0_;have HB:=n1_;clear n0_ n1_;(try clear hb);(try clear hb2);(try clear hk);(try clear hi)));try go_wp2_with (first | (go_at_call 56;(with_reducible refine (ih kj17 (by have:=HJ4.out;have:=HJ11.out;have:=HK3.out;have:=HJ17.out;omega) ((qAR l0_3 x10_3).f0) ((qAR l0_3 x10_3).f1) ((qAR l0_3 x10_3).f2) _ _ ((qAR l0_3 x10_3).f3) _ _ ((qAR l0_3 x10_3).f4) (wrap64 (a1+1)) (wrap64 ((wrap64 (x9_3+1))+((rdOf ByteArray.empty l0_4 x10_3).size:Int))) t182 _ ?side1 ?side2 ?side3 ?side4 A39.out).mono ?_);(case side1=>repeat (first | exact (Kd.qAc HR181_3.out HB.out) | (with_reducible refine Kd.qAh ?_ _) | (with_reducible refine Kd.qAk ?_ _) | (with_reducible refine Kd.qAs ?_)));(case side2=>exact HC181_3.out);(case side3=>repeat (first | exact (Kd.qAc HR181_4.out HB.out) | (with_reducible refine Kd.qAh ?_ _) | (with_reducible refine Kd.qAk ?_ _) | (with_reducible refine Kd.qAs ?_)));(case side4=>exact HC181_4.out);rintro e w41 ⟨rfl,hb⟩;have n0_:=qAA.mk (qAX (g:=gb172) (o:=.cells #[.int .i64 a0_0,.int .i64 a0_1,.string a0_2,.slice (some ad181) l0_3.length c0_3,.slice (some ad174) l0_4.length c0_4] 34 (0,0)) (by (with_reducible repeat (first | refine qAa ?_ _ | refine qAL ?_ | refine qAP ?_ _));exact BK172.out) hb);have n1_:=qAA.mk (qAO (by repeat (first | (with_reducible first | exact HB.out | apply qAE | apply qAD | apply qAF | refine qAQ ?_ GE172.out) | exact HB.out)) hb);clear BK172;clear HB;have BK172:=n0_;have HB:=n1_;clear n0_ n1_;(try clear hb);(try clear hb2);(try clear hk);(try clear hi))))
                 go_roundg kj17
                 case measure=>have:=HJ4.out;have:=HJ11.out;have:=HK3.out;have:=HJ17.out;omega
                 case rel=>exact ⟨(t182),(wrap64 (x10_3+1)),(by first | rfl | (simp;done) | (simp [*];done)),(by first | rfl | (simp;done) | (simp [*];done)),H',⟨by have:=HJ4.out;have:=HJ11.out;have:=HK3.out;have:=HJ17.out;omega⟩,⟨by (with_reducible repeat (first | refine qAa ?_ _ | refine qAL ?_ | refine qAP ?_ _));exact BK172.out⟩,⟨by repeat (first | (with_reducible first | exact HB.out | apply qAE | apply qAD | apply qAF | refine qAQ ?_ GE172.out) | exact HB.out)⟩⟩
                ·rw [if_neg c38] at H
                 exact absurd H (by simp)
             ·rw [if_neg c25] at H
              exact absurd H (by simp)
            ·rw [if_neg c24] at H
             exact absurd H (by simp)
           ·rw [if_neg c23] at H
            have c23b0:(a0_0 == 5)=false:=beq_eq_false_iff_ne.mpr c23
            have c23b1:(a0_0 != 5)=true:=bne_iff_ne.mpr c23
            by_cases c42:0≤x10_3
            ·rw [if_pos c42] at H
             have c42b0:decide (0≤x10_3)=true:=decide_eq_true c42
             clear c42
             by_cases c43:x10_3 < (l0_3.length:Int)
             ·rw [if_pos c43] at H
              have c43b0:decide (x10_3 < (l0_3.length:Int))=true:=decide_eq_true c43
              clear c43
              replace H:=Option.bind_eq_some_iff.mp H
              obtain ⟨t184,A440,H⟩:=H
              replace H:(qAG.l0 kj17 a1 2049 t184 (wrap64 (x10_3+1)) a0_0 a0_1 a0_2 l0_3 l0_4)=some r:=H
              have A44:=qAA.mk A440
              clear A440
              have H':=qAA.mk H
              clear H
              have hcz45_0:wc.cell? ⟨gb172,0,none⟩=some (.int .i64 a0_0):=(qAB BK172.out 0).trans rfl
              have hcz45_1:wc.cell? ⟨gb172,1,none⟩=some (.int .i64 a0_1):=(qAB BK172.out 1).trans rfl
              have hcz45_2:wc.cell? ⟨gb172,2,none⟩=some (.string a0_2):=(qAB BK172.out 2).trans rfl
              have hcz45_3:wc.cell? ⟨gb172,3,none⟩=some (.slice A0_3 l0_3.length c0_3):=(qAB BK172.out 3).trans rfl
              have hcz45_4:wc.cell? ⟨gb172,4,none⟩=some (.slice A0_4 l0_4.length c0_4):=(qAB BK172.out 4).trans rfl
              have hfz45_0:=qAC BK172.out 0
              have hfz45_1:=qAC BK172.out 1
              have hfz45_2:=qAC BK172.out 2
              have hfz45_3:=qAC BK172.out 3
              have hfz45_4:=qAC BK172.out 4
              have p183:0≤(x10_3:Int):=of_decide_eq_true (by first | (with_reducible assumption) | assumption)
              have q183:x10_3 < (l0_3.length:Int):=of_decide_eq_true (by first | (with_reducible assumption) | assumption)
              obtain ⟨ad183,A183_3,c183_3,A183_4,c183_4,e183,hx183_0,hx183_1,hx183_2,hx183_3,hx183_4,hl183_3,hi183_3,hl183_4,hi183_4⟩:=at_T34 HR0_3.out x10_3 p183 q183
              cases e183
              replace hx183_0:=(HB.out.cell (qs4 w _ hx183_0)).trans hx183_0
              replace hx183_1:=(HB.out.cell (qs4 w _ hx183_1)).trans hx183_1
              replace hx183_2:=(HB.out.cell (qs4 w _ hx183_2)).trans hx183_2
              replace hx183_3:=(HB.out.cell (qs4 w _ hx183_3)).trans hx183_3
              replace hx183_4:=(HB.out.cell (qs4 w _ hx183_4)).trans hx183_4
              have HR183_3:=qAA.mk hi183_3
              have HC183_3:=qAA.mk hl183_3
              clear hi183_3 hl183_3
              have HR183_4:=qAA.mk hi183_4
              have HC183_4:=qAA.mk hl183_4
              clear hi183_4 hl183_4
              replace p183:=eq_true p183
              replace q183:=eq_true q183
              go_wp2_with (first | (go_at_call 56;(with_reducible refine (ih kj17 (by have:=HJ4.out;have:=HJ11.out;have:=HK3.out;have:=HJ17.out;omega) ((qAR l0_3 x10_3).f0) ((qAR l0_3 x10_3).f1) ((qAR l0_3 x10_3).f2) _ _ ((qAR l0_3 x10_3).f3) _ _ ((qAR l0_3 x10_3).f4) (wrap64 (a1+1)) x9_3 t184 _ ?side1 ?side2 ?side3 ?side4 A44.out).mono ?_);(case side1=>repeat (first | exact (Kd.qAc HR183_3.out HB.out) | (with_reducible refine Kd.qAh ?_ _) | (with_reducible refine Kd.qAk ?_ _) | (with_reducible refine Kd.qAs ?_)));(case side2=>exact HC183_3.out);(case side3=>repeat (first | exact (Kd.qAc HR183_4.out HB.out) | (with_reducible refine Kd.qAh ?_ _) | (with_reducible refine Kd.qAk ?_ _) | (with_reducible refine Kd.qAs ?_)));(case side4=>exact HC183_4.out);rintro e w46 ⟨rfl,hb⟩;have n0_:=qAA.mk (qAX (g:=gb172) (o:=.cells #[.int .i64 a0_0,.int .i64 a0_1,.string a0_2,.slice (some ad183) l0_3.length c0_3,.slice A0_4 l0_4.length c0_4] 34 (0,0)) (by (with_reducible repeat (first | refine qAa ?_ _ | refine qAL ?_ | refine qAP ?_ _));exact BK172.out) hb);have n1_:=qAA.mk (qAO (by repeat (first | (with_reducible first | exact HB.out | apply qAE | apply qAD | apply qAF | refine qAQ ?_ GE172.out) | exact HB.out)) hb);clear BK172;clear HB;have BK172:=n0_;have HB:=n1_;clear n0_ n1_;(try clear hb);(try clear hb2);(try clear hk);(try clear hi)))
              repeat (go_quiet (first | (go_at_call 56;(with_reducible refine (ih kj17 (by have:=HJ4.out;have:=HJ11.out;have:=HK3.out;have:=HJ17.out;omega) ((qAR l0_3 x10_3).f0) ((qAR l0_3 x10_3).f1) ((qAR l0_3 x10_3).f2) _ _ ((qAR l0_3 x10_3).f3) _ _ ((qAR l0_3 x10_3).f4) (wrap64 (a1+1)) x9_3 t184 _ ?side1 ?side2 ?side3 ?side4 A44.out).mono ?_);(case side1=>repeat (first | exact (Kd.qAc HR183_3.out HB.out) | (with_reducible refine Kd.qAh ?_ _) | (with_reducible refine Kd.qAk ?_ _) | (with_reducible refine Kd.qAs ?_)));(case side2=>exact HC183_3.out);(case side3=>repeat (first | exact (Kd.qAc HR183_4.out HB.out) | (with_reducible refine Kd.qAh ?_ _) | (with_reducible refine Kd.qAk ?_ _) | (with_reducible refine Kd.qAs ?_)));(case side4=>exact HC183_4.out);rintro e w46 ⟨rfl,hb⟩;have n0_:=qAA.mk (qAX (g:=gb172) (o:=.cells #[.int .i64 a0_0,.int .i64 a0_1,.string a0_2,.slice (some ad183) l0_3.length c0_3,.slice A0_4 l0_4.length c0_4] 34 (0,0)) (by (with_reducible repeat (first | refine qAa ?_ _ | refine qAL ?_ | refine qAP ?_ _));exact BK172.out) hb);have n1_:=qAA.mk (qAO (by repeat (first | (with_reducible first | exact HB.out | apply qAE | apply qAD | apply qAF | refine qAQ ?_ GE172.out) | exact HB.out)) hb);clear BK172;clear HB;have BK172:=n0_;have HB:=n1_;clear n0_ n1_;(try clear hb);(try clear hb2);(try clear hk);(try clear hi)));try go_wp2_with (first | (go_at_call 56;(with_reducible refine (ih kj17 (by have:=HJ4.out;have:=HJ11.out;have:=HK3.out;have:=HJ17.out;omega) ((qAR l0_3 x10_3).f0) ((qAR l0_3 x10_3).f1) ((qAR l0_3 x10_3).f2) _ _ ((qAR l0_3 x10_3).f3) _ _ ((qAR l0_3 x10_3).f4) (wrap64 (a1+1)) x9_3 t184 _ ?side1 ?side2 ?side3 ?side4 A44.out).mono ?_);(case side1=>repeat (first | exact (Kd.qAc HR183_3.out HB.out) | (with_reducible refine Kd.qAh ?_ _) | (with_reducible refine Kd.qAk ?_ _) | (with_reducible refine Kd.qAs ?_)));(case side2=>exact HC183_3.out);(case side3=>repeat (first | exact (Kd.qAc HR183_4.out HB.out) | (with_reducible refine Kd.qAh ?_ _) | (with_reducible refine Kd.qAk ?_ _) | (with_reducible refine Kd.qAs ?_)));(case side4=>exact HC183_4.out);rintro e w46 ⟨rfl,hb⟩;have n0_:=qAA.mk (qAX (g:=gb172) (o:=.cells #[.int .i64 a0_0,.int .i64 a0_1,.string a0_2,.slice (some ad183) l0_3.length c0_3,.slice A0_4 l0_4.length c0_4] 34 (0,0)) (by (with_reducible repeat (first | refine qAa ?_ _ | refine qAL ?_ | refine qAP ?_ _));exact BK172.out) hb);have n1_:=qAA.mk (qAO (by repeat (first | (with_reducible first | exact HB.out | apply qAE | apply qAD | apply qAF | refine qAQ ?_ GE172.out) | exact HB.out)) hb);clear BK172;clear HB;have BK172:=n0_;have HB:=n1_;clear n0_ n1_;(try clear hb);(try clear hb2);(try clear hk);(try clear hi))))
              go_roundg kj17
              case measure=>have:=HJ4.out;have:=HJ11.out;have:=HK3.out;have:=HJ17.out;omega
              case rel=>exact ⟨(t184),(wrap64 (x10_3+1)),(by first | rfl | (simp;done) | (simp [*];done)),(by first | rfl | (simp;done) | (simp [*];done)),H',⟨by have:=HJ4.out;have:=HJ11.out;have:=HK3.out;have:=HJ17.out;omega⟩,⟨by (with_reducible repeat (first | refine qAa ?_ _ | refine qAL ?_ | refine qAP ?_ _));exact BK172.out⟩,⟨by repeat (first | (with_reducible first | exact HB.out | apply qAE | apply qAD | apply qAF | refine qAQ ?_ GE172.out) | exact HB.out)⟩⟩
             ·rw [if_neg c43] at H
              exact absurd H (by simp)
            ·rw [if_neg c42] at H
             exact absurd H (by simp)
          ·replace c22:=Bool.eq_false_iff.mpr c22
           subst c22
           have H1:(if x9_3 > 2048 then (some 2049) else (some x9_3))=some r:=by rw [if_neg (show ¬ (false=true) by decide)] at H;exact H
           clear H
           have H:=H1
           clear H1
           by_cases c47:x9_3 > 2048
           ·rw [if_pos c47] at H
            have c47b0:decide (2048 < x9_3)=true:=decide_eq_true c47
            clear c47
            obtain rfl:=Option.some.inj H
            simp only [Option.some.injEq,Prod.mk.injEq] at H
            obtain ⟨rfl⟩:=H
            go_wp2
            repeat (go_quiet (fail);try go_wp2)
            go_ret
            exact ⟨by first | rfl | (simp [qAT,qAS] <;> rfl) | (simp [*,qAT,qAS] <;> rfl),by repeat (first | (with_reducible first | exact HB.out | apply qAE | apply qAD | apply qAF | refine qAQ ?_ GE172.out) | exact HB.out)⟩
           ·rw [if_neg c47] at H
            have c47b0:decide (2048 < x9_3)=false:=decide_eq_false c47
            clear c47
            obtain rfl:=Option.some.inj H
            simp only [Option.some.injEq,Prod.mk.injEq] at H
            obtain ⟨rfl⟩:=H
            go_wp2
            repeat (go_quiet (fail);try go_wp2)
            go_ret
            exact ⟨by first | rfl | (simp [qAT,qAS] <;> rfl) | (simp [*,qAT,qAS] <;> rfl),by repeat (first | (with_reducible first | exact HB.out | apply qAE | apply qAD | apply qAF | refine qAQ ?_ GE172.out) | exact HB.out)⟩
end Go.Proofs.Ytdommiicjpjfpaa.X
