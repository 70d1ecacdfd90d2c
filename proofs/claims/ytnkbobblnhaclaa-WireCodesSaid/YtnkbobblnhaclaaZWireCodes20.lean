import Derived.Test.YtnkbobblnhaclaaZWireCodes3
set_option linter.unusedVariables false
set_option linter.unusedSimpArgs false
namespace Go.Proofs.Ytnkbobblnhaclaa.X
open Go.RowKit Go.Proofs.YtnkbobblnhaclaaW.PrintWords Go.Proofs.YtnkbobblnhaclaaW.PrintLast Go.Proofs.YtnkbobblnhaclaaW.PrintMore Go.Proofs.YtnkbobblnhaclaaW
attribute [local go_sem] qBF qBE qBX qBW qA6 qA5 qBJ qBI
mutual
def qAb.l0:Nat→Int→Int→Int→Int→Int→ByteArray→List (S25)→List ByteArray→Option (Int)
 | 0,_,_,_,_,_,_,_,_=>none
 | k+1,x1,x5,x6,x130000,x130001,x130002,x130003,x130004=>if x6 < (x130003.length:Int) then (if x5≤x1 then (if 0≤x6 then ((qAb.f k ((qAU x130003 x6).f0) ((qAU x130003 x6).f1) ((qAU x130003 x6).f2) ((qAU x130003 x6).f3) ((qAU x130003 x6).f4) (wrap64 (x1 - x5))).bind fun t131=>(qAb.l0 k x1 (wrap64 (x5+t131)) (wrap64 (x6+1)) x130000 x130001 x130002 x130003 x130004)) else (none)) else (some x5)) else (some x5)
def qAb.f:Nat→Int→Int→ByteArray→List (S25)→List ByteArray→Int→Option (Int)
 | 0,_,_,_,_,_,_=>none
 | k+1,a0_0,a0_1,a0_2,l0_3,l0_4,a1=>qAb.l0 k a1 1 0 a0_0 a0_1 a0_2 l0_3 l0_4
end
theorem qAb.qBj:∀ k,(∀ y0 y1 y2 y3 y4 y5,LeO (qAb.f k y0 y1 y2 y3 y4 y5) (qAb.f (k+1) y0 y1 y2 y3 y4 y5))∧(∀ y0 y1 y2 y3 y4 y5 y6 y7,LeO (qAb.l0 k y0 y1 y2 y3 y4 y5 y6 y7) (qAb.l0 (k+1) y0 y1 y2 y3 y4 y5 y6 y7))
 | 0=>⟨fun _ _ _ _ _ _ r h=>by simp [qAb.f] at h,fun _ _ _ _ _ _ _ _ r h=>by simp [qAb.l0] at h⟩
 | k+1=>by
  obtain ⟨ih0,ih1⟩:=qAb.qBj k
  refine ⟨?_, ?_⟩
  ·intro y0 y1 y2 y3 y4 y5
   unfold qAb.f
   repeat' first
   | (with_reducible exact ih0 _ _ _ _ _ _)
   | (with_reducible exact ih1 _ _ _ _ _ _ _ _)
   | (with_reducible exact LeO.refl _)
   | (with_reducible exact LeO.none _)
   | (with_reducible refine LeO.ite ?_ ?_)
   | (with_reducible refine LeO.bind ?_ (fun _ => ?_))
   | exact ih0 _ _ _ _ _ _
   | exact ih1 _ _ _ _ _ _ _ _
   | exact LeO.none _
   | refine LeO.ite ?_ ?_
   | refine LeO.bind ?_ (fun _ => ?_)
  ·intro y0 y1 y2 y3 y4 y5 y6 y7
   unfold qAb.l0
   repeat' first
   | (with_reducible exact ih0 _ _ _ _ _ _)
   | (with_reducible exact ih1 _ _ _ _ _ _ _ _)
   | (with_reducible exact LeO.refl _)
   | (with_reducible exact LeO.none _)
   | (with_reducible refine LeO.ite ?_ ?_)
   | (with_reducible refine LeO.bind ?_ (fun _ => ?_))
   | exact ih0 _ _ _ _ _ _
   | exact ih1 _ _ _ _ _ _ _ _
   | exact LeO.none _
   | refine LeO.ite ?_ ?_
   | refine LeO.bind ?_ (fun _ => ?_)
theorem qAb.mono:∀ a0 a1 a2 a3 a4 a5 k,LeO (qAb.f k a0 a1 a2 a3 a4 a5) (qAb.f (k+1) a0 a1 a2 a3 a4 a5):=by
 intro a0 a1 a2 a3 a4 a5 k
 obtain ⟨ih0,ih1⟩:=qAb.qBj k
 exact ih0 a0 a1 a2 a3 a4 a5
set_option maxHeartbeats 8000000 in
set_option maxRecDepth 100000 in
theorem qAb.calls (k:Nat):∀ (a0_0:Int) (a0_1:Int) (a0_2:ByteArray) (A0_3:Option Addr) (c0_3:Nat) (l0_3:List (S25)) (A0_4:Option Addr) (c0_4:Nat) (l0_4:List ByteArray) (a1:Int) (r:Int) (w:World) (hr0_3:Kd.C k25 w A0_3 l0_3.length l0_3) (hc0_3:l0_3.length≤c0_3) (hr0_4:Kd.C Kd.string w A0_4 l0_4.length l0_4) (hc0_4:l0_4.length≤c0_4) (h:qAb.f k a0_0 a0_1 a0_2 l0_3 l0_4 a1=some r),
  Calls Try.prog 41 #[.agg #[.int .i64 a0_0,.int .i64 a0_1,.string a0_2,.slice A0_3 l0_3.length c0_3,.slice A0_4 l0_4.length c0_4],.int .i64 a1] w fun e w'=>e=.returned (.int .i64 r)∧Below w.heap.size w w':=by
 induction k using Nat.strongRecOn with
 | _ k ih =>
 intro a0_0 a0_1 a0_2 A0_3 c0_3 l0_3 A0_4 c0_4 l0_4 a1 r w hr0_3 hc0_3 hr0_4 hc0_4 h
 cases k with
 | zero=>exact absurd h (by simp [qAb.f])
 | succ k =>
 simp only [qAb.f] at h
 have hu25:=Try.underlying25
 have HR0_3:=qAA.mk hr0_3
 have HC0_3:=qAA.mk hc0_3
 clear hr0_3 hc0_3
 have HR0_4:=qAA.mk hr0_4
 have HC0_4:=qAA.mk hc0_4
 clear hr0_4 hc0_4
 have HB:=qAA.mk (Below.refl w.heap.size w)
 have H:(qAb.l0 k a1 1 0 a0_0 a0_1 a0_2 l0_3 l0_4)=some r:=h
 clear h
 have H':=qAA.mk H
 clear H
 go_enter Try.func41,Try.ntmps41
 go_wp2_with (first | ((with_reducible refine qAj (N:=2) rfl ?_);refine qAf ?hg (N:=2) ?hd (cs:=#[.int .i64 a0_0,.int .i64 a0_1,.string a0_2,.slice A0_3 l0_3.length c0_3,.slice A0_4 l0_4.length c0_4]) (t:=25) ?hr ?_;(case hd=>rfl);(case hg=>rfl);(case hr=>first | (go_simp;done) | (go_simp;rfl));intro gb129 hg w3 hbox hb;have n0_:=qAA.mk (qAX (by repeat (first | (with_reducible first | exact HB.out | apply qAF | apply qAD | apply qAG) | exact HB.out)) hb);have n1_:=qAA.mk (hbox);have n2_:=qAA.mk ((by rw [hg];exact (qAV (by repeat (first | (with_reducible first | exact HB.out | apply qAF | apply qAD | apply qAG) | exact HB.out))):w.heap.size≤gb129));have n3_:=qAA.mk ((by rw [hg];exact (qAV (by repeat (first | (with_reducible first | exact HB.out | apply qAF | apply qAD | apply qAG) | exact HB.out))):w.heap.size≤gb129));clear HB;have HB:=n0_;have BK129:=n1_;have GW129:=n2_;have GE129:=n3_;clear n0_ n1_ n2_ n3_;clear hb hbox hg))
 go_loopg [5,6] k (fun kq v5 v6 w'=>∃ (x5_1:Int) (x6_1:Int),v5=.int .i64 x5_1∧v6=.int .i64 x6_1∧qAA (qAb.l0 kq a1 x5_1 x6_1 a0_0 a0_1 a0_2 l0_3 l0_4=some r)∧qAA (kq≤k)∧qAA (w'.heap[gb129]?=some (.cells #[.int .i64 a0_0,.int .i64 a0_1,.string a0_2,(.slice A0_3 l0_3.length c0_3),(.slice A0_4 l0_4.length c0_4)] 25 (0,0)))∧qAA (Below w.heap.size w w'))
 case atStart=>exact ⟨(1),(0),(by first | rfl | (simp;done) | (simp [*];done)),(by first | rfl | (simp;done) | (simp [*];done)),H',⟨Nat.le_refl _⟩,⟨by (with_reducible repeat (first | refine qAN ?_ _ | refine qAM ?_ | refine qAK ?_ _));exact BK129.out⟩,⟨by repeat (first | (with_reducible first | exact HB.out | apply qAF | apply qAD | apply qAG | refine qAL ?_ GE129.out) | exact HB.out)⟩⟩
 case round =>
  clear H'
  try clear p2
  obtain ⟨x5_1,x6_1,rfl,rfl,HA,HK1,BK129,HB⟩:=hrel
  cases gk with
  | zero=>exact absurd HA.out (by simp [qAb.l0])
  | succ k1 =>
   have H:=HA.out
   clear HA
   simp only [qAb.l0] at H
   by_cases c4:x6_1 < (l0_3.length:Int)
   ·rw [if_pos c4] at H
    have c4b0:decide (x6_1 < (l0_3.length:Int))=true:=decide_eq_true c4
    clear c4
    by_cases c5:x5_1≤a1
    ·rw [if_pos c5] at H
     have c5b0:decide (x5_1≤a1)=true:=decide_eq_true c5
     clear c5
     by_cases c6:0≤x6_1
     ·rw [if_pos c6] at H
      have c6b0:decide (0≤x6_1)=true:=decide_eq_true c6
      clear c6
      replace H:=Option.bind_eq_some_iff.mp H
      obtain ⟨t131,A70,H⟩:=H
      replace H:(qAb.l0 k1 a1 (wrap64 (x5_1+t131)) (wrap64 (x6_1+1)) a0_0 a0_1 a0_2 l0_3 l0_4)=some r:=H
      have A7:=qAA.mk A70
      clear A70
      have H':=qAA.mk H
      clear H
      have hcz8_0:wr.cell? ⟨gb129,0,none⟩=some (.int .i64 a0_0):=(qAB BK129.out 0).trans rfl
      have hcz8_1:wr.cell? ⟨gb129,1,none⟩=some (.int .i64 a0_1):=(qAB BK129.out 1).trans rfl
      have hcz8_2:wr.cell? ⟨gb129,2,none⟩=some (.string a0_2):=(qAB BK129.out 2).trans rfl
      have hcz8_3:wr.cell? ⟨gb129,3,none⟩=some (.slice A0_3 l0_3.length c0_3):=(qAB BK129.out 3).trans rfl
      have hcz8_4:wr.cell? ⟨gb129,4,none⟩=some (.slice A0_4 l0_4.length c0_4):=(qAB BK129.out 4).trans rfl
      have hfz8_0:=qAC BK129.out 0
      have hfz8_1:=qAC BK129.out 1
      have hfz8_2:=qAC BK129.out 2
      have hfz8_3:=qAC BK129.out 3
      have hfz8_4:=qAC BK129.out 4
      have p130:0≤(x6_1:Int):=of_decide_eq_true (by first | (with_reducible assumption) | assumption)
      have q130:x6_1 < (l0_3.length:Int):=of_decide_eq_true (by first | (with_reducible assumption) | assumption)
      obtain ⟨ad130,A130_3,c130_3,A130_4,c130_4,e130,hx130_0,hx130_1,hx130_2,hx130_3,hx130_4,hl130_3,hi130_3,hl130_4,hi130_4⟩:=qCL HR0_3.out x6_1 p130 q130
      cases e130
      replace hx130_0:=(HB.out.cell (qs4 w _ hx130_0)).trans hx130_0
      replace hx130_1:=(HB.out.cell (qs4 w _ hx130_1)).trans hx130_1
      replace hx130_2:=(HB.out.cell (qs4 w _ hx130_2)).trans hx130_2
      replace hx130_3:=(HB.out.cell (qs4 w _ hx130_3)).trans hx130_3
      replace hx130_4:=(HB.out.cell (qs4 w _ hx130_4)).trans hx130_4
      have HR130_3:=qAA.mk hi130_3
      have HC130_3:=qAA.mk hl130_3
      clear hi130_3 hl130_3
      have HR130_4:=qAA.mk hi130_4
      have HC130_4:=qAA.mk hl130_4
      clear hi130_4 hl130_4
      replace p130:=eq_true p130
      replace q130:=eq_true q130
      go_wp2_with (first | ((with_reducible refine qBO (f:=41) rfl ?_);refine qB9 (some 28) rfl rfl Try.func41 (by kernel_rfl) rfl #[.agg #[.int .i64 ((qAU l0_3 x6_1).f0),.int .i64 ((qAU l0_3 x6_1).f1),.string ((qAU l0_3 x6_1).f2),.slice A130_3 ((qAU l0_3 x6_1).f3).length c130_3,.slice A130_4 ((qAU l0_3 x6_1).f4).length c130_4],.int .i64 (wrap64 (a1 - x5_1))] rfl (by (try simp only [List.map_toArray,List.map_cons,List.map_nil]);first | done | rfl | (simp only [List.length_drop,List.length_take];rfl)) ?_;(with_reducible refine (ih k1 (by have:=HK1.out;omega) ((qAU l0_3 x6_1).f0) ((qAU l0_3 x6_1).f1) ((qAU l0_3 x6_1).f2) _ _ ((qAU l0_3 x6_1).f3) _ _ ((qAU l0_3 x6_1).f4) (wrap64 (a1 - x5_1)) t131 _ ?side1 ?side2 ?side3 ?side4 A7.out).mono ?_);(case side1=>repeat (first | exact (Kd.qAe HR130_3.out HB.out) | (with_reducible refine Kd.qAs ?_ _) | (with_reducible refine Kd.qAr ?_ _) | (with_reducible refine Kd.qA0 ?_)));(case side2=>exact HC130_3.out);(case side3=>repeat (first | exact (Kd.qAe HR130_4.out HB.out) | (with_reducible refine Kd.qAs ?_ _) | (with_reducible refine Kd.qAr ?_ _) | (with_reducible refine Kd.qA0 ?_)));(case side4=>exact HC130_4.out);rintro e w9 ⟨rfl,hb⟩;refine ⟨_,rfl, ?_⟩;have n0_:=qAA.mk (qAW (g:=gb129) (o:=.cells #[.int .i64 a0_0,.int .i64 a0_1,.string a0_2,.slice (some ad130) l0_3.length c0_3,.slice A0_4 l0_4.length c0_4] 25 (0,0)) (by (with_reducible repeat (first | refine qAN ?_ _ | refine qAM ?_ | refine qAK ?_ _));exact BK129.out) hb);have n1_:=qAA.mk (qAX (by repeat (first | (with_reducible first | exact HB.out | apply qAF | apply qAD | apply qAG | refine qAL ?_ GE129.out) | exact HB.out)) hb);clear BK129;clear HB;have BK129:=n0_;have HB:=n1_;clear n0_ n1_;(try clear hb);(try clear hb2);(try clear hk);(try clear hi)))
      go_roundg k1
      case measure=>have:=HK1.out;omega
      case rel=>exact ⟨(wrap64 (x5_1+t131)),(wrap64 (x6_1+1)),(by first | rfl | (simp;done) | (simp [*];done)),(by first | rfl | (simp;done) | (simp [*];done)),H',⟨by have:=HK1.out;omega⟩,⟨by (with_reducible repeat (first | refine qAN ?_ _ | refine qAM ?_ | refine qAK ?_ _));exact BK129.out⟩,⟨by repeat (first | (with_reducible first | exact HB.out | apply qAF | apply qAD | apply qAG | refine qAL ?_ GE129.out) | exact HB.out)⟩⟩
     ·rw [if_neg c6] at H
      exact absurd H (by simp)
    ·rw [if_neg c5] at H
     have c5b0:decide (x5_1≤a1)=false:=decide_eq_false c5
     clear c5
     obtain rfl:=Option.some.inj H
     simp only [Option.some.injEq,Prod.mk.injEq] at H
     obtain ⟨rfl⟩:=H
     have hcz10_0:wr.cell? ⟨gb129,0,none⟩=some (.int .i64 a0_0):=(qAB BK129.out 0).trans rfl
     have hcz10_1:wr.cell? ⟨gb129,1,none⟩=some (.int .i64 a0_1):=(qAB BK129.out 1).trans rfl
     have hcz10_2:wr.cell? ⟨gb129,2,none⟩=some (.string a0_2):=(qAB BK129.out 2).trans rfl
     have hcz10_3:wr.cell? ⟨gb129,3,none⟩=some (.slice A0_3 l0_3.length c0_3):=(qAB BK129.out 3).trans rfl
     have hcz10_4:wr.cell? ⟨gb129,4,none⟩=some (.slice A0_4 l0_4.length c0_4):=(qAB BK129.out 4).trans rfl
     have hfz10_0:=qAC BK129.out 0
     have hfz10_1:=qAC BK129.out 1
     have hfz10_2:=qAC BK129.out 2
     have hfz10_3:=qAC BK129.out 3
     have hfz10_4:=qAC BK129.out 4
     go_wp2
     go_ret
     exact ⟨by first | rfl | (simp [qAa,qAZ] <;> rfl) | (simp [*,qAa,qAZ] <;> rfl),by repeat (first | (with_reducible first | exact HB.out | apply qAF | apply qAD | apply qAG | refine qAL ?_ GE129.out) | exact HB.out)⟩
   ·rw [if_neg c4] at H
    have c4b0:decide (x6_1 < (l0_3.length:Int))=false:=decide_eq_false c4
    clear c4
    obtain rfl:=Option.some.inj H
    simp only [Option.some.injEq,Prod.mk.injEq] at H
    obtain ⟨rfl⟩:=H
    have hcz11_0:wr.cell? ⟨gb129,0,none⟩=some (.int .i64 a0_0):=(qAB BK129.out 0).trans rfl
    have hcz11_1:wr.cell? ⟨gb129,1,none⟩=some (.int .i64 a0_1):=(qAB BK129.out 1).trans rfl
    have hcz11_2:wr.cell? ⟨gb129,2,none⟩=some (.string a0_2):=(qAB BK129.out 2).trans rfl
    have hcz11_3:wr.cell? ⟨gb129,3,none⟩=some (.slice A0_3 l0_3.length c0_3):=(qAB BK129.out 3).trans rfl
    have hcz11_4:wr.cell? ⟨gb129,4,none⟩=some (.slice A0_4 l0_4.length c0_4):=(qAB BK129.out 4).trans rfl
    have hfz11_0:=qAC BK129.out 0
    have hfz11_1:=qAC BK129.out 1
    have hfz11_2:=qAC BK129.out 2
    have hfz11_3:=qAC BK129.out 3
    have hfz11_4:=qAC BK129.out 4
    go_wp2
    go_ret
    exact ⟨by first | rfl | (simp [qAa,qAZ] <;> rfl) | (simp [*,qAa,qAZ] <;> rfl),by repeat (first | (with_reducible first | exact HB.out | apply qAF | apply qAD | apply qAG | refine qAL ?_ GE129.out) | exact HB.out)⟩
end Go.Proofs.Ytnkbobblnhaclaa.X
