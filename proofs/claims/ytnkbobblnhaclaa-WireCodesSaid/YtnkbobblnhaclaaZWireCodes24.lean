import Derived.Test.YtnkbobblnhaclaaZWireCodes3
set_option linter.unusedVariables false
set_option linter.unusedSimpArgs false
namespace Go.Proofs.Ytnkbobblnhaclaa.X
open Go.RowKit Go.Proofs.YtnkbobblnhaclaaW.PrintWords Go.Proofs.YtnkbobblnhaclaaW.PrintLast Go.Proofs.YtnkbobblnhaclaaW.PrintMore Go.Proofs.YtnkbobblnhaclaaW
attribute [local go_sem] qBF qBE qBX qBW qA6 qA5 qBJ qBI
def qAl.l0:Nat→List Int→List Int→Int→Option (Bool)
 | 0,_,_,_=>none
 | k+1,x0,x1,x5=>if x5 < (x0.length:Int) then (if x5 < (x1.length:Int) then (if 0≤x5 then (if (rd x0 x5)=(rd x1 x5) then (if x5 ≥ (x1.length:Int) then (if (rd x0 x5)=((wrap64 (100+(Int.tmod x5 50))) % 256) then (qAl.l0 k x0 x1 (wrap64 (x5+1))) else (some false)) else (qAl.l0 k x0 x1 (wrap64 (x5+1)))) else (some false)) else (none)) else (if x5 ≥ (x1.length:Int) then (if 0≤x5 then (if (rd x0 x5)=((wrap64 (100+(Int.tmod x5 50))) % 256) then (qAl.l0 k x0 x1 (wrap64 (x5+1))) else (some false)) else (none)) else (qAl.l0 k x0 x1 (wrap64 (x5+1))))) else (some true)
def qAl.f (k:Nat) (l0:List Int) (l1:List Int):Option (Bool):=qAl.l0 k l0 l1 0
theorem qAl.qBj:∀ k,(∀ y0 y1 y2,LeO (qAl.l0 k y0 y1 y2) (qAl.l0 (k+1) y0 y1 y2))
 | 0=>fun _ _ _ r h=>by simp [qAl.l0] at h
 | k+1=>by
  have ih0:=qAl.qBj k
  ·intro y0 y1 y2
   unfold qAl.l0
   repeat' first
   | (with_reducible exact ih0 _ _ _)
   | (with_reducible exact LeO.refl _)
   | (with_reducible exact LeO.none _)
   | (with_reducible refine LeO.ite ?_ ?_)
   | (with_reducible refine LeO.bind ?_ (fun _ => ?_))
   | exact ih0 _ _ _
   | exact LeO.none _
   | refine LeO.ite ?_ ?_
   | refine LeO.bind ?_ (fun _ => ?_)
theorem qAl.mono:∀ a0 a1 k,LeO (qAl.f k a0 a1) (qAl.f (k+1) a0 a1):=by
 intro a0 a1 k
 have ih0:=qAl.qBj k
 unfold qAl.f
 repeat' first
   | (with_reducible exact ih0 _ _ _)
   | (with_reducible exact LeO.refl _)
   | (with_reducible exact LeO.none _)
   | (with_reducible refine LeO.ite ?_ ?_)
   | (with_reducible refine LeO.bind ?_ (fun _ => ?_))
   | exact ih0 _ _ _
   | exact LeO.none _
   | refine LeO.ite ?_ ?_
   | refine LeO.bind ?_ (fun _ => ?_)
set_option maxHeartbeats 8000000 in
set_option maxRecDepth 100000 in
theorem qAl.calls (k:Nat) (A0:Option Addr) (c0:Nat) (l0:List Int) (A1:Option Addr) (c1:Nat) (l1:List Int) (r:Bool) (w:World) (hr0:Kd.C (Kd.int .u8) w A0 l0.length l0) (hc0:l0.length≤c0) (hr1:Kd.C (Kd.int .u8) w A1 l1.length l1) (hc1:l1.length≤c1) (h:qAl.f k l0 l1=some r) :
  Calls Try.prog 17 #[.slice A0 l0.length c0,.slice A1 l1.length c1] w fun e w'=>e=.returned (.bool r)∧qAn w w':=by
 have HR0:=qAA.mk hr0
 have HC0:=qAA.mk hc0
 clear hr0 hc0
 have HR1:=qAA.mk hr1
 have HC1:=qAA.mk hc1
 clear hr1 hc1
 have H:(qAl.l0 k l0 l1 0)=some r:=h
 clear h
 have H':=qAA.mk H
 clear H
 go_enter Try.func17,Try.ntmps17
 go_wp2
 repeat (go_quiet (fail);try go_wp2)
 go_loopg [5] k (fun kq v5 w'=>∃ (x5_1:Int),v5=.int .i64 x5_1∧qAA (qAl.l0 kq l0 l1 x5_1=some r)∧qAA (kq≤k)∧qAn w w')
 case atStart=>exact ⟨(0),(by first | rfl | (simp;done) | (simp [*];done)),H',⟨Nat.le_refl _⟩,by repeat (first | exact qAn.refl _ | apply qAn.step)⟩
 case round =>
  clear H'
  try clear c1
  try clear p2
  obtain ⟨x5_1,rfl,HA,HK1,⟨m1,rfl⟩⟩:=hrel
  cases gk with
  | zero=>exact absurd HA.out (by simp [qAl.l0])
  | succ k1 =>
   have H:=HA.out
   clear HA
   simp only [qAl.l0] at H
   by_cases c3:x5_1 < (l0.length:Int)
   ·rw [if_pos c3] at H
    have c3b0:decide (x5_1 < (l0.length:Int))=true:=decide_eq_true c3
    clear c3
    by_cases c4:x5_1 < (l1.length:Int)
    ·rw [if_pos c4] at H
     have c4b0:decide (x5_1 < (l1.length:Int))=true:=decide_eq_true c4
     clear c4
     by_cases c5:0≤x5_1
     ·rw [if_pos c5] at H
      have c5b0:decide (0≤x5_1)=true:=decide_eq_true c5
      clear c5
      by_cases c6:(rd l0 x5_1)=(rd l1 x5_1)
      ·rw [if_pos c6] at H
       have c6b0:((rd l0 x5_1) == (rd l1 x5_1))=true:=beq_iff_eq.mpr c6
       have c6b1:((rd l0 x5_1) != (rd l1 x5_1))=false:=bne_eq_false_iff_eq.mpr c6
       clear c6
       by_cases c7:x5_1 ≥ (l1.length:Int)
       ·rw [if_pos c7] at H
        have c7b0:decide ((l1.length:Int)≤x5_1)=true:=decide_eq_true c7
        clear c7
        by_cases c8:(rd l0 x5_1)=((wrap64 (100+(Int.tmod x5_1 50))) % 256)
        ·rw [if_pos c8] at H
         have c8b0:((rd l0 x5_1) == ((wrap64 (100+(Int.tmod x5_1 50))) % 256))=true:=beq_iff_eq.mpr c8
         have c8b1:((rd l0 x5_1) != ((wrap64 (100+(Int.tmod x5_1 50))) % 256))=false:=bne_eq_false_iff_eq.mpr c8
         clear c8
         have H':=qAA.mk H
         clear H
         have p228:0≤(x5_1:Int):=of_decide_eq_true (by first | (with_reducible assumption) | assumption)
         have q228:x5_1 < (l0.length:Int):=of_decide_eq_true (by first | (with_reducible assumption) | assumption)
         obtain ⟨ad228,e228,hx228_0⟩:=Kd.qBL HR0.out x5_1 p228 q228
         cases e228
         replace p228:=eq_true p228
         replace q228:=eq_true q228
         have p229:0≤(x5_1:Int):=of_decide_eq_true (by first | (with_reducible assumption) | assumption)
         have q229:x5_1 < (l1.length:Int):=of_decide_eq_true (by first | (with_reducible assumption) | assumption)
         obtain ⟨ad229,e229,hx229_0⟩:=Kd.qBL HR1.out x5_1 p229 q229
         cases e229
         replace p229:=eq_true p229
         replace q229:=eq_true q229
         have p230:0≤(x5_1:Int):=of_decide_eq_true (by first | (with_reducible assumption) | assumption)
         have q230:x5_1 < (l0.length:Int):=of_decide_eq_true (by first | (with_reducible assumption) | assumption)
         obtain ⟨ad230,e230,hx230_0⟩:=Kd.qBL HR0.out x5_1 p230 q230
         obtain rfl:ad228=ad230:=(by injection e230)
         replace p230:=eq_true p230
         replace q230:=eq_true q230
         go_wp2
         repeat (go_quiet (fail);try go_wp2)
         go_roundg k1
         case measure=>have:=HK1.out;omega
         case rel=>exact ⟨(wrap64 (x5_1+1)),(by first | rfl | (simp;done) | (simp [*];done)),H',⟨by have:=HK1.out;omega⟩,by repeat (first | exact qAn.refl _ | apply qAn.step)⟩
        ·rw [if_neg c8] at H
         have c8b0:((rd l0 x5_1) == ((wrap64 (100+(Int.tmod x5_1 50))) % 256))=false:=beq_eq_false_iff_ne.mpr c8
         have c8b1:((rd l0 x5_1) != ((wrap64 (100+(Int.tmod x5_1 50))) % 256))=true:=bne_iff_ne.mpr c8
         obtain rfl:=Option.some.inj H
         simp only [Option.some.injEq,Prod.mk.injEq] at H
         obtain ⟨rfl⟩:=H
         have p228:0≤(x5_1:Int):=of_decide_eq_true (by first | (with_reducible assumption) | assumption)
         have q228:x5_1 < (l0.length:Int):=of_decide_eq_true (by first | (with_reducible assumption) | assumption)
         obtain ⟨ad228,e228,hx228_0⟩:=Kd.qBL HR0.out x5_1 p228 q228
         cases e228
         replace p228:=eq_true p228
         replace q228:=eq_true q228
         have p229:0≤(x5_1:Int):=of_decide_eq_true (by first | (with_reducible assumption) | assumption)
         have q229:x5_1 < (l1.length:Int):=of_decide_eq_true (by first | (with_reducible assumption) | assumption)
         obtain ⟨ad229,e229,hx229_0⟩:=Kd.qBL HR1.out x5_1 p229 q229
         cases e229
         replace p229:=eq_true p229
         replace q229:=eq_true q229
         have p230:0≤(x5_1:Int):=of_decide_eq_true (by first | (with_reducible assumption) | assumption)
         have q230:x5_1 < (l0.length:Int):=of_decide_eq_true (by first | (with_reducible assumption) | assumption)
         obtain ⟨ad230,e230,hx230_0⟩:=Kd.qBL HR0.out x5_1 p230 q230
         obtain rfl:ad228=ad230:=(by injection e230)
         replace p230:=eq_true p230
         replace q230:=eq_true q230
         go_wp2
         repeat (go_quiet (fail);try go_wp2)
         go_ret
         exact ⟨by first | rfl | (simp;done) | (simp [*];done),by repeat (first | exact qAn.refl _ | apply qAn.step)⟩
       ·rw [if_neg c7] at H
        have c7b0:decide ((l1.length:Int)≤x5_1)=false:=decide_eq_false c7
        clear c7
        have H':=qAA.mk H
        clear H
        have p228:0≤(x5_1:Int):=of_decide_eq_true (by first | (with_reducible assumption) | assumption)
        have q228:x5_1 < (l0.length:Int):=of_decide_eq_true (by first | (with_reducible assumption) | assumption)
        obtain ⟨ad228,e228,hx228_0⟩:=Kd.qBL HR0.out x5_1 p228 q228
        cases e228
        replace p228:=eq_true p228
        replace q228:=eq_true q228
        have p229:0≤(x5_1:Int):=of_decide_eq_true (by first | (with_reducible assumption) | assumption)
        have q229:x5_1 < (l1.length:Int):=of_decide_eq_true (by first | (with_reducible assumption) | assumption)
        obtain ⟨ad229,e229,hx229_0⟩:=Kd.qBL HR1.out x5_1 p229 q229
        cases e229
        replace p229:=eq_true p229
        replace q229:=eq_true q229
        go_wp2
        repeat (go_quiet (fail);try go_wp2)
        go_roundg k1
        case measure=>have:=HK1.out;omega
        case rel=>exact ⟨(wrap64 (x5_1+1)),(by first | rfl | (simp;done) | (simp [*];done)),H',⟨by have:=HK1.out;omega⟩,by repeat (first | exact qAn.refl _ | apply qAn.step)⟩
      ·rw [if_neg c6] at H
       have c6b0:((rd l0 x5_1) == (rd l1 x5_1))=false:=beq_eq_false_iff_ne.mpr c6
       have c6b1:((rd l0 x5_1) != (rd l1 x5_1))=true:=bne_iff_ne.mpr c6
       obtain rfl:=Option.some.inj H
       simp only [Option.some.injEq,Prod.mk.injEq] at H
       obtain ⟨rfl⟩:=H
       have p228:0≤(x5_1:Int):=of_decide_eq_true (by first | (with_reducible assumption) | assumption)
       have q228:x5_1 < (l0.length:Int):=of_decide_eq_true (by first | (with_reducible assumption) | assumption)
       obtain ⟨ad228,e228,hx228_0⟩:=Kd.qBL HR0.out x5_1 p228 q228
       cases e228
       replace p228:=eq_true p228
       replace q228:=eq_true q228
       have p229:0≤(x5_1:Int):=of_decide_eq_true (by first | (with_reducible assumption) | assumption)
       have q229:x5_1 < (l1.length:Int):=of_decide_eq_true (by first | (with_reducible assumption) | assumption)
       obtain ⟨ad229,e229,hx229_0⟩:=Kd.qBL HR1.out x5_1 p229 q229
       cases e229
       replace p229:=eq_true p229
       replace q229:=eq_true q229
       go_wp2
       repeat (go_quiet (fail);try go_wp2)
       go_ret
       exact ⟨by first | rfl | (simp;done) | (simp [*];done),by repeat (first | exact qAn.refl _ | apply qAn.step)⟩
     ·rw [if_neg c5] at H
      exact absurd H (by simp)
    ·rw [if_neg c4] at H
     have c4b0:decide (x5_1 < (l1.length:Int))=false:=decide_eq_false c4
     clear c4
     by_cases c9:x5_1 ≥ (l1.length:Int)
     ·rw [if_pos c9] at H
      have c9b0:decide ((l1.length:Int)≤x5_1)=true:=decide_eq_true c9
      clear c9
      by_cases c10:0≤x5_1
      ·rw [if_pos c10] at H
       have c10b0:decide (0≤x5_1)=true:=decide_eq_true c10
       clear c10
       by_cases c11:(rd l0 x5_1)=((wrap64 (100+(Int.tmod x5_1 50))) % 256)
       ·rw [if_pos c11] at H
        have c11b0:((rd l0 x5_1) == ((wrap64 (100+(Int.tmod x5_1 50))) % 256))=true:=beq_iff_eq.mpr c11
        have c11b1:((rd l0 x5_1) != ((wrap64 (100+(Int.tmod x5_1 50))) % 256))=false:=bne_eq_false_iff_eq.mpr c11
        clear c11
        have H':=qAA.mk H
        clear H
        have p231:0≤(x5_1:Int):=of_decide_eq_true (by first | (with_reducible assumption) | assumption)
        have q231:x5_1 < (l0.length:Int):=of_decide_eq_true (by first | (with_reducible assumption) | assumption)
        obtain ⟨ad231,e231,hx231_0⟩:=Kd.qBL HR0.out x5_1 p231 q231
        cases e231
        replace p231:=eq_true p231
        replace q231:=eq_true q231
        go_wp2
        repeat (go_quiet (fail);try go_wp2)
        go_roundg k1
        case measure=>have:=HK1.out;omega
        case rel=>exact ⟨(wrap64 (x5_1+1)),(by first | rfl | (simp;done) | (simp [*];done)),H',⟨by have:=HK1.out;omega⟩,by repeat (first | exact qAn.refl _ | apply qAn.step)⟩
       ·rw [if_neg c11] at H
        have c11b0:((rd l0 x5_1) == ((wrap64 (100+(Int.tmod x5_1 50))) % 256))=false:=beq_eq_false_iff_ne.mpr c11
        have c11b1:((rd l0 x5_1) != ((wrap64 (100+(Int.tmod x5_1 50))) % 256))=true:=bne_iff_ne.mpr c11
        obtain rfl:=Option.some.inj H
        simp only [Option.some.injEq,Prod.mk.injEq] at H
        obtain ⟨rfl⟩:=H
        have p231:0≤(x5_1:Int):=of_decide_eq_true (by first | (with_reducible assumption) | assumption)
        have q231:x5_1 < (l0.length:Int):=of_decide_eq_true (by first | (with_reducible assumption) | assumption)
        obtain ⟨ad231,e231,hx231_0⟩:=Kd.qBL HR0.out x5_1 p231 q231
        cases e231
        replace p231:=eq_true p231
        replace q231:=eq_true q231
        go_wp2
        repeat (go_quiet (fail);try go_wp2)
        go_ret
        exact ⟨by first | rfl | (simp;done) | (simp [*];done),by repeat (first | exact qAn.refl _ | apply qAn.step)⟩
      ·rw [if_neg c10] at H
       exact absurd H (by simp)
     ·rw [if_neg c9] at H
      have c9b0:decide ((l1.length:Int)≤x5_1)=false:=decide_eq_false c9
      clear c9
      have H':=qAA.mk H
      clear H
      go_wp2
      repeat (go_quiet (fail);try go_wp2)
      go_roundg k1
      case measure=>have:=HK1.out;omega
      case rel=>exact ⟨(wrap64 (x5_1+1)),(by first | rfl | (simp;done) | (simp [*];done)),H',⟨by have:=HK1.out;omega⟩,by repeat (first | exact qAn.refl _ | apply qAn.step)⟩
   ·rw [if_neg c3] at H
    have c3b0:decide (x5_1 < (l0.length:Int))=false:=decide_eq_false c3
    clear c3
    obtain rfl:=Option.some.inj H
    simp only [Option.some.injEq,Prod.mk.injEq] at H
    obtain ⟨rfl⟩:=H
    go_wp2
    repeat (go_quiet (fail);try go_wp2)
    go_ret
    exact ⟨by first | rfl | (simp;done) | (simp [*];done),by repeat (first | exact qAn.refl _ | apply qAn.step)⟩
end Go.Proofs.Ytnkbobblnhaclaa.X
