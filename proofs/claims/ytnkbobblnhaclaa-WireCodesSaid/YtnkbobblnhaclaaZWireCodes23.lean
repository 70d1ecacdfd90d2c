import Derived.Test.YtnkbobblnhaclaaZWireCodes3
set_option linter.unusedVariables false
set_option linter.unusedSimpArgs false
namespace Go.Proofs.Ytnkbobblnhaclaa.X
open Go.RowKit Go.Proofs.YtnkbobblnhaclaaW.PrintWords Go.Proofs.YtnkbobblnhaclaaW.PrintLast Go.Proofs.YtnkbobblnhaclaaW.PrintMore Go.Proofs.YtnkbobblnhaclaaW
attribute [local go_sem] qBF qBE qBX qBW qA6 qA5 qBJ qBI
mutual
def qAO.j0:Nat→List Int→Int→Bool→Option (Int × Int × Int)
 | 0,_,_,_=>none
 | k+1,x0,x1,x18=>if x18=true then (some (0,0,10)) else (qAO.l0 k x0 x1 0 1 0)
def qAO.l0:Nat→List Int→Int→Int→Int→Int→Option (Int × Int × Int)
 | 0,_,_,_,_,_=>none
 | k+1,x0,x1,x7,x8,x9=>if x9 < 10 then (if x9 ≥ (wrap64 ((x0.length:Int) - x1)) then (some (0,0,11)) else (if 0≤(wrap64 (x1+x9)) then (if (wrap64 (x1+x9)) < (x0.length:Int) then (if x9=9 then (if (IntKind.u64.wrap (rd x0 (wrap64 (x1+x9)))) > 1 then (qAO.j2 k x0 x1 x7 x8 x9 (IntKind.u64.wrap (rd x0 (wrap64 (x1+x9)))) true) else (if x9 > 0 then (qAO.j2 k x0 x1 x7 x8 x9 (IntKind.u64.wrap (rd x0 (wrap64 (x1+x9)))) ((IntKind.u64.wrap (rd x0 (wrap64 (x1+x9)))) == 0)) else (qAO.j2 k x0 x1 x7 x8 x9 (IntKind.u64.wrap (rd x0 (wrap64 (x1+x9)))) false))) else (if x9 > 0 then (qAO.j2 k x0 x1 x7 x8 x9 (IntKind.u64.wrap (rd x0 (wrap64 (x1+x9)))) ((IntKind.u64.wrap (rd x0 (wrap64 (x1+x9)))) == 0)) else (qAO.j2 k x0 x1 x7 x8 x9 (IntKind.u64.wrap (rd x0 (wrap64 (x1+x9)))) false))) else (none)) else (none))) else (some (0,0,12))
def qAO.j2:Nat→List Int→Int→Int→Int→Int→Int→Bool→Option (Int × Int × Int)
 | 0,_,_,_,_,_,_,_=>none
 | k+1,x0,x1,x7,x8,x9,x10,x49=>if x49=true then (some (0,0,12)) else (if x10 < 128 then (some (IntKind.u64.wrap (x7+(IntKind.u64.wrap ((Int.tmod x10 128) * x8))),wrap64 ((wrap64 (x1+x9))+1),0)) else (qAO.l0 k x0 x1 (IntKind.u64.wrap (x7+(IntKind.u64.wrap ((Int.tmod x10 128) * x8)))) (IntKind.u64.wrap (x8 * 128)) (wrap64 (x9+1))))
end
def qAO.f (k:Nat) (l0:List Int) (a1:Int):Option (Int × Int × Int):=if a1 < 0 then (qAO.j0 k l0 a1 true) else (qAO.j0 k l0 a1 (decide (a1 > (l0.length:Int))))
theorem qAO.qBj:∀ k,(∀ y0 y1 y2,LeO (qAO.j0 k y0 y1 y2) (qAO.j0 (k+1) y0 y1 y2))∧(∀ y0 y1 y2 y3 y4,LeO (qAO.l0 k y0 y1 y2 y3 y4) (qAO.l0 (k+1) y0 y1 y2 y3 y4))∧(∀ y0 y1 y2 y3 y4 y5 y6,LeO (qAO.j2 k y0 y1 y2 y3 y4 y5 y6) (qAO.j2 (k+1) y0 y1 y2 y3 y4 y5 y6))
 | 0=>⟨fun _ _ _ r h=>by simp [qAO.j0] at h,fun _ _ _ _ _ r h=>by simp [qAO.l0] at h,fun _ _ _ _ _ _ _ r h=>by simp [qAO.j2] at h⟩
 | k+1=>by
  obtain ⟨ih0,ih1,ih2⟩:=qAO.qBj k
  refine ⟨?_, ?_, ?_⟩
  ·intro y0 y1 y2
   unfold qAO.j0
   repeat' first
   | (with_reducible exact ih0 _ _ _)
   | (with_reducible exact ih1 _ _ _ _ _)
   | (with_reducible exact ih2 _ _ _ _ _ _ _)
   | (with_reducible exact LeO.refl _)
   | (with_reducible exact LeO.none _)
   | (with_reducible refine LeO.ite ?_ ?_)
   | (with_reducible refine LeO.bind ?_ (fun _ => ?_))
   | exact ih0 _ _ _
   | exact ih1 _ _ _ _ _
   | exact ih2 _ _ _ _ _ _ _
   | exact LeO.none _
   | refine LeO.ite ?_ ?_
   | refine LeO.bind ?_ (fun _ => ?_)
  ·intro y0 y1 y2 y3 y4
   unfold qAO.l0
   repeat' first
   | (with_reducible exact ih0 _ _ _)
   | (with_reducible exact ih1 _ _ _ _ _)
   | (with_reducible exact ih2 _ _ _ _ _ _ _)
   | (with_reducible exact LeO.refl _)
   | (with_reducible exact LeO.none _)
   | (with_reducible refine LeO.ite ?_ ?_)
   | (with_reducible refine LeO.bind ?_ (fun _ => ?_))
   | exact ih0 _ _ _
   | exact ih1 _ _ _ _ _
   | exact ih2 _ _ _ _ _ _ _
   | exact LeO.none _
   | refine LeO.ite ?_ ?_
   | refine LeO.bind ?_ (fun _ => ?_)
  ·intro y0 y1 y2 y3 y4 y5 y6
   unfold qAO.j2
   repeat' first
   | (with_reducible exact ih0 _ _ _)
   | (with_reducible exact ih1 _ _ _ _ _)
   | (with_reducible exact ih2 _ _ _ _ _ _ _)
   | (with_reducible exact LeO.refl _)
   | (with_reducible exact LeO.none _)
   | (with_reducible refine LeO.ite ?_ ?_)
   | (with_reducible refine LeO.bind ?_ (fun _ => ?_))
   | exact ih0 _ _ _
   | exact ih1 _ _ _ _ _
   | exact ih2 _ _ _ _ _ _ _
   | exact LeO.none _
   | refine LeO.ite ?_ ?_
   | refine LeO.bind ?_ (fun _ => ?_)
theorem qAO.mono:∀ a0 a1 k,LeO (qAO.f k a0 a1) (qAO.f (k+1) a0 a1):=by
 intro a0 a1 k
 obtain ⟨ih0,ih1,ih2⟩:=qAO.qBj k
 unfold qAO.f
 repeat' first
   | (with_reducible exact ih0 _ _ _)
   | (with_reducible exact ih1 _ _ _ _ _)
   | (with_reducible exact ih2 _ _ _ _ _ _ _)
   | (with_reducible exact LeO.refl _)
   | (with_reducible exact LeO.none _)
   | (with_reducible refine LeO.ite ?_ ?_)
   | (with_reducible refine LeO.bind ?_ (fun _ => ?_))
   | exact ih0 _ _ _
   | exact ih1 _ _ _ _ _
   | exact ih2 _ _ _ _ _ _ _
   | exact LeO.none _
   | refine LeO.ite ?_ ?_
   | refine LeO.bind ?_ (fun _ => ?_)
set_option maxHeartbeats 8000000 in
set_option maxRecDepth 100000 in
theorem qAO.calls (k:Nat) (A0:Option Addr) (c0:Nat) (l0:List Int) (a1:Int) (r1:Int) (r2:Int) (r3:Int) (w:World) (hr0:Kd.C (Kd.int .u8) w A0 l0.length l0) (hc0:l0.length≤c0) (h:qAO.f k l0 a1=some (r1,r2,r3)) :
  Calls Try.prog 67 #[.slice A0 l0.length c0,.int .i64 a1] w fun e w'=>e=.returned (.tuple #[.int .u64 r1,.int .i64 r2,.int .i64 r3])∧qAn w w':=by
 have HR0:=qAA.mk hr0
 have HC0:=qAA.mk hc0
 clear hr0 hc0
 have H:(if a1 < 0 then (qAO.j0 k l0 a1 true) else (qAO.j0 k l0 a1 (decide (a1 > (l0.length:Int)))))=some (r1,r2,r3):=h
 clear h
 have HC3:=qAA.mk H
 clear H
 go_enter Try.func67,Try.ntmps67
 go_upto_region 1 with (fail)
 go_cut [18] (fun v18 wc=>∃ (kq:Nat) (x18_2:Bool),v18=.bool x18_2∧qAA (qAO.j0 kq l0 a1 x18_2=some (r1,r2,r3))∧qAA (kq≤k)∧qAn w wc)
 case first =>
  have H:=HC3.out
  clear HC3
  by_cases c4:a1 < 0
  ·rw [if_pos c4] at H
   have c4b0:decide (a1 < 0)=true:=decide_eq_true c4
   clear c4
   (first | rw [c4b0] | (simp only [qAR,qAT];rw [c4b0]) | rw [c4b1] | (simp only [qAR,qAT];rw [c4b1]) | skip)
   have H':=qAA.mk H
   clear H
   go_wp2
   go_meet
   case rel=>exact ⟨_,(true),(by first | rfl | (simp;done) | (simp [*];done)),H',⟨by first | omega | exact Nat.le_refl _⟩,by repeat (first | exact qAn.refl _ | apply qAn.step)⟩
  ·rw [if_neg c4] at H
   have c4b0:decide (a1 < 0)=false:=decide_eq_false c4
   clear c4
   (first | rw [c4b0] | (simp only [qAR,qAT];rw [c4b0]) | rw [c4b1] | (simp only [qAR,qAT];rw [c4b1]) | skip)
   have H':=qAA.mk H
   clear H
   go_wp2
   go_meet
   case rel=>exact ⟨_,(decide (a1 > (l0.length:Int))),(by first | rfl | (simp;done) | (simp [*];done)),H',⟨by first | omega | exact Nat.le_refl _⟩,by repeat (first | exact qAn.refl _ | apply qAn.step)⟩
 case rest =>
  clear HC3
  try clear p2
  try clear c4
  try clear c4b0
  try clear c4b1
  obtain ⟨kq,x18_2,rfl,HA,HJ2,⟨mc2,rfl⟩⟩:=hcut
  cases kq with
  | zero=>exact absurd HA.out (by simp [qAO.j0])
  | succ kj2 =>
   have H:=HA.out
   clear HA
   simp only [qAO.j0] at H
   by_cases c5:x18_2=true
   ·subst c5
    have H1:(some (0,0,10))=some (r1,r2,r3):=by rw [if_pos rfl] at H;exact H
    clear H
    have H:=H1
    clear H1
    simp only [Option.some.injEq,Prod.mk.injEq] at H
    obtain ⟨rfl,rfl,rfl⟩:=H
    go_wp2
    go_ret3
    exact ⟨by first | rfl | (simp;done) | (simp [*];done),by repeat (first | exact qAn.refl _ | apply qAn.step)⟩
   ·replace c5:=Bool.eq_false_iff.mpr c5
    subst c5
    have H1:(qAO.l0 kj2 l0 a1 0 1 0)=some (r1,r2,r3):=by rw [if_neg (show ¬ (false=true) by decide)] at H;exact H
    clear H
    have H:=H1
    clear H1
    have H':=qAA.mk H
    clear H
    go_wp2
    go_loopg [7,8,9] kj2 (fun kq v7 v8 v9 w'=>∃ (x7_2:Int) (x8_2:Int) (x9_2:Int),v7=.int .u64 x7_2∧v8=.int .u64 x8_2∧v9=.int .i64 x9_2∧qAA (qAO.l0 kq l0 a1 x7_2 x8_2 x9_2=some (r1,r2,r3))∧qAA (kq≤kj2)∧qAn w w')
    case atStart=>exact ⟨(0),(1),(0),(by first | rfl | (simp;done) | (simp [*];done)),(by first | rfl | (simp;done) | (simp [*];done)),(by first | rfl | (simp;done) | (simp [*];done)),H',⟨Nat.le_refl _⟩,by repeat (first | exact qAn.refl _ | apply qAn.step)⟩
    case round =>
     clear H'
     try clear c2
     try clear p2
     try clear c4
     try clear c4b0
     try clear c4b1
     try clear c5
     try clear p2
     obtain ⟨x7_2,x8_2,x9_2,rfl,rfl,rfl,HA,HK2,⟨m2,rfl⟩⟩:=hrel
     cases gk with
     | zero=>exact absurd HA.out (by simp [qAO.l0])
     | succ k2 =>
      have H:=HA.out
      clear HA
      simp only [qAO.l0] at H
      by_cases c6:x9_2 < 10
      ·rw [if_pos c6] at H
       have c6b0:decide (x9_2 < 10)=true:=decide_eq_true c6
       clear c6
       by_cases c7:x9_2 ≥ (wrap64 ((l0.length:Int) - a1))
       ·rw [if_pos c7] at H
        have c7b0:decide ((wrap64 ((l0.length:Int) - a1))≤x9_2)=true:=decide_eq_true c7
        clear c7
        simp only [Option.some.injEq,Prod.mk.injEq] at H
        obtain ⟨rfl,rfl,rfl⟩:=H
        go_wp2
        go_ret3
        exact ⟨by first | rfl | (simp;done) | (simp [*];done),by repeat (first | exact qAn.refl _ | apply qAn.step)⟩
       ·rw [if_neg c7] at H
        have c7b0:decide ((wrap64 ((l0.length:Int) - a1))≤x9_2)=false:=decide_eq_false c7
        clear c7
        obtain ⟨ji8,hji8⟩:∃ j_:Int,(wrap64 (a1+x9_2))=j_:=⟨_,rfl⟩
        replace H:(if 0≤(ji8) then (if (ji8) < (l0.length:Int) then (if x9_2=9 then (if (IntKind.u64.wrap (rd l0 (ji8))) > 1 then (qAO.j2 k2 l0 a1 x7_2 x8_2 x9_2 (IntKind.u64.wrap (rd l0 (ji8))) true) else (if x9_2 > 0 then (qAO.j2 k2 l0 a1 x7_2 x8_2 x9_2 (IntKind.u64.wrap (rd l0 (ji8))) ((IntKind.u64.wrap (rd l0 (ji8))) == 0)) else (qAO.j2 k2 l0 a1 x7_2 x8_2 x9_2 (IntKind.u64.wrap (rd l0 (ji8))) false))) else (if x9_2 > 0 then (qAO.j2 k2 l0 a1 x7_2 x8_2 x9_2 (IntKind.u64.wrap (rd l0 (ji8))) ((IntKind.u64.wrap (rd l0 (ji8))) == 0)) else (qAO.j2 k2 l0 a1 x7_2 x8_2 x9_2 (IntKind.u64.wrap (rd l0 (ji8))) false))) else (none)) else (none))=some (r1,r2,r3):=by first | (rw [hji8] at H;exact H) | (simp only [hji8] at H ⊢;exact H)
        have hji8w:(IntKind.i64.wrap (a1+x9_2))=ji8:=(qAR _).trans hji8
        by_cases c9:0≤(ji8)
        ·rw [if_pos c9] at H
         have c9b0:decide (0≤(ji8))=true:=decide_eq_true c9
         clear c9
         by_cases c10:(ji8) < (l0.length:Int)
         ·rw [if_pos c10] at H
          have c10b0:decide ((ji8) < (l0.length:Int))=true:=decide_eq_true c10
          clear c10
          have HC11:=qAA.mk H
          clear H
          have p262:0≤((ji8):Int):=of_decide_eq_true (by first | (with_reducible assumption) | assumption)
          have q262:(ji8) < (l0.length:Int):=of_decide_eq_true (by first | (with_reducible assumption) | assumption)
          obtain ⟨ad262,e262,hx262_0⟩:=Kd.qBL HR0.out (ji8) p262 q262
          cases e262
          replace p262:=eq_true p262
          replace q262:=eq_true q262
          go_upto_region 11 with (fail)
          go_cut [49] (fun v49 wc=>∃ (kq:Nat) (x49_10:Bool),v49=.bool x49_10∧qAA (qAO.j2 kq l0 a1 x7_2 x8_2 x9_2 (IntKind.u64.wrap (rd l0 (ji8))) x49_10=some (r1,r2,r3))∧qAA (kq≤k2)∧qAn w wc)
          case first =>
           have H:=HC11.out
           clear HC11
           by_cases c12:x9_2=9
           ·rw [if_pos c12] at H
            have c12b0:(x9_2 == 9)=true:=beq_iff_eq.mpr c12
            have c12b1:(x9_2 != 9)=false:=bne_eq_false_iff_eq.mpr c12
            clear c12
            (first | rw [c12b0] | (simp only [qAR,qAT];rw [c12b0]) | rw [c12b1] | (simp only [qAR,qAT];rw [c12b1]) | skip)
            by_cases c13:(IntKind.u64.wrap (rd l0 (ji8))) > 1
            ·rw [if_pos c13] at H
             have c13b0:decide (1 < (IntKind.u64.wrap (rd l0 (ji8))))=true:=decide_eq_true c13
             clear c13
             have H':=qAA.mk H
             clear H
             go_wp2
             go_meet
             case rel=>exact ⟨_,(true),(by first | rfl | (simp;done) | (simp [*];done)),H',⟨by have:=HJ2.out;have:=HK2.out;first | omega | exact Nat.le_refl _⟩,by repeat (first | exact qAn.refl _ | apply qAn.step)⟩
            ·rw [if_neg c13] at H
             have c13b0:decide (1 < (IntKind.u64.wrap (rd l0 (ji8))))=false:=decide_eq_false c13
             clear c13
             by_cases c14:x9_2 > 0
             ·rw [if_pos c14] at H
              have c14b0:decide (0 < x9_2)=true:=decide_eq_true c14
              clear c14
              have H':=qAA.mk H
              clear H
              go_wp2
              go_meet
              case rel=>exact ⟨_,(((IntKind.u64.wrap (rd l0 (ji8))) == 0)),(by first | rfl | (simp;done) | (simp only [← hji8] <;> (first | rfl | simp)) | (simp [*];done)),H',⟨by have:=HJ2.out;have:=HK2.out;first | omega | exact Nat.le_refl _⟩,by repeat (first | exact qAn.refl _ | apply qAn.step)⟩
             ·rw [if_neg c14] at H
              have c14b0:decide (0 < x9_2)=false:=decide_eq_false c14
              clear c14
              have H':=qAA.mk H
              clear H
              go_wp2
              go_meet
              case rel=>exact ⟨_,(false),(by first | rfl | (simp;done) | (simp [*];done)),H',⟨by have:=HJ2.out;have:=HK2.out;first | omega | exact Nat.le_refl _⟩,by repeat (first | exact qAn.refl _ | apply qAn.step)⟩
           ·rw [if_neg c12] at H
            have c12b0:(x9_2 == 9)=false:=beq_eq_false_iff_ne.mpr c12
            have c12b1:(x9_2 != 9)=true:=bne_iff_ne.mpr c12
            (first | rw [c12b0] | (simp only [qAR,qAT];rw [c12b0]) | rw [c12b1] | (simp only [qAR,qAT];rw [c12b1]) | skip)
            by_cases c15:x9_2 > 0
            ·rw [if_pos c15] at H
             have c15b0:decide (0 < x9_2)=true:=decide_eq_true c15
             clear c15
             have H':=qAA.mk H
             clear H
             go_wp2
             go_meet
             case rel=>exact ⟨_,(((IntKind.u64.wrap (rd l0 (ji8))) == 0)),(by first | rfl | (simp;done) | (simp only [← hji8] <;> (first | rfl | simp)) | (simp [*];done)),H',⟨by have:=HJ2.out;have:=HK2.out;first | omega | exact Nat.le_refl _⟩,by repeat (first | exact qAn.refl _ | apply qAn.step)⟩
            ·rw [if_neg c15] at H
             have c15b0:decide (0 < x9_2)=false:=decide_eq_false c15
             clear c15
             have H':=qAA.mk H
             clear H
             go_wp2
             go_meet
             case rel=>exact ⟨_,(false),(by first | rfl | (simp;done) | (simp [*];done)),H',⟨by have:=HJ2.out;have:=HK2.out;first | omega | exact Nat.le_refl _⟩,by repeat (first | exact qAn.refl _ | apply qAn.step)⟩
          case rest =>
           clear HC11
           try clear c1
           try clear c2
           try clear p2
           try clear q2
           try clear hx2
           try clear c4
           try clear c4b0
           try clear c4b1
           try clear c5
           try clear c6
           try clear c6b0
           try clear p6
           try clear c7
           try clear c7b0
           try clear c9
           try clear c9b0
           try clear c10
           try clear c10b0
           try clear c12
           try clear c12b0
           try clear c12b1
           try clear c13
           try clear c13b0
           try clear c14
           try clear c14b0
           try clear c15
           try clear c15b0
           try clear hx262_0
           try clear p2
           try clear p262
           try clear q262
           obtain ⟨kq,x49_10,rfl,HA,HJ10,⟨mc10,rfl⟩⟩:=hcut
           cases kq with
           | zero=>exact absurd HA.out (by simp [qAO.j2])
           | succ kj10 =>
            have H:=HA.out
            clear HA
            simp only [qAO.j2] at H
            by_cases c16:x49_10=true
            ·subst c16
             have H1:(some (0,0,12))=some (r1,r2,r3):=by rw [if_pos rfl] at H;exact H
             clear H
             have H:=H1
             clear H1
             simp only [Option.some.injEq,Prod.mk.injEq] at H
             obtain ⟨rfl,rfl,rfl⟩:=H
             go_wp2
             go_ret3
             exact ⟨by first | rfl | (simp;done) | (simp only [← hji8] <;> (first | rfl | simp)) | (simp [*];done),by repeat (first | exact qAn.refl _ | apply qAn.step)⟩
            ·replace c16:=Bool.eq_false_iff.mpr c16
             subst c16
             have H1:(if (IntKind.u64.wrap (rd l0 (ji8))) < 128 then (some (IntKind.u64.wrap (x7_2+(IntKind.u64.wrap ((Int.tmod (IntKind.u64.wrap (rd l0 (ji8))) 128) * x8_2))),wrap64 ((wrap64 (a1+x9_2))+1),0)) else (qAO.l0 kj10 l0 a1 (IntKind.u64.wrap (x7_2+(IntKind.u64.wrap ((Int.tmod (IntKind.u64.wrap (rd l0 (ji8))) 128) * x8_2)))) (IntKind.u64.wrap (x8_2 * 128)) (wrap64 (x9_2+1))))=some (r1,r2,r3):=by rw [if_neg (show ¬ (false=true) by decide)] at H;exact H
             clear H
             have H:=H1
             clear H1
             by_cases c17:(IntKind.u64.wrap (rd l0 (ji8))) < 128
             ·rw [if_pos c17] at H
              have c17b0:decide ((IntKind.u64.wrap (rd l0 (ji8))) < 128)=true:=decide_eq_true c17
              clear c17
              simp only [Option.some.injEq,Prod.mk.injEq] at H
              obtain ⟨rfl,rfl,rfl⟩:=H
              go_wp2
              go_ret3
              exact ⟨by first | rfl | (simp;done) | (simp only [← hji8] <;> (first | rfl | simp)) | (simp [*];done),by repeat (first | exact qAn.refl _ | apply qAn.step)⟩
             ·rw [if_neg c17] at H
              have c17b0:decide ((IntKind.u64.wrap (rd l0 (ji8))) < 128)=false:=decide_eq_false c17
              clear c17
              have H':=qAA.mk H
              clear H
              go_wp2
              go_roundg kj10
              case measure=>have:=HJ2.out;have:=HK2.out;have:=HJ10.out;omega
              case rel=>exact ⟨(IntKind.u64.wrap (x7_2+(IntKind.u64.wrap ((Int.tmod (IntKind.u64.wrap (rd l0 (ji8))) 128) * x8_2)))),(IntKind.u64.wrap (x8_2 * 128)),(wrap64 (x9_2+1)),(by first | rfl | (simp;done) | (simp only [← hji8] <;> (first | rfl | simp)) | (simp [*];done)),(by first | rfl | (simp;done) | (simp [*];done)),(by first | rfl | (simp;done) | (simp [*];done)),H',⟨by have:=HJ2.out;have:=HK2.out;have:=HJ10.out;omega⟩,by repeat (first | exact qAn.refl _ | apply qAn.step)⟩
         ·rw [if_neg c10] at H
          exact absurd H (by simp)
        ·rw [if_neg c9] at H
         exact absurd H (by simp)
      ·rw [if_neg c6] at H
       have c6b0:decide (x9_2 < 10)=false:=decide_eq_false c6
       clear c6
       simp only [Option.some.injEq,Prod.mk.injEq] at H
       obtain ⟨rfl,rfl,rfl⟩:=H
       go_wp2
       go_ret3
       exact ⟨by first | rfl | (simp;done) | (simp [*];done),by repeat (first | exact qAn.refl _ | apply qAn.step)⟩
def qBD.f (k:Nat) (l0:List Int) (a1:Int):Option (Int × Int × Int):=(qAO.f k l0 a1).bind fun bt263=>(if bt263.2.2=0 then (if (Int.tmod bt263.1 2)=1 then (some (wrap64 ((wrap64 (-(wrap64 (IntKind.u64.wrap (Int.tdiv bt263.1 2))))) - 1),bt263.2.1,0)) else (some (wrap64 (IntKind.u64.wrap (Int.tdiv bt263.1 2)),bt263.2.1,0))) else (some (0,0,bt263.2.2)))
theorem qBD.mono:∀ a0 a1 k,LeO (qBD.f k a0 a1) (qBD.f (k+1) a0 a1):=by
 intro a0 a1 k
 unfold qBD.f
 repeat' first
   | (with_reducible exact qAO.mono _ _ _)
   | (with_reducible exact LeO.refl _)
   | (with_reducible exact LeO.none _)
   | (with_reducible refine LeO.ite ?_ ?_)
   | (with_reducible refine LeO.bind ?_ (fun _ => ?_))
   | exact qAO.mono _ _ _
   | exact LeO.none _
   | refine LeO.ite ?_ ?_
   | refine LeO.bind ?_ (fun _ => ?_)
set_option maxHeartbeats 8000000 in
set_option maxRecDepth 100000 in
theorem qBD.calls (k:Nat) (A0:Option Addr) (c0:Nat) (l0:List Int) (a1:Int) (r1:Int) (r2:Int) (r3:Int) (w:World) (hr0:Kd.C (Kd.int .u8) w A0 l0.length l0) (hc0:l0.length≤c0) (h:qBD.f k l0 a1=some (r1,r2,r3)) :
  Calls Try.prog 60 #[.slice A0 l0.length c0,.int .i64 a1] w fun e w'=>e=.returned (.tuple #[.int .i64 r1,.int .i64 r2,.int .i64 r3])∧qAn w w':=by
 have HR0:=qAA.mk hr0
 have HC0:=qAA.mk hc0
 clear hr0 hc0
 have H:((qAO.f k l0 a1).bind fun bt263=>(if bt263.2.2=0 then (if (Int.tmod bt263.1 2)=1 then (some (wrap64 ((wrap64 (-(wrap64 (IntKind.u64.wrap (Int.tdiv bt263.1 2))))) - 1),bt263.2.1,0)) else (some (wrap64 (IntKind.u64.wrap (Int.tdiv bt263.1 2)),bt263.2.1,0))) else (some (0,0,bt263.2.2))))=some (r1,r2,r3):=h
 clear h
 replace H:=Option.bind_eq_some_iff.mp H
 obtain ⟨⟨t263,t264,t265⟩,A30,H⟩:=H
 replace H:(if t265=0 then (if (Int.tmod t263 2)=1 then (some (wrap64 ((wrap64 (-(wrap64 (IntKind.u64.wrap (Int.tdiv t263 2))))) - 1),t264,0)) else (some (wrap64 (IntKind.u64.wrap (Int.tdiv t263 2)),t264,0))) else (some (0,0,t265)))=some (r1,r2,r3):=H
 have A3:=qAA.mk A30
 clear A30
 by_cases c4:t265=0
 ·rw [if_pos c4] at H
  have c4b0:(t265 == 0)=true:=beq_iff_eq.mpr c4
  have c4b1:(t265 != 0)=false:=bne_eq_false_iff_eq.mpr c4
  clear c4
  by_cases c5:(Int.tmod t263 2)=1
  ·rw [if_pos c5] at H
   have c5b0:((Int.tmod t263 2) == 1)=true:=beq_iff_eq.mpr c5
   have c5b1:((Int.tmod t263 2) != 1)=false:=bne_eq_false_iff_eq.mpr c5
   clear c5
   simp only [Option.some.injEq,Prod.mk.injEq] at H
   obtain ⟨rfl,rfl,rfl⟩:=H
   go_enter Try.func60,Try.ntmps60
   go_wp2_with (first | ((with_reducible refine qBO (f:=67) rfl ?_);refine qB9 (some 13) rfl rfl Try.func67 (by kernel_rfl) rfl #[.slice A0 l0.length c0,.int .i64 a1] rfl (by (try simp only [List.map_toArray,List.map_cons,List.map_nil]);first | done | rfl | (simp only [List.length_drop,List.length_take];rfl)) ?_;(with_reducible refine (qAO.calls k _ _ l0 a1 t263 t264 t265 _ ?side1 ?side2 A3.out).mono ?_);(case side1=>repeat (first | exact HR0.out | (with_reducible refine Kd.qAs ?_ _) | (with_reducible refine Kd.qAr ?_ _) | (with_reducible refine Kd.qA0 ?_)));(case side2=>exact HC0.out);rintro e w' ⟨rfl,⟨nd,rfl⟩⟩;refine ⟨_,rfl, ?_⟩))
   go_ret3
   exact ⟨by first | rfl | (simp;done) | (simp [*];done),by repeat (first | exact qAn.refl _ | apply qAn.step)⟩
  ·rw [if_neg c5] at H
   have c5b0:((Int.tmod t263 2) == 1)=false:=beq_eq_false_iff_ne.mpr c5
   have c5b1:((Int.tmod t263 2) != 1)=true:=bne_iff_ne.mpr c5
   simp only [Option.some.injEq,Prod.mk.injEq] at H
   obtain ⟨rfl,rfl,rfl⟩:=H
   go_enter Try.func60,Try.ntmps60
   go_wp2_with (first | ((with_reducible refine qBO (f:=67) rfl ?_);refine qB9 (some 13) rfl rfl Try.func67 (by kernel_rfl) rfl #[.slice A0 l0.length c0,.int .i64 a1] rfl (by (try simp only [List.map_toArray,List.map_cons,List.map_nil]);first | done | rfl | (simp only [List.length_drop,List.length_take];rfl)) ?_;(with_reducible refine (qAO.calls k _ _ l0 a1 t263 t264 t265 _ ?side1 ?side2 A3.out).mono ?_);(case side1=>repeat (first | exact HR0.out | (with_reducible refine Kd.qAs ?_ _) | (with_reducible refine Kd.qAr ?_ _) | (with_reducible refine Kd.qA0 ?_)));(case side2=>exact HC0.out);rintro e w' ⟨rfl,⟨nd,rfl⟩⟩;refine ⟨_,rfl, ?_⟩))
   go_ret3
   exact ⟨by first | rfl | (simp;done) | (simp [*];done),by repeat (first | exact qAn.refl _ | apply qAn.step)⟩
 ·rw [if_neg c4] at H
  have c4b0:(t265 == 0)=false:=beq_eq_false_iff_ne.mpr c4
  have c4b1:(t265 != 0)=true:=bne_iff_ne.mpr c4
  simp only [Option.some.injEq,Prod.mk.injEq] at H
  obtain ⟨rfl,rfl,rfl⟩:=H
  go_enter Try.func60,Try.ntmps60
  go_wp2_with (first | ((with_reducible refine qBO (f:=67) rfl ?_);refine qB9 (some 13) rfl rfl Try.func67 (by kernel_rfl) rfl #[.slice A0 l0.length c0,.int .i64 a1] rfl (by (try simp only [List.map_toArray,List.map_cons,List.map_nil]);first | done | rfl | (simp only [List.length_drop,List.length_take];rfl)) ?_;(with_reducible refine (qAO.calls k _ _ l0 a1 t263 t264 t265 _ ?side1 ?side2 A3.out).mono ?_);(case side1=>repeat (first | exact HR0.out | (with_reducible refine Kd.qAs ?_ _) | (with_reducible refine Kd.qAr ?_ _) | (with_reducible refine Kd.qA0 ?_)));(case side2=>exact HC0.out);rintro e w' ⟨rfl,⟨nd,rfl⟩⟩;refine ⟨_,rfl, ?_⟩))
  go_ret3
  exact ⟨by first | rfl | (simp;done) | (simp [*];done),by repeat (first | exact qAn.refl _ | apply qAn.step)⟩
end Go.Proofs.Ytnkbobblnhaclaa.X
