import Derived.Test.YtdommiicjpjfpaaZStateReads3
set_option linter.unusedVariables false
set_option linter.unusedSimpArgs false
namespace Go.Proofs.Ytdommiicjpjfpaa.X
open Go.RowKit Go.Proofs.YtdommiicjpjfpaaW.PrintWords Go.Proofs.YtdommiicjpjfpaaW.PrintLast Go.Proofs.YtdommiicjpjfpaaW.PrintMore Go.Proofs.YtdommiicjpjfpaaW
attribute [local go_sem] qBE qBD qBV qBU qA6 qA5 qBJ qBI
mutual
def qAN.j0:Nat→List Int→Int→Bool→Option (Int × Int × Int)
 | 0,_,_,_=>none
 | k+1,x0,x1,x18=>if x18=true then (some (0,0,10)) else (qAN.l0 k x0 x1 0 1 0)
def qAN.l0:Nat→List Int→Int→Int→Int→Int→Option (Int × Int × Int)
 | 0,_,_,_,_,_=>none
 | k+1,x0,x1,x7,x8,x9=>if x9 < 10 then (if x9 ≥ (wrap64 ((x0.length:Int) - x1)) then (some (0,0,11)) else (if 0≤(wrap64 (x1+x9)) then (if (wrap64 (x1+x9)) < (x0.length:Int) then (if x9=9 then (if (IntKind.u64.wrap (rd x0 (wrap64 (x1+x9)))) > 1 then (qAN.j2 k x0 x1 x7 x8 x9 (IntKind.u64.wrap (rd x0 (wrap64 (x1+x9)))) true) else (if x9 > 0 then (qAN.j2 k x0 x1 x7 x8 x9 (IntKind.u64.wrap (rd x0 (wrap64 (x1+x9)))) ((IntKind.u64.wrap (rd x0 (wrap64 (x1+x9)))) == 0)) else (qAN.j2 k x0 x1 x7 x8 x9 (IntKind.u64.wrap (rd x0 (wrap64 (x1+x9)))) false))) else (if x9 > 0 then (qAN.j2 k x0 x1 x7 x8 x9 (IntKind.u64.wrap (rd x0 (wrap64 (x1+x9)))) ((IntKind.u64.wrap (rd x0 (wrap64 (x1+x9)))) == 0)) else (qAN.j2 k x0 x1 x7 x8 x9 (IntKind.u64.wrap (rd x0 (wrap64 (x1+x9)))) false))) else (none)) else (none))) else (some (0,0,12))
def qAN.j2:Nat→List Int→Int→Int→Int→Int→Int→Bool→Option (Int × Int × Int)
 | 0,_,_,_,_,_,_,_=>none
 | k+1,x0,x1,x7,x8,x9,x10,x49=>if x49=true then (some (0,0,12)) else (if x10 < 128 then (some (IntKind.u64.wrap (x7+(IntKind.u64.wrap ((Int.tmod x10 128) * x8))),wrap64 ((wrap64 (x1+x9))+1),0)) else (qAN.l0 k x0 x1 (IntKind.u64.wrap (x7+(IntKind.u64.wrap ((Int.tmod x10 128) * x8)))) (IntKind.u64.wrap (x8 * 128)) (wrap64 (x9+1))))
end
def qAN.f (k:Nat) (l0:List Int) (a1:Int):Option (Int × Int × Int):=if a1 < 0 then (qAN.j0 k l0 a1 true) else (qAN.j0 k l0 a1 (decide (a1 > (l0.length:Int))))
set_option maxHeartbeats 8000000 in
set_option maxRecDepth 100000 in
theorem qAN.calls (k:Nat) (A0:Option Addr) (c0:Nat) (l0:List Int) (a1:Int) (r1:Int) (r2:Int) (r3:Int) (w:World) (hr0:Kd.C (Kd.int .u8) w A0 l0.length l0) (hc0:l0.length≤c0) (h:qAN.f k l0 a1=some (r1,r2,r3)) :
  Calls Try.prog 42 #[.slice A0 l0.length c0,.int .i64 a1] w fun e w'=>e=.returned (.tuple #[.int .u64 r1,.int .i64 r2,.int .i64 r3])∧qAf w w':=by
 have HR0:=qAA.mk hr0
 have HC0:=qAA.mk hc0
 clear hr0 hc0
 have H:(if a1 < 0 then (qAN.j0 k l0 a1 true) else (qAN.j0 k l0 a1 (decide (a1 > (l0.length:Int)))))=some (r1,r2,r3):=h
 clear h
 have HC3:=qAA.mk H
 clear H
 go_enter Try.func42,Try.ntmps42
 go_upto_region 1 with (fail)
 go_cut [18] (fun v18 wc=>∃ (kq:Nat) (x18_2:Bool),v18=.bool x18_2∧qAA (qAN.j0 kq l0 a1 x18_2=some (r1,r2,r3))∧qAA (kq≤k)∧qAf w wc)
 case first =>
  have H:=HC3.out
  clear HC3
  by_cases c4:a1 < 0
  ·rw [if_pos c4] at H
   have c4b0:decide (a1 < 0)=true:=decide_eq_true c4
   clear c4
   (first | rw [c4b0] | (simp only [qAZ,qAb];rw [c4b0]) | rw [c4b1] | (simp only [qAZ,qAb];rw [c4b1]) | skip)
   have H':=qAA.mk H
   clear H
   go_wp2
   go_meet
   case rel=>exact ⟨_,(true),(by first | rfl | (simp;done) | (simp [*];done)),H',⟨by first | omega | exact Nat.le_refl _⟩,by repeat (first | exact qAf.refl _ | apply qAf.step)⟩
  ·rw [if_neg c4] at H
   have c4b0:decide (a1 < 0)=false:=decide_eq_false c4
   clear c4
   (first | rw [c4b0] | (simp only [qAZ,qAb];rw [c4b0]) | rw [c4b1] | (simp only [qAZ,qAb];rw [c4b1]) | skip)
   have H':=qAA.mk H
   clear H
   go_wp2
   go_meet
   case rel=>exact ⟨_,(decide (a1 > (l0.length:Int))),(by first | rfl | (simp;done) | (simp [*];done)),H',⟨by first | omega | exact Nat.le_refl _⟩,by repeat (first | exact qAf.refl _ | apply qAf.step)⟩
 case rest =>
  clear HC3
  try clear p2
  try clear c4
  try clear c4b0
  try clear c4b1
  obtain ⟨kq,x18_2,rfl,HA,HJ2,⟨mc2,rfl⟩⟩:=hcut
  cases kq with
  | zero=>exact absurd HA.out (by simp [qAN.j0])
  | succ kj2 =>
   have H:=HA.out
   clear HA
   simp only [qAN.j0] at H
   by_cases c5:x18_2=true
   ·subst c5
    have H1:(some (0,0,10))=some (r1,r2,r3):=by rw [if_pos rfl] at H;exact H
    clear H
    have H:=H1
    clear H1
    simp only [Option.some.injEq,Prod.mk.injEq] at H
    obtain ⟨rfl,rfl,rfl⟩:=H
    go_wp2
    go_ret3
    exact ⟨by first | rfl | (simp;done) | (simp [*];done),by repeat (first | exact qAf.refl _ | apply qAf.step)⟩
   ·replace c5:=Bool.eq_false_iff.mpr c5
    subst c5
    have H1:(qAN.l0 kj2 l0 a1 0 1 0)=some (r1,r2,r3):=by rw [if_neg (show ¬ (false=true) by decide)] at H;exact H
    clear H
    have H:=H1
    clear H1
    have H':=qAA.mk H
    clear H
    go_wp2
    go_loopg [7,8,9] kj2 (fun kq v7 v8 v9 w'=>∃ (x7_2:Int) (x8_2:Int) (x9_2:Int),v7=.int .u64 x7_2∧v8=.int .u64 x8_2∧v9=.int .i64 x9_2∧qAA (qAN.l0 kq l0 a1 x7_2 x8_2 x9_2=some (r1,r2,r3))∧qAA (kq≤kj2)∧qAf w w')
    case atStart=>exact ⟨(0),(1),(0),(by first | rfl | (simp;done) | (simp [*];done)),(by first | rfl | (simp;done) | (simp [*];done)),(by first | rfl | (simp;done) | (simp [*];done)),H',⟨Nat.le_refl _⟩,by repeat (first | exact qAf.refl _ | apply qAf.step)⟩
    case round =>
     clear H'
     try clear c2
     try clear p2
     try clear c4
     try clear c4b0
     try clear c4b1
     try clear c5
     try clear p2
     obtain ⟨x7_2,x8_2,x9_2,rfl,rfl,rfl,HA,HK2,⟨m2,rfl⟩⟩:=hrel
     cases gk with
     | zero=>exact absurd HA.out (by simp [qAN.l0])
     | succ k2 =>
      have H:=HA.out
      clear HA
      simp only [qAN.l0] at H
      by_cases c6:x9_2 < 10
      ·rw [if_pos c6] at H
       have c6b0:decide (x9_2 < 10)=true:=decide_eq_true c6
       clear c6
       by_cases c7:x9_2 ≥ (wrap64 ((l0.length:Int) - a1))
       ·rw [if_pos c7] at H
        have c7b0:decide ((wrap64 ((l0.length:Int) - a1))≤x9_2)=true:=decide_eq_true c7
        clear c7
        simp only [Option.some.injEq,Prod.mk.injEq] at H
        obtain ⟨rfl,rfl,rfl⟩:=H
        go_wp2
        go_ret3
        exact ⟨by first | rfl | (simp;done) | (simp [*];done),by repeat (first | exact qAf.refl _ | apply qAf.step)⟩
       ·rw [if_neg c7] at H
        have c7b0:decide ((wrap64 ((l0.length:Int) - a1))≤x9_2)=false:=decide_eq_false c7
        clear c7
        obtain ⟨ji8,hji8⟩:∃ j_:Int,(wrap64 (a1+x9_2))=j_:=⟨_,rfl⟩
        replace H:(if 0≤(ji8) then (if (ji8) < (l0.length:Int) then (if x9_2=9 then (if (IntKind.u64.wrap (rd l0 (ji8))) > 1 then (qAN.j2 k2 l0 a1 x7_2 x8_2 x9_2 (IntKind.u64.wrap (rd l0 (ji8))) true) else (if x9_2 > 0 then (qAN.j2 k2 l0 a1 x7_2 x8_2 x9_2 (IntKind.u64.wrap (rd l0 (ji8))) ((IntKind.u64.wrap (rd l0 (ji8))) == 0)) else (qAN.j2 k2 l0 a1 x7_2 x8_2 x9_2 (IntKind.u64.wrap (rd l0 (ji8))) false))) else (if x9_2 > 0 then (qAN.j2 k2 l0 a1 x7_2 x8_2 x9_2 (IntKind.u64.wrap (rd l0 (ji8))) ((IntKind.u64.wrap (rd l0 (ji8))) == 0)) else (qAN.j2 k2 l0 a1 x7_2 x8_2 x9_2 (IntKind.u64.wrap (rd l0 (ji8))) false))) else (none)) else (none))=some (r1,r2,r3):=by first | (rw [hji8] at H;exact H) | (simp only [hji8] at H ⊢;exact H)
        have hji8w:(IntKind.i64.wrap (a1+x9_2))=ji8:=(qAZ _).trans hji8
        by_cases c9:0≤(ji8)
        ·rw [if_pos c9] at H
         have c9b0:decide (0≤(ji8))=true:=decide_eq_true c9
         clear c9
         by_cases c10:(ji8) < (l0.length:Int)
         ·rw [if_pos c10] at H
          have c10b0:decide ((ji8) < (l0.length:Int))=true:=decide_eq_true c10
          clear c10
          have HC11:=qAA.mk H
          clear H
          have p531:0≤((ji8):Int):=of_decide_eq_true (by first | (with_reducible assumption) | assumption)
          have q531:(ji8) < (l0.length:Int):=of_decide_eq_true (by first | (with_reducible assumption) | assumption)
          obtain ⟨ad531,e531,hx531_0⟩:=Kd.qBQ HR0.out (ji8) p531 q531
          cases e531
          replace p531:=eq_true p531
          replace q531:=eq_true q531
          go_upto_region 11 with (fail)
          go_cut [49] (fun v49 wc=>∃ (kq:Nat) (x49_10:Bool),v49=.bool x49_10∧qAA (qAN.j2 kq l0 a1 x7_2 x8_2 x9_2 (IntKind.u64.wrap (rd l0 (ji8))) x49_10=some (r1,r2,r3))∧qAA (kq≤k2)∧qAf w wc)
          case first =>
           have H:=HC11.out
           clear HC11
           by_cases c12:x9_2=9
           ·rw [if_pos c12] at H
            have c12b0:(x9_2 == 9)=true:=beq_iff_eq.mpr c12
            have c12b1:(x9_2 != 9)=false:=bne_eq_false_iff_eq.mpr c12
            clear c12
            (first | rw [c12b0] | (simp only [qAZ,qAb];rw [c12b0]) | rw [c12b1] | (simp only [qAZ,qAb];rw [c12b1]) | skip)
            by_cases c13:(IntKind.u64.wrap (rd l0 (ji8))) > 1
            ·rw [if_pos c13] at H
             have c13b0:decide (1 < (IntKind.u64.wrap (rd l0 (ji8))))=true:=decide_eq_true c13
             clear c13
             have H':=qAA.mk H
             clear H
             go_wp2
             go_meet
             case rel=>exact ⟨_,(true),(by first | rfl | (simp;done) | (simp [*];done)),H',⟨by have:=HJ2.out;have:=HK2.out;first | omega | exact Nat.le_refl _⟩,by repeat (first | exact qAf.refl _ | apply qAf.step)⟩
            ·rw [if_neg c13] at H
             have c13b0:decide (1 < (IntKind.u64.wrap (rd l0 (ji8))))=false:=decide_eq_false c13
             clear c13
             by_cases c14:x9_2 > 0
             ·rw [if_pos c14] at H
              have c14b0:decide (0 < x9_2)=true:=decide_eq_true c14
              clear c14
              have H':=qAA.mk H
              clear H
              go_wp2
              go_meet
              case rel=>exact ⟨_,(((IntKind.u64.wrap (rd l0 (ji8))) == 0)),(by first | rfl | (simp;done) | (simp only [← hji8] <;> (first | rfl | simp)) | (simp [*];done)),H',⟨by have:=HJ2.out;have:=HK2.out;first | omega | exact Nat.le_refl _⟩,by repeat (first | exact qAf.refl _ | apply qAf.step)⟩
             ·rw [if_neg c14] at H
              have c14b0:decide (0 < x9_2)=false:=decide_eq_false c14
              clear c14
              have H':=qAA.mk H
              clear H
              go_wp2
              go_meet
              case rel=>exact ⟨_,(false),(by first | rfl | (simp;done) | (simp [*];done)),H',⟨by have:=HJ2.out;have:=HK2.out;first | omega | exact Nat.le_refl _⟩,by repeat (first | exact qAf.refl _ | apply qAf.step)⟩
           ·rw [if_neg c12] at H
            have c12b0:(x9_2 == 9)=false:=beq_eq_false_iff_ne.mpr c12
            have c12b1:(x9_2 != 9)=true:=bne_iff_ne.mpr c12
            (first | rw [c12b0] | (simp only [qAZ,qAb];rw [c12b0]) | rw [c12b1] | (simp only [qAZ,qAb];rw [c12b1]) | skip)
            by_cases c15:x9_2 > 0
            ·rw [if_pos c15] at H
             have c15b0:decide (0 < x9_2)=true:=decide_eq_true c15
             clear c15
             have H':=qAA.mk H
             clear H
             go_wp2
             go_meet
             case rel=>exact ⟨_,(((IntKind.u64.wrap (rd l0 (ji8))) == 0)),(by first | rfl | (simp;done) | (simp only [← hji8] <;> (first | rfl | simp)) | (simp [*];done)),H',⟨by have:=HJ2.out;have:=HK2.out;first | omega | exact Nat.le_refl _⟩,by repeat (first | exact qAf.refl _ | apply qAf.step)⟩
            ·rw [if_neg c15] at H
             have c15b0:decide (0 < x9_2)=false:=decide_eq_false c15
             clear c15
             have H':=qAA.mk H
             clear H
             go_wp2
             go_meet
             case rel=>exact ⟨_,(false),(by first | rfl | (simp;done) | (simp [*];done)),H',⟨by have:=HJ2.out;have:=HK2.out;first | omega | exact Nat.le_refl _⟩,by repeat (first | exact qAf.refl _ | apply qAf.step)⟩
          case rest =>
           clear HC11
           try clear c1
           try clear c2
           try clear p2
           try clear c4
           try clear c4b0
           try clear c4b1
           try clear c5
           try clear p5
           try clear q5
           try clear hx5
           try clear c6
           try clear c6b0
           try clear p6
           try clear c7
           try clear c7b0
           try clear c9
           try clear c9b0
           try clear c10
           try clear c10b0
           try clear c12
           try clear c12b0
           try clear c12b1
           try clear c13
           try clear c13b0
           try clear c14
           try clear c14b0
           try clear c15
           try clear c15b0
           try clear hx531_0
           try clear p2
           try clear p531
           try clear q531
           obtain ⟨kq,x49_10,rfl,HA,HJ10,⟨mc10,rfl⟩⟩:=hcut
           cases kq with
           | zero=>exact absurd HA.out (by simp [qAN.j2])
           | succ kj10 =>
            have H:=HA.out
            clear HA
            simp only [qAN.j2] at H
            by_cases c16:x49_10=true
            ·subst c16
             have H1:(some (0,0,12))=some (r1,r2,r3):=by rw [if_pos rfl] at H;exact H
             clear H
             have H:=H1
             clear H1
             simp only [Option.some.injEq,Prod.mk.injEq] at H
             obtain ⟨rfl,rfl,rfl⟩:=H
             go_wp2
             go_ret3
             exact ⟨by first | rfl | (simp;done) | (simp only [← hji8] <;> (first | rfl | simp)) | (simp [*];done),by repeat (first | exact qAf.refl _ | apply qAf.step)⟩
            ·replace c16:=Bool.eq_false_iff.mpr c16
             subst c16
             have H1:(if (IntKind.u64.wrap (rd l0 (ji8))) < 128 then (some (IntKind.u64.wrap (x7_2+(IntKind.u64.wrap ((Int.tmod (IntKind.u64.wrap (rd l0 (ji8))) 128) * x8_2))),wrap64 ((wrap64 (a1+x9_2))+1),0)) else (qAN.l0 kj10 l0 a1 (IntKind.u64.wrap (x7_2+(IntKind.u64.wrap ((Int.tmod (IntKind.u64.wrap (rd l0 (ji8))) 128) * x8_2)))) (IntKind.u64.wrap (x8_2 * 128)) (wrap64 (x9_2+1))))=some (r1,r2,r3):=by rw [if_neg (show ¬ (false=true) by decide)] at H;exact H
             clear H
             have H:=H1
             clear H1
             by_cases c17:(IntKind.u64.wrap (rd l0 (ji8))) < 128
             ·rw [if_pos c17] at H
              have c17b0:decide ((IntKind.u64.wrap (rd l0 (ji8))) < 128)=true:=decide_eq_true c17
              clear c17
              simp only [Option.some.injEq,Prod.mk.injEq] at H
              obtain ⟨rfl,rfl,rfl⟩:=H
              go_wp2
              go_ret3
              exact ⟨by first | rfl | (simp;done) | (simp only [← hji8] <;> (first | rfl | simp)) | (simp [*];done),by repeat (first | exact qAf.refl _ | apply qAf.step)⟩
             ·rw [if_neg c17] at H
              have c17b0:decide ((IntKind.u64.wrap (rd l0 (ji8))) < 128)=false:=decide_eq_false c17
              clear c17
              have H':=qAA.mk H
              clear H
              go_wp2
              go_roundg kj10
              case measure=>have:=HJ2.out;have:=HK2.out;have:=HJ10.out;omega
              case rel=>exact ⟨(IntKind.u64.wrap (x7_2+(IntKind.u64.wrap ((Int.tmod (IntKind.u64.wrap (rd l0 (ji8))) 128) * x8_2)))),(IntKind.u64.wrap (x8_2 * 128)),(wrap64 (x9_2+1)),(by first | rfl | (simp;done) | (simp only [← hji8] <;> (first | rfl | simp)) | (simp [*];done)),(by first | rfl | (simp;done) | (simp [*];done)),(by first | rfl | (simp;done) | (simp [*];done)),H',⟨by have:=HJ2.out;have:=HK2.out;have:=HJ10.out;omega⟩,by repeat (first | exact qAf.refl _ | apply qAf.step)⟩
         ·rw [if_neg c10] at H
          exact absurd H (by simp)
        ·rw [if_neg c9] at H
         exact absurd H (by simp)
      ·rw [if_neg c6] at H
       have c6b0:decide (x9_2 < 10)=false:=decide_eq_false c6
       clear c6
       simp only [Option.some.injEq,Prod.mk.injEq] at H
       obtain ⟨rfl,rfl,rfl⟩:=H
       go_wp2
       go_ret3
       exact ⟨by first | rfl | (simp;done) | (simp [*];done),by repeat (first | exact qAf.refl _ | apply qAf.step)⟩
def qAr.j0:Nat→List Int→Int→Int→Bool→Option (ByteArray × Int × Int)
 | 0,_,_,_,_=>none
 | k+1,x0,x9,x10,x30=>if x30=true then (some ((⟨#[]⟩:ByteArray),0,13)) else (if x9 > (IntKind.u64.wrap (wrap64 ((x0.length:Int) - x10))) then (some ((⟨#[]⟩:ByteArray),0,11)) else (if 0≤x10 then (if x10≤(wrap64 (x10+(wrap64 (x9)))) then (if (wrap64 (x10+(wrap64 (x9))))≤(x0.length:Int) then (some (strOfNums ((x0.take ((wrap64 (x10+(wrap64 (x9)))):Int).toNat).drop (x10:Int).toNat),wrap64 (x10+(wrap64 (x9))),0)) else (none)) else (none)) else (none)))
def qAr.f (k:Nat) (l0:List Int) (a1:Int) (a2:Int):Option (ByteArray × Int × Int):=(qAN.f k l0 a1).bind fun bt532=>(if bt532.2.2=0 then (if a2 < 0 then (qAr.j0 k l0 bt532.1 bt532.2.1 true) else (qAr.j0 k l0 bt532.1 bt532.2.1 (decide (bt532.1 > (IntKind.u64.wrap (a2)))))) else (some ((⟨#[]⟩:ByteArray),0,bt532.2.2)))
set_option maxHeartbeats 8000000 in
set_option maxRecDepth 100000 in
theorem qAr.calls (k:Nat) (A0:Option Addr) (c0:Nat) (l0:List Int) (a1:Int) (a2:Int) (r1:ByteArray) (r2:Int) (r3:Int) (w:World) (hr0:Kd.C (Kd.int .u8) w A0 l0.length l0) (hc0:l0.length≤c0) (h:qAr.f k l0 a1 a2=some (r1,r2,r3)) :
  Calls Try.prog 43 #[.slice A0 l0.length c0,.int .i64 a1,.int .i64 a2] w fun e w'=>e=.returned (.tuple #[.string r1,.int .i64 r2,.int .i64 r3])∧qAf w w':=by
 have HR0:=qAA.mk hr0
 have HC0:=qAA.mk hc0
 clear hr0 hc0
 have H:((qAN.f k l0 a1).bind fun bt532=>(if bt532.2.2=0 then (if a2 < 0 then (qAr.j0 k l0 bt532.1 bt532.2.1 true) else (qAr.j0 k l0 bt532.1 bt532.2.1 (decide (bt532.1 > (IntKind.u64.wrap (a2)))))) else (some ((⟨#[]⟩:ByteArray),0,bt532.2.2))))=some (r1,r2,r3):=h
 clear h
 replace H:=Option.bind_eq_some_iff.mp H
 obtain ⟨⟨t532,t533,t534⟩,A40,H⟩:=H
 replace H:(if t534=0 then (if a2 < 0 then (qAr.j0 k l0 t532 t533 true) else (qAr.j0 k l0 t532 t533 (decide (t532 > (IntKind.u64.wrap (a2)))))) else (some ((⟨#[]⟩:ByteArray),0,t534)))=some (r1,r2,r3):=H
 have A4:=qAA.mk A40
 clear A40
 by_cases c5:t534=0
 ·rw [if_pos c5] at H
  have c5b0:(t534 == 0)=true:=beq_iff_eq.mpr c5
  have c5b1:(t534 != 0)=false:=bne_eq_false_iff_eq.mpr c5
  clear c5
  have HC6:=qAA.mk H
  clear H
  go_enter Try.func43,Try.ntmps43
  go_upto_region 4 with (first | ((with_reducible refine qA2 (f:=42) rfl ?_);refine qB0 (some 16) rfl rfl Try.func42 (by kernel_rfl) rfl #[.slice A0 l0.length c0,.int .i64 a1] rfl (by (try simp only [List.map_toArray,List.map_cons,List.map_nil]);first | done | rfl | (simp only [List.length_drop,List.length_take];rfl)) ?_;(with_reducible refine (qAN.calls k _ _ l0 a1 t532 t533 t534 _ ?side1 ?side2 A4.out).mono ?_);(case side1=>repeat (first | exact HR0.out | (with_reducible refine Kd.qAh ?_ _) | (with_reducible refine Kd.qAk ?_ _) | (with_reducible refine Kd.qAs ?_)));(case side2=>exact HC0.out);rintro e w' ⟨rfl,⟨nd,rfl⟩⟩;refine ⟨_,rfl, ?_⟩))
  (try simp only [Act.put,qs1,qs2,qs3])
  go_cut [30] (fun v30 wc=>∃ (kq:Nat) (x30_5:Bool),v30=.bool x30_5∧qAA (qAr.j0 kq l0 t532 t533 x30_5=some (r1,r2,r3))∧qAA (kq≤k)∧qAf w wc)
  case first =>
   have H:=HC6.out
   clear HC6
   by_cases c7:a2 < 0
   ·rw [if_pos c7] at H
    have c7b0:decide (a2 < 0)=true:=decide_eq_true c7
    clear c7
    (first | rw [c7b0] | (simp only [qAZ,qAb];rw [c7b0]) | rw [c7b1] | (simp only [qAZ,qAb];rw [c7b1]) | skip)
    have H':=qAA.mk H
    clear H
    go_wp2
    go_meet
    case rel=>exact ⟨_,(true),(by first | rfl | (simp;done) | (simp [*];done)),H',⟨by first | omega | exact Nat.le_refl _⟩,by repeat (first | exact qAf.refl _ | apply qAf.step)⟩
   ·rw [if_neg c7] at H
    have c7b0:decide (a2 < 0)=false:=decide_eq_false c7
    clear c7
    (first | rw [c7b0] | (simp only [qAZ,qAb];rw [c7b0]) | rw [c7b1] | (simp only [qAZ,qAb];rw [c7b1]) | skip)
    have H':=qAA.mk H
    clear H
    go_wp2
    go_meet
    case rel=>exact ⟨_,(decide (t532 > (IntKind.u64.wrap (a2)))),(by first | rfl | (simp;done) | (simp [*];done)),H',⟨by first | omega | exact Nat.le_refl _⟩,by repeat (first | exact qAf.refl _ | apply qAf.step)⟩
  case rest =>
   clear HC6
   try clear p2
   try clear c4
   try clear c5
   try clear c5b0
   try clear c5b1
   try clear c7
   try clear c7b0
   try clear c7b1
   obtain ⟨kq,x30_5,rfl,HA,HJ5,⟨mc5,rfl⟩⟩:=hcut
   cases kq with
   | zero=>exact absurd HA.out (by simp [qAr.j0])
   | succ kj5 =>
    have H:=HA.out
    clear HA
    simp only [qAr.j0] at H
    by_cases c8:x30_5=true
    ·subst c8
     have H1:(some ((⟨#[]⟩:ByteArray),0,13))=some (r1,r2,r3):=by rw [if_pos rfl] at H;exact H
     clear H
     have H:=H1
     clear H1
     simp only [Option.some.injEq,Prod.mk.injEq] at H
     obtain ⟨rfl,rfl,rfl⟩:=H
     go_wp2
     go_ret3
     exact ⟨by first | rfl | (simp;done) | (simp [*];done),by repeat (first | exact qAf.refl _ | apply qAf.step)⟩
    ·replace c8:=Bool.eq_false_iff.mpr c8
     subst c8
     have H1:(if t532 > (IntKind.u64.wrap (wrap64 ((l0.length:Int) - t533))) then (some ((⟨#[]⟩:ByteArray),0,11)) else (if 0≤t533 then (if t533≤(wrap64 (t533+(wrap64 (t532)))) then (if (wrap64 (t533+(wrap64 (t532))))≤(l0.length:Int) then (some (strOfNums ((l0.take ((wrap64 (t533+(wrap64 (t532)))):Int).toNat).drop (t533:Int).toNat),wrap64 (t533+(wrap64 (t532))),0)) else (none)) else (none)) else (none)))=some (r1,r2,r3):=by rw [if_neg (show ¬ (false=true) by decide)] at H;exact H
     clear H
     have H:=H1
     clear H1
     by_cases c9:t532 > (IntKind.u64.wrap (wrap64 ((l0.length:Int) - t533)))
     ·rw [if_pos c9] at H
      have c9b0:decide ((IntKind.u64.wrap (wrap64 ((l0.length:Int) - t533))) < t532)=true:=decide_eq_true c9
      clear c9
      simp only [Option.some.injEq,Prod.mk.injEq] at H
      obtain ⟨rfl,rfl,rfl⟩:=H
      go_wp2
      go_ret3
      exact ⟨by first | rfl | (simp;done) | (simp [*];done),by repeat (first | exact qAf.refl _ | apply qAf.step)⟩
     ·rw [if_neg c9] at H
      have c9b0:decide ((IntKind.u64.wrap (wrap64 ((l0.length:Int) - t533))) < t532)=false:=decide_eq_false c9
      clear c9
      by_cases c10:0≤t533
      ·rw [if_pos c10] at H
       have c10b0:=eq_true c10
       have c10b1:decide (0≤t533)=true:=decide_eq_true c10
       clear c10
       by_cases c11:t533≤(wrap64 (t533+(wrap64 (t532))))
       ·rw [if_pos c11] at H
        have c11b0:=eq_true c11
        have c11b1:decide (t533≤(wrap64 (t533+(wrap64 (t532)))))=true:=decide_eq_true c11
        by_cases c12:(wrap64 (t533+(wrap64 (t532))))≤(l0.length:Int)
        ·rw [if_pos c12] at H
         have c12b0:=eq_true c12
         have c12b1:decide ((wrap64 (t533+(wrap64 (t532))))≤(l0.length:Int))=true:=decide_eq_true c12
         simp only [Option.some.injEq,Prod.mk.injEq] at H
         obtain ⟨rfl,rfl,rfl⟩:=H
         obtain ⟨i013,hi013,_,hsz13,_⟩:=info_parts info5
         obtain ⟨A13,hcut13,hA13,hC13⟩:=print_mid_of (P:=Try.prog) (Value.int .u8) 0 44 5 .i64 .i64 Try.underlying44 hi013 hsz13 A0 c0 l0 t533 (wrap64 (t533+(wrap64 (t532)))) (of_decide_eq_true (by first | (with_reducible assumption) | assumption)) (by first | omega | exact of_decide_eq_true (by first | (with_reducible assumption) | assumption)) (of_decide_eq_true (by first | (with_reducible assumption) | assumption)) HC0.out
         have HR535:=qAA.mk (Kd.C_of_reads (h1:=fun _=>rfl) (hA13 _ (Kd.qB4 HR0.out)))
         have HC535:=qAA.mk hC13
         clear hA13 hC13 hi013 hsz13
         have hcv14:=Kd.qB8 (P:=Try.prog) (A:=A13) (c:=(c0 - t533.toNat)) Try.underlying44 Try.underlying5 Try.underlying9 HR535.out
         have hcw14:=fun (n_:Nat)=>Kd.qB8 (P:=Try.prog) (A:=A13) (c:=(c0 - t533.toNat)) Try.underlying44 Try.underlying5 Try.underlying9 (Kd.qAk HR535.out n_)
         (try simp only [show ((l0.take ((wrap64 (t533+(wrap64 (t532)))):Int).toNat).drop (t533:Int).toNat).length=((wrap64 (t533+(wrap64 (t532)))).toNat - t533.toNat) from (by rw [List.length_drop,List.length_take];have h_:((wrap64 (t533+(wrap64 (t532)))):Int)≤(l0.length:Int):=of_decide_eq_true (by first | (with_reducible assumption) | assumption);omega)] at hcv14)
         (try simp only [show ((l0.take ((wrap64 (t533+(wrap64 (t532)))):Int).toNat).drop (t533:Int).toNat).length=((wrap64 (t533+(wrap64 (t532)))).toNat - t533.toNat) from (by rw [List.length_drop,List.length_take];have h_:((wrap64 (t533+(wrap64 (t532)))):Int)≤(l0.length:Int):=of_decide_eq_true (by first | (with_reducible assumption) | assumption);omega)] at hcw14)
         go_wp2
         go_ret3
         exact ⟨by first | rfl | (simp;done) | (simp [*];done),by repeat (first | exact qAf.refl _ | apply qAf.step)⟩
        ·rw [if_neg c12] at H
         exact absurd H (by simp)
       ·rw [if_neg c11] at H
        exact absurd H (by simp)
      ·rw [if_neg c10] at H
       exact absurd H (by simp)
 ·rw [if_neg c5] at H
  have c5b0:(t534 == 0)=false:=beq_eq_false_iff_ne.mpr c5
  have c5b1:(t534 != 0)=true:=bne_iff_ne.mpr c5
  simp only [Option.some.injEq,Prod.mk.injEq] at H
  obtain ⟨rfl,rfl,rfl⟩:=H
  go_enter Try.func43,Try.ntmps43
  go_wp2_with (first | ((with_reducible refine qA2 (f:=42) rfl ?_);refine qB0 (some 16) rfl rfl Try.func42 (by kernel_rfl) rfl #[.slice A0 l0.length c0,.int .i64 a1] rfl (by (try simp only [List.map_toArray,List.map_cons,List.map_nil]);first | done | rfl | (simp only [List.length_drop,List.length_take];rfl)) ?_;(with_reducible refine (qAN.calls k _ _ l0 a1 t532 t533 t534 _ ?side1 ?side2 A4.out).mono ?_);(case side1=>repeat (first | exact HR0.out | (with_reducible refine Kd.qAh ?_ _) | (with_reducible refine Kd.qAk ?_ _) | (with_reducible refine Kd.qAs ?_)));(case side2=>exact HC0.out);rintro e w' ⟨rfl,⟨nd,rfl⟩⟩;refine ⟨_,rfl, ?_⟩))
  go_ret3
  exact ⟨by first | rfl | (simp;done) | (simp [*];done),by repeat (first | exact qAf.refl _ | apply qAf.step)⟩
def qBS.f (k:Nat) (l0:List Int) (a1:Int):Option (Int × Int × Int):=(qAN.f k l0 a1).bind fun bt540=>(if bt540.2.2=0 then (if (Int.tmod bt540.1 2)=1 then (some (wrap64 ((wrap64 (-(wrap64 (IntKind.u64.wrap (Int.tdiv bt540.1 2))))) - 1),bt540.2.1,0)) else (some (wrap64 (IntKind.u64.wrap (Int.tdiv bt540.1 2)),bt540.2.1,0))) else (some (0,0,bt540.2.2)))
set_option maxHeartbeats 8000000 in
set_option maxRecDepth 100000 in
theorem qBS.calls (k:Nat) (A0:Option Addr) (c0:Nat) (l0:List Int) (a1:Int) (r1:Int) (r2:Int) (r3:Int) (w:World) (hr0:Kd.C (Kd.int .u8) w A0 l0.length l0) (hc0:l0.length≤c0) (h:qBS.f k l0 a1=some (r1,r2,r3)) :
  Calls Try.prog 77 #[.slice A0 l0.length c0,.int .i64 a1] w fun e w'=>e=.returned (.tuple #[.int .i64 r1,.int .i64 r2,.int .i64 r3])∧qAf w w':=by
 have HR0:=qAA.mk hr0
 have HC0:=qAA.mk hc0
 clear hr0 hc0
 have H:((qAN.f k l0 a1).bind fun bt540=>(if bt540.2.2=0 then (if (Int.tmod bt540.1 2)=1 then (some (wrap64 ((wrap64 (-(wrap64 (IntKind.u64.wrap (Int.tdiv bt540.1 2))))) - 1),bt540.2.1,0)) else (some (wrap64 (IntKind.u64.wrap (Int.tdiv bt540.1 2)),bt540.2.1,0))) else (some (0,0,bt540.2.2))))=some (r1,r2,r3):=h
 clear h
 replace H:=Option.bind_eq_some_iff.mp H
 obtain ⟨⟨t540,t541,t542⟩,A30,H⟩:=H
 replace H:(if t542=0 then (if (Int.tmod t540 2)=1 then (some (wrap64 ((wrap64 (-(wrap64 (IntKind.u64.wrap (Int.tdiv t540 2))))) - 1),t541,0)) else (some (wrap64 (IntKind.u64.wrap (Int.tdiv t540 2)),t541,0))) else (some (0,0,t542)))=some (r1,r2,r3):=H
 have A3:=qAA.mk A30
 clear A30
 by_cases c4:t542=0
 ·rw [if_pos c4] at H
  have c4b0:(t542 == 0)=true:=beq_iff_eq.mpr c4
  have c4b1:(t542 != 0)=false:=bne_eq_false_iff_eq.mpr c4
  clear c4
  by_cases c5:(Int.tmod t540 2)=1
  ·rw [if_pos c5] at H
   have c5b0:((Int.tmod t540 2) == 1)=true:=beq_iff_eq.mpr c5
   have c5b1:((Int.tmod t540 2) != 1)=false:=bne_eq_false_iff_eq.mpr c5
   clear c5
   simp only [Option.some.injEq,Prod.mk.injEq] at H
   obtain ⟨rfl,rfl,rfl⟩:=H
   go_enter Try.func77,Try.ntmps77
   go_wp2_with (first | ((with_reducible refine qA2 (f:=42) rfl ?_);refine qB0 (some 13) rfl rfl Try.func42 (by kernel_rfl) rfl #[.slice A0 l0.length c0,.int .i64 a1] rfl (by (try simp only [List.map_toArray,List.map_cons,List.map_nil]);first | done | rfl | (simp only [List.length_drop,List.length_take];rfl)) ?_;(with_reducible refine (qAN.calls k _ _ l0 a1 t540 t541 t542 _ ?side1 ?side2 A3.out).mono ?_);(case side1=>repeat (first | exact HR0.out | (with_reducible refine Kd.qAh ?_ _) | (with_reducible refine Kd.qAk ?_ _) | (with_reducible refine Kd.qAs ?_)));(case side2=>exact HC0.out);rintro e w' ⟨rfl,⟨nd,rfl⟩⟩;refine ⟨_,rfl, ?_⟩))
   go_ret3
   exact ⟨by first | rfl | (simp;done) | (simp [*];done),by repeat (first | exact qAf.refl _ | apply qAf.step)⟩
  ·rw [if_neg c5] at H
   have c5b0:((Int.tmod t540 2) == 1)=false:=beq_eq_false_iff_ne.mpr c5
   have c5b1:((Int.tmod t540 2) != 1)=true:=bne_iff_ne.mpr c5
   simp only [Option.some.injEq,Prod.mk.injEq] at H
   obtain ⟨rfl,rfl,rfl⟩:=H
   go_enter Try.func77,Try.ntmps77
   go_wp2_with (first | ((with_reducible refine qA2 (f:=42) rfl ?_);refine qB0 (some 13) rfl rfl Try.func42 (by kernel_rfl) rfl #[.slice A0 l0.length c0,.int .i64 a1] rfl (by (try simp only [List.map_toArray,List.map_cons,List.map_nil]);first | done | rfl | (simp only [List.length_drop,List.length_take];rfl)) ?_;(with_reducible refine (qAN.calls k _ _ l0 a1 t540 t541 t542 _ ?side1 ?side2 A3.out).mono ?_);(case side1=>repeat (first | exact HR0.out | (with_reducible refine Kd.qAh ?_ _) | (with_reducible refine Kd.qAk ?_ _) | (with_reducible refine Kd.qAs ?_)));(case side2=>exact HC0.out);rintro e w' ⟨rfl,⟨nd,rfl⟩⟩;refine ⟨_,rfl, ?_⟩))
   go_ret3
   exact ⟨by first | rfl | (simp;done) | (simp [*];done),by repeat (first | exact qAf.refl _ | apply qAf.step)⟩
 ·rw [if_neg c4] at H
  have c4b0:(t542 == 0)=false:=beq_eq_false_iff_ne.mpr c4
  have c4b1:(t542 != 0)=true:=bne_iff_ne.mpr c4
  simp only [Option.some.injEq,Prod.mk.injEq] at H
  obtain ⟨rfl,rfl,rfl⟩:=H
  go_enter Try.func77,Try.ntmps77
  go_wp2_with (first | ((with_reducible refine qA2 (f:=42) rfl ?_);refine qB0 (some 13) rfl rfl Try.func42 (by kernel_rfl) rfl #[.slice A0 l0.length c0,.int .i64 a1] rfl (by (try simp only [List.map_toArray,List.map_cons,List.map_nil]);first | done | rfl | (simp only [List.length_drop,List.length_take];rfl)) ?_;(with_reducible refine (qAN.calls k _ _ l0 a1 t540 t541 t542 _ ?side1 ?side2 A3.out).mono ?_);(case side1=>repeat (first | exact HR0.out | (with_reducible refine Kd.qAh ?_ _) | (with_reducible refine Kd.qAk ?_ _) | (with_reducible refine Kd.qAs ?_)));(case side2=>exact HC0.out);rintro e w' ⟨rfl,⟨nd,rfl⟩⟩;refine ⟨_,rfl, ?_⟩))
  go_ret3
  exact ⟨by first | rfl | (simp;done) | (simp [*];done),by repeat (first | exact qAf.refl _ | apply qAf.step)⟩
end Go.Proofs.Ytdommiicjpjfpaa.X
