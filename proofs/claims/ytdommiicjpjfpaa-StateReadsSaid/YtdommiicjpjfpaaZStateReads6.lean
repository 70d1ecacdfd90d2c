import Derived.Test.YtdommiicjpjfpaaZStateReads3
set_option linter.unusedVariables false
set_option linter.unusedSimpArgs false
namespace Go.Proofs.Ytdommiicjpjfpaa.X
open Go.RowKit Go.Proofs.YtdommiicjpjfpaaW.PrintWords Go.Proofs.YtdommiicjpjfpaaW.PrintLast Go.Proofs.YtdommiicjpjfpaaW.PrintMore Go.Proofs.YtdommiicjpjfpaaW
attribute [local go_sem] qBE qBD qBV qBU qA6 qA5 qBJ qBI
mutual
def qAq.j0:Nat→List Int→Int→Bool→Option (Int × Int × Int)
 | 0,_,_,_=>none
 | k+1,x0,x1,x18=>if x18=true then (some (0,0,10)) else (if 0≤x1 then (if x1≤(x0.length:Int) then (qAq.l0 k x1 (x0.drop (x1:Int).toNat) 0 0) else (none)) else (none))
def qAq.l0:Nat→Int→List Int→Int→Int→Option (Int × Int × Int)
 | 0,_,_,_,_=>none
 | k+1,x1,x7,x8,x22=>if x22 < 10 then (if x22=(x7.length:Int) then (some (0,0,11)) else (if 0≤x22 then (if x22 < (x7.length:Int) then (if x22=9 then (if (rd x7 x22) > 1 then (qAq.j2 k x1 x7 x8 x22 (rd x7 x22) x22 true) else (if x22 > 0 then (qAq.j2 k x1 x7 x8 x22 (rd x7 x22) x22 ((rd x7 x22) == 0)) else (qAq.j2 k x1 x7 x8 x22 (rd x7 x22) x22 false))) else (if x22 > 0 then (qAq.j2 k x1 x7 x8 x22 (rd x7 x22) x22 ((rd x7 x22) == 0)) else (qAq.j2 k x1 x7 x8 x22 (rd x7 x22) x22 false))) else (none)) else (none))) else (some (0,0,12))
def qAq.j2:Nat→Int→List Int→Int→Int→Int→Int→Bool→Option (Int × Int × Int)
 | 0,_,_,_,_,_,_,_=>none
 | k+1,x1,x7,x8,x9,x10,x22,x46=>if x46=true then (some (0,0,12)) else (if 0≤(wrap64 (7 * x9)) then (if x10 < 128 then (some (Go.bits .or .u64 x8 (shl .u64 (IntKind.u64.wrap (Go.bits .and .u8 x10 127)) (wrap64 (7 * x9))),wrap64 ((wrap64 (x1+x9))+1),0)) else (qAq.l0 k x1 x7 (Go.bits .or .u64 x8 (shl .u64 (IntKind.u64.wrap (Go.bits .and .u8 x10 127)) (wrap64 (7 * x9)))) (wrap64 (x22+1)))) else (none))
end
def qAq.f (k:Nat) (l0:List Int) (a1:Int):Option (Int × Int × Int):=if a1 < 0 then (qAq.j0 k l0 a1 true) else (qAq.j0 k l0 a1 (decide (a1 > (l0.length:Int))))
set_option maxHeartbeats 8000000 in
set_option maxRecDepth 100000 in
theorem qAq.calls (k:Nat) (A0:Option Addr) (c0:Nat) (l0:List Int) (a1:Int) (r1:Int) (r2:Int) (r3:Int) (w:World) (hr0:Kd.C (Kd.int .u8) w A0 l0.length l0) (hc0:l0.length≤c0) (h:qAq.f k l0 a1=some (r1,r2,r3)) :
  Calls Try.prog 40 #[.slice A0 l0.length c0,.int .i64 a1] w fun e w'=>e=.returned (.tuple #[.int .u64 r1,.int .i64 r2,.int .i64 r3])∧qAf w w':=by
 have HR0:=qAA.mk hr0
 have HC0:=qAA.mk hc0
 clear hr0 hc0
 have H:(if a1 < 0 then (qAq.j0 k l0 a1 true) else (qAq.j0 k l0 a1 (decide (a1 > (l0.length:Int)))))=some (r1,r2,r3):=h
 clear h
 have HC3:=qAA.mk H
 clear H
 go_enter Try.func40,Try.ntmps40
 go_upto_region 1 with (fail)
 go_cut [18] (fun v18 wc=>∃ (kq:Nat) (x18_2:Bool),v18=.bool x18_2∧qAA (qAq.j0 kq l0 a1 x18_2=some (r1,r2,r3))∧qAA (kq≤k)∧qAf w wc)
 case first =>
  have H:=HC3.out
  clear HC3
  by_cases c4:a1 < 0
  ·rw [if_pos c4] at H
   have c4b0:decide (a1 < 0)=true:=decide_eq_true c4
   clear c4
   (first | rw [c4b0] | (simp only [qAZ,qAb];rw [c4b0]) | rw [c4b1] | (simp only [qAZ,qAb];rw [c4b1]) | skip)
   have H':=qAA.mk H
   clear H
   go_wp2
   go_meet
   case rel=>exact ⟨_,(true),(by first | rfl | (simp;done) | (simp [*];done)),H',⟨by first | omega | exact Nat.le_refl _⟩,by repeat (first | exact qAf.refl _ | apply qAf.step)⟩
  ·rw [if_neg c4] at H
   have c4b0:decide (a1 < 0)=false:=decide_eq_false c4
   clear c4
   (first | rw [c4b0] | (simp only [qAZ,qAb];rw [c4b0]) | rw [c4b1] | (simp only [qAZ,qAb];rw [c4b1]) | skip)
   have H':=qAA.mk H
   clear H
   go_wp2
   go_meet
   case rel=>exact ⟨_,(decide (a1 > (l0.length:Int))),(by first | rfl | (simp;done) | (simp [*];done)),H',⟨by first | omega | exact Nat.le_refl _⟩,by repeat (first | exact qAf.refl _ | apply qAf.step)⟩
 case rest =>
  clear HC3
  try clear p2
  try clear c4
  try clear c4b0
  try clear c4b1
  obtain ⟨kq,x18_2,rfl,HA,HJ2,⟨mc2,rfl⟩⟩:=hcut
  cases kq with
  | zero=>exact absurd HA.out (by simp [qAq.j0])
  | succ kj2 =>
   have H:=HA.out
   clear HA
   simp only [qAq.j0] at H
   by_cases c5:x18_2=true
   ·subst c5
    have H1:(some (0,0,10))=some (r1,r2,r3):=by rw [if_pos rfl] at H;exact H
    clear H
    have H:=H1
    clear H1
    simp only [Option.some.injEq,Prod.mk.injEq] at H
    obtain ⟨rfl,rfl,rfl⟩:=H
    go_wp2
    go_ret3
    exact ⟨by first | rfl | (simp;done) | (simp [*];done),by repeat (first | exact qAf.refl _ | apply qAf.step)⟩
   ·replace c5:=Bool.eq_false_iff.mpr c5
    subst c5
    have H1:(if 0≤a1 then (if a1≤(l0.length:Int) then (qAq.l0 kj2 a1 (l0.drop (a1:Int).toNat) 0 0) else (none)) else (none))=some (r1,r2,r3):=by rw [if_neg (show ¬ (false=true) by decide)] at H;exact H
    clear H
    have H:=H1
    clear H1
    by_cases c6:0≤a1
    ·rw [if_pos c6] at H
     have c6b0:=eq_true c6
     have c6b1:decide (0≤a1)=true:=decide_eq_true c6
     clear c6
     by_cases c7:a1≤(l0.length:Int)
     ·rw [if_pos c7] at H
      have c7b0:=eq_true c7
      have c7b1:decide (a1≤(l0.length:Int))=true:=decide_eq_true c7
      clear c7
      have H':=qAA.mk H
      clear H
      obtain ⟨i08,hi08,_,hsz8,_⟩:=info_parts info5
      obtain ⟨A8,hcut8,hA8,hC8⟩:=print_drop_of (P:=Try.prog) (Value.int .u8) 0 44 5 .i64 Try.underlying44 hi08 hsz8 A0 c0 l0 a1 (of_decide_eq_true (by first | (with_reducible assumption) | assumption)) (of_decide_eq_true (by first | (with_reducible assumption) | assumption)) HC0.out
      have HR126:=qAA.mk (Kd.C_of_reads (h1:=fun _=>rfl) (hA8 _ (Kd.qB4 HR0.out)))
      have HC126:=qAA.mk hC8
      clear hA8 hC8 hi08 hsz8
      go_wp2
      go_loopg [8,22] kj2 (fun kq v8 v22 w'=>∃ (x8_2:Int) (x22_2:Int),v8=.int .u64 x8_2∧v22=.int .i64 x22_2∧qAA (qAq.l0 kq a1 (l0.drop (a1:Int).toNat) x8_2 x22_2=some (r1,r2,r3))∧qAA (kq≤kj2)∧qAf w w')
      case atStart=>exact ⟨(0),(0),(by first | rfl | (simp;done) | (simp [*];done)),(by first | rfl | (simp;done) | (simp [*];done)),H',⟨Nat.le_refl _⟩,by repeat (first | exact qAf.refl _ | apply qAf.step)⟩
      case round =>
       clear H'
       try clear c2
       try clear p2
       try clear c4
       try clear c4b0
       try clear c4b1
       try clear c5
       try clear c6
       try clear c6b0
       try clear c6b1
       try clear c7
       try clear c7b0
       try clear c7b1
       try clear p2
       obtain ⟨x8_2,x22_2,rfl,rfl,HA,HK2,⟨m2,rfl⟩⟩:=hrel
       cases gk with
       | zero=>exact absurd HA.out (by simp [qAq.l0])
       | succ k2 =>
        have H:=HA.out
        clear HA
        simp only [qAq.l0] at H
        by_cases c9:x22_2 < 10
        ·rw [if_pos c9] at H
         have c9b0:decide (x22_2 < 10)=true:=decide_eq_true c9
         clear c9
         by_cases c10:x22_2=((l0.drop (a1:Int).toNat).length:Int)
         ·rw [if_pos c10] at H
          have c10b0:(x22_2 == ((l0.drop (a1:Int).toNat).length:Int))=true:=beq_iff_eq.mpr c10
          have c10b0_:(x22_2 == ((l0.length - (a1:Int).toNat:Nat):Int))=true:=by rw [← List.length_drop];exact c10b0
          have c10b1:(x22_2 != ((l0.drop (a1:Int).toNat).length:Int))=false:=bne_eq_false_iff_eq.mpr c10
          have c10b1_:(x22_2 != ((l0.length - (a1:Int).toNat:Nat):Int))=false:=by rw [← List.length_drop];exact c10b1
          clear c10
          simp only [Option.some.injEq,Prod.mk.injEq] at H
          obtain ⟨rfl,rfl,rfl⟩:=H
          go_wp2
          go_ret3
          exact ⟨by first | rfl | (simp;done) | (simp [*];done),by repeat (first | exact qAf.refl _ | apply qAf.step)⟩
         ·rw [if_neg c10] at H
          have c10b0:(x22_2 == ((l0.drop (a1:Int).toNat).length:Int))=false:=beq_eq_false_iff_ne.mpr c10
          have c10b0_:(x22_2 == ((l0.length - (a1:Int).toNat:Nat):Int))=false:=by rw [← List.length_drop];exact c10b0
          have c10b1:(x22_2 != ((l0.drop (a1:Int).toNat).length:Int))=true:=bne_iff_ne.mpr c10
          have c10b1_:(x22_2 != ((l0.length - (a1:Int).toNat:Nat):Int))=true:=by rw [← List.length_drop];exact c10b1
          by_cases c11:0≤x22_2
          ·rw [if_pos c11] at H
           have c11b0:decide (0≤x22_2)=true:=decide_eq_true c11
           clear c11
           by_cases c12:x22_2 < ((l0.drop (a1:Int).toNat).length:Int)
           ·rw [if_pos c12] at H
            have c12b0:decide (x22_2 < ((l0.drop (a1:Int).toNat).length:Int))=true:=decide_eq_true c12
            have c12b0_:decide (x22_2 < ((l0.length - (a1:Int).toNat:Nat):Int))=true:=by rw [← List.length_drop];exact c12b0
            clear c12
            have HC13:=qAA.mk H
            clear H
            have p127:0≤(x22_2:Int):=of_decide_eq_true (by first | (with_reducible assumption) | assumption)
            have q127:x22_2 < ((l0.drop (a1:Int).toNat).length:Int):=of_decide_eq_true (by first | (with_reducible assumption) | assumption)
            obtain ⟨ad127,e127,hx127_0⟩:=Kd.qBQ HR126.out x22_2 p127 q127
            cases e127
            replace p127:=eq_true p127
            replace q127:=eq_true q127
            have q127_:(x22_2 < ((l0.length - (a1:Int).toNat:Nat):Int))=True:=by rw [← List.length_drop];exact q127
            go_upto_region 11 with (fail)
            go_cut [46] (fun v46 wc=>∃ (kq:Nat) (x46_12:Bool),v46=.bool x46_12∧qAA (qAq.j2 kq a1 (l0.drop (a1:Int).toNat) x8_2 x22_2 (rd (l0.drop (a1:Int).toNat) x22_2) x22_2 x46_12=some (r1,r2,r3))∧qAA (kq≤k2)∧qAf w wc)
            case first =>
             have H:=HC13.out
             clear HC13
             by_cases c14:x22_2=9
             ·rw [if_pos c14] at H
              have c14b0:(x22_2 == 9)=true:=beq_iff_eq.mpr c14
              have c14b1:(x22_2 != 9)=false:=bne_eq_false_iff_eq.mpr c14
              clear c14
              (first | rw [c14b0] | (simp only [qAZ,qAb];rw [c14b0]) | rw [c14b1] | (simp only [qAZ,qAb];rw [c14b1]) | skip)
              by_cases c15:(rd (l0.drop (a1:Int).toNat) x22_2) > 1
              ·rw [if_pos c15] at H
               have c15b0:decide (1 < (rd (l0.drop (a1:Int).toNat) x22_2))=true:=decide_eq_true c15
               clear c15
               have H':=qAA.mk H
               clear H
               go_wp2
               go_meet
               case rel=>exact ⟨_,(true),(by first | rfl | (simp;done) | (simp [*];done)),H',⟨by have:=HJ2.out;have:=HK2.out;first | omega | exact Nat.le_refl _⟩,by repeat (first | exact qAf.refl _ | apply qAf.step)⟩
              ·rw [if_neg c15] at H
               have c15b0:decide (1 < (rd (l0.drop (a1:Int).toNat) x22_2))=false:=decide_eq_false c15
               clear c15
               by_cases c16:x22_2 > 0
               ·rw [if_pos c16] at H
                have c16b0:decide (0 < x22_2)=true:=decide_eq_true c16
                clear c16
                have H':=qAA.mk H
                clear H
                go_wp2
                go_meet
                case rel=>exact ⟨_,(((rd (l0.drop (a1:Int).toNat) x22_2) == 0)),(by first | rfl | (simp;done) | (simp [*];done)),H',⟨by have:=HJ2.out;have:=HK2.out;first | omega | exact Nat.le_refl _⟩,by repeat (first | exact qAf.refl _ | apply qAf.step)⟩
               ·rw [if_neg c16] at H
                have c16b0:decide (0 < x22_2)=false:=decide_eq_false c16
                clear c16
                have H':=qAA.mk H
                clear H
                go_wp2
                go_meet
                case rel=>exact ⟨_,(false),(by first | rfl | (simp;done) | (simp [*];done)),H',⟨by have:=HJ2.out;have:=HK2.out;first | omega | exact Nat.le_refl _⟩,by repeat (first | exact qAf.refl _ | apply qAf.step)⟩
             ·rw [if_neg c14] at H
              have c14b0:(x22_2 == 9)=false:=beq_eq_false_iff_ne.mpr c14
              have c14b1:(x22_2 != 9)=true:=bne_iff_ne.mpr c14
              (first | rw [c14b0] | (simp only [qAZ,qAb];rw [c14b0]) | rw [c14b1] | (simp only [qAZ,qAb];rw [c14b1]) | skip)
              by_cases c17:x22_2 > 0
              ·rw [if_pos c17] at H
               have c17b0:decide (0 < x22_2)=true:=decide_eq_true c17
               clear c17
               have H':=qAA.mk H
               clear H
               go_wp2
               go_meet
               case rel=>exact ⟨_,(((rd (l0.drop (a1:Int).toNat) x22_2) == 0)),(by first | rfl | (simp;done) | (simp [*];done)),H',⟨by have:=HJ2.out;have:=HK2.out;first | omega | exact Nat.le_refl _⟩,by repeat (first | exact qAf.refl _ | apply qAf.step)⟩
              ·rw [if_neg c17] at H
               have c17b0:decide (0 < x22_2)=false:=decide_eq_false c17
               clear c17
               have H':=qAA.mk H
               clear H
               go_wp2
               go_meet
               case rel=>exact ⟨_,(false),(by first | rfl | (simp;done) | (simp [*];done)),H',⟨by have:=HJ2.out;have:=HK2.out;first | omega | exact Nat.le_refl _⟩,by repeat (first | exact qAf.refl _ | apply qAf.step)⟩
            case rest =>
             clear HC13
             try clear c1
             try clear p1
             try clear q1
             try clear hx1
             try clear c2
             try clear p2
             try clear c4
             try clear c4b0
             try clear c4b1
             try clear c5
             try clear c6
             try clear c6b0
             try clear c6b1
             try clear c7
             try clear c7b0
             try clear c7b1
             try clear c9
             try clear c9b0
             try clear c10
             try clear c10b0
             try clear c10b1
             try clear c11
             try clear c11b0
             try clear c12
             try clear c12b0
             try clear p12
             try clear q12
             try clear hx12
             try clear c14
             try clear c14b0
             try clear c14b1
             try clear c15
             try clear c15b0
             try clear c16
             try clear c16b0
             try clear c17
             try clear c17b0
             try clear hx127_0
             try clear p127
             try clear p2
             try clear q127
             obtain ⟨kq,x46_12,rfl,HA,HJ12,⟨mc12,rfl⟩⟩:=hcut
             cases kq with
             | zero=>exact absurd HA.out (by simp [qAq.j2])
             | succ kj12 =>
              have H:=HA.out
              clear HA
              simp only [qAq.j2] at H
              by_cases c18:x46_12=true
              ·subst c18
               have H1:(some (0,0,12))=some (r1,r2,r3):=by rw [if_pos rfl] at H;exact H
               clear H
               have H:=H1
               clear H1
               simp only [Option.some.injEq,Prod.mk.injEq] at H
               obtain ⟨rfl,rfl,rfl⟩:=H
               go_wp2
               go_ret3
               exact ⟨by first | rfl | (simp;done) | (simp [*];done),by repeat (first | exact qAf.refl _ | apply qAf.step)⟩
              ·replace c18:=Bool.eq_false_iff.mpr c18
               subst c18
               have H1:(if 0≤(wrap64 (7 * x22_2)) then (if (rd (l0.drop (a1:Int).toNat) x22_2) < 128 then (some (Go.bits .or .u64 x8_2 (shl .u64 (IntKind.u64.wrap (Go.bits .and .u8 (rd (l0.drop (a1:Int).toNat) x22_2) 127)) (wrap64 (7 * x22_2))),wrap64 ((wrap64 (a1+x22_2))+1),0)) else (qAq.l0 kj12 a1 (l0.drop (a1:Int).toNat) (Go.bits .or .u64 x8_2 (shl .u64 (IntKind.u64.wrap (Go.bits .and .u8 (rd (l0.drop (a1:Int).toNat) x22_2) 127)) (wrap64 (7 * x22_2)))) (wrap64 (x22_2+1)))) else (none))=some (r1,r2,r3):=by rw [if_neg (show ¬ (false=true) by decide)] at H;exact H
               clear H
               have H:=H1
               clear H1
               obtain ⟨ji19,hji19⟩:∃ j_:Int,(wrap64 (7 * x22_2))=j_:=⟨_,rfl⟩
               replace H:(if 0≤(ji19) then (if (rd (l0.drop (a1:Int).toNat) x22_2) < 128 then (some (Go.bits .or .u64 x8_2 (shl .u64 (IntKind.u64.wrap (Go.bits .and .u8 (rd (l0.drop (a1:Int).toNat) x22_2) 127)) (ji19)),wrap64 ((wrap64 (a1+x22_2))+1),0)) else (qAq.l0 kj12 a1 (l0.drop (a1:Int).toNat) (Go.bits .or .u64 x8_2 (shl .u64 (IntKind.u64.wrap (Go.bits .and .u8 (rd (l0.drop (a1:Int).toNat) x22_2) 127)) (ji19))) (wrap64 (x22_2+1)))) else (none))=some (r1,r2,r3):=by first | (rw [hji19] at H;exact H) | (simp only [hji19] at H ⊢;exact H)
               have hji19w:(IntKind.i64.wrap (7 * x22_2))=ji19:=(qAZ _).trans hji19
               by_cases c20:0≤(ji19)
               ·rw [if_pos c20] at H
                have c20b0:=eq_true c20
                have c20b1:decide (0≤(ji19))=true:=decide_eq_true c20
                clear c20
                obtain ⟨ji21,hji21⟩:∃ j_:Int,(shl .u64 (IntKind.u64.wrap (Go.bits .and .u8 (rd (l0.drop (a1:Int).toNat) x22_2) 127)) (ji19))=j_:=⟨_,rfl⟩
                replace H:(if (rd (l0.drop (a1:Int).toNat) x22_2) < 128 then (some (Go.bits .or .u64 x8_2 (ji21),wrap64 ((wrap64 (a1+x22_2))+1),0)) else (qAq.l0 kj12 a1 (l0.drop (a1:Int).toNat) (Go.bits .or .u64 x8_2 (ji21)) (wrap64 (x22_2+1))))=some (r1,r2,r3):=by first | (rw [hji21] at H;exact H) | (simp only [hji21] at H ⊢;exact H)
                have hji21_:(IntKind.u64.wrap ((IntKind.u64.wrap (Go.bits .and .u8 (rd (l0.drop (a1:Int).toNat) x22_2) 127)) * 2 ^ min (ji19).toNat 64))=ji21:=hji21
                have hji21z:(ji19)≤64→(IntKind.u64.wrap ((IntKind.u64.wrap (Go.bits .and .u8 (rd (l0.drop (a1:Int).toNat) x22_2) 127)) * 2 ^ (ji19).toNat))=ji21:=shl_small hji21
                by_cases c22:(rd (l0.drop (a1:Int).toNat) x22_2) < 128
                ·rw [if_pos c22] at H
                 have c22b0:decide ((rd (l0.drop (a1:Int).toNat) x22_2) < 128)=true:=decide_eq_true c22
                 clear c22
                 simp only [Option.some.injEq,Prod.mk.injEq] at H
                 obtain ⟨rfl,rfl,rfl⟩:=H
                 go_wp2
                 go_ret3
                 exact ⟨by first | rfl | (simp;done) | (simp only [← hji19,← hji21] <;> (first | rfl | simp)) | (simp [*];done),by repeat (first | exact qAf.refl _ | apply qAf.step)⟩
                ·rw [if_neg c22] at H
                 have c22b0:decide ((rd (l0.drop (a1:Int).toNat) x22_2) < 128)=false:=decide_eq_false c22
                 clear c22
                 have H':=qAA.mk H
                 clear H
                 go_wp2
                 go_roundg kj12
                 case measure=>have:=HJ2.out;have:=HK2.out;have:=HJ12.out;omega
                 case rel=>exact ⟨(Go.bits .or .u64 x8_2 (ji21)),(wrap64 (x22_2+1)),(by first | rfl | (simp;done) | (simp only [← hji21] <;> (first | rfl | simp)) | (simp [*];done)),(by first | rfl | (simp;done) | (simp [*];done)),H',⟨by have:=HJ2.out;have:=HK2.out;have:=HJ12.out;omega⟩,by repeat (first | exact qAf.refl _ | apply qAf.step)⟩
               ·rw [if_neg c20] at H
                exact absurd H (by simp)
           ·rw [if_neg c12] at H
            exact absurd H (by simp)
          ·rw [if_neg c11] at H
           exact absurd H (by simp)
        ·rw [if_neg c9] at H
         have c9b0:decide (x22_2 < 10)=false:=decide_eq_false c9
         clear c9
         simp only [Option.some.injEq,Prod.mk.injEq] at H
         obtain ⟨rfl,rfl,rfl⟩:=H
         go_wp2
         go_ret3
         exact ⟨by first | rfl | (simp;done) | (simp [*];done),by repeat (first | exact qAf.refl _ | apply qAf.step)⟩
     ·rw [if_neg c7] at H
      exact absurd H (by simp)
    ·rw [if_neg c6] at H
     exact absurd H (by simp)
end Go.Proofs.Ytdommiicjpjfpaa.X
