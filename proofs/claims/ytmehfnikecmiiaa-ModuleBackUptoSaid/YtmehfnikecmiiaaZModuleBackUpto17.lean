import Derived.Test.YtmehfnikecmiiaaZModuleBackUpto3
import Derived.Test.YtmehfnikecmiiaaZModuleBackUpto11
import Derived.Test.YtmehfnikecmiiaaZModuleBackUpto9
set_option linter.unusedVariables false
set_option linter.unusedSimpArgs false
namespace Go.Proofs.Ytmehfnikecmiiaa.X
open Go.RowKit Go.Proofs.YtmehfnikecmiiaaW.PrintWords Go.Proofs.YtmehfnikecmiiaaW.PrintLast Go.Proofs.YtmehfnikecmiiaaW.PrintMore Go.Proofs.YtmehfnikecmiiaaW
attribute [local go_sem] qBF qBE qBY qBX qA9 qA8 qBI qBH
def qAf.l0:Nat→ByteArray→Int→Int→Option (Bool)
 | 0,_,_,_=>none
 | k+1,x0,x7,x8=>if x8 < x7 then (if 0≤x8 then (if x8 < (x0.size:Int) then (if (Go.bits .or .u8 (bt x0 x8) 32) ≥ 97 then (if (Go.bits .or .u8 (bt x0 x8) 32)≤122 then (qAf.l0 k x0 x7 (wrap64 (x8+1))) else (if ((bt x0 x8)=95) then (qAf.l0 k x0 x7 (wrap64 (x8+1))) else (if x8=0 then (some false) else (if (bt x0 x8) < 48 then (some false) else (if (bt x0 x8) > 57 then (some false) else (qAf.l0 k x0 x7 (wrap64 (x8+1)))))))) else (if ((bt x0 x8)=95) then (qAf.l0 k x0 x7 (wrap64 (x8+1))) else (if x8=0 then (some false) else (if (bt x0 x8) < 48 then (some false) else (if (bt x0 x8) > 57 then (some false) else (qAf.l0 k x0 x7 (wrap64 (x8+1)))))))) else (none)) else (none)) else (if x0.toList=([]:List UInt8) then (some false) else (some (decide ((x0.size:Int)≤20))))
def qAf.f (k:Nat) (a0:ByteArray):Option (Bool):=qAf.l0 k a0 (a0.size:Int) 0
set_option maxHeartbeats 8000000 in
set_option maxRecDepth 100000 in
theorem qAf.calls (k:Nat) (a0:ByteArray) (r:Bool) (w:World) (h:qAf.f k a0=some r) :
  Calls Try.prog 9 #[.string a0] w fun e w'=>e=.returned (.bool r)∧qAc w w':=by
 have H:(qAf.l0 k a0 (a0.size:Int) 0)=some r:=h
 clear h
 have H':=qAA.mk H
 clear H
 go_enter Try.func9,Try.ntmps9
 go_wp2
 go_loopg [8] k (fun kq v8 w'=>∃ (x8_1:Int),v8=.int .i64 x8_1∧qAA (qAf.l0 kq a0 (a0.size:Int) x8_1=some r)∧qAA (kq≤k)∧qAc w w')
 case atStart=>exact ⟨(0),(by first | rfl | (simp;done) | (simp [*];done)),H',⟨Nat.le_refl _⟩,by repeat (first | exact qAc.refl _ | apply qAc.step)⟩
 case round =>
  clear H'
  obtain ⟨x8_1,rfl,HA,HK1,⟨m1,rfl⟩⟩:=hrel
  cases gk with
  | zero=>exact absurd HA.out (by simp [qAf.l0])
  | succ k1 =>
   have H:=HA.out
   clear HA
   simp only [qAf.l0] at H
   by_cases c2:x8_1 < (a0.size:Int)
   ·rw [if_pos c2] at H
    have c2b0:decide (x8_1 < (a0.size:Int))=true:=decide_eq_true c2
    clear c2
    by_cases c3:0≤x8_1
    ·rw [if_pos c3] at H
     have c3b0:decide (0≤x8_1)=true:=decide_eq_true c3
     clear c3
     by_cases c4:x8_1 < (a0.size:Int)
     ·rw [if_pos c4] at H
      have c4b0:decide (x8_1 < (a0.size:Int))=true:=decide_eq_true c4
      clear c4
      by_cases c6:(Go.bits .or .u8 (bt a0 x8_1) 32) ≥ 97
      ·rw [if_pos c6] at H
       have c6b0:decide (97≤(Go.bits .or .u8 (bt a0 x8_1) 32))=true:=decide_eq_true c6
       clear c6
       by_cases c7:(Go.bits .or .u8 (bt a0 x8_1) 32)≤122
       ·rw [if_pos c7] at H
        have c7b0:decide ((Go.bits .or .u8 (bt a0 x8_1) 32)≤122)=true:=decide_eq_true c7
        clear c7
        have H':=qAA.mk H
        clear H
        have p5:0≤(x8_1:Int):=of_decide_eq_true (by first | (with_reducible assumption) | assumption)
        have q5:x8_1 < (a0.size:Int):=of_decide_eq_true (by first | (with_reducible assumption) | assumption)
        have hx5:=bt_at a0 x8_1
        replace p5:=eq_true p5
        replace q5:=eq_true q5
        go_wp2
        go_roundg k1
        case measure=>have:=HK1.out;omega
        case rel=>exact ⟨(wrap64 (x8_1+1)),(by first | rfl | (simp;done) | (simp [*];done)),H',⟨by have:=HK1.out;omega⟩,by repeat (first | exact qAc.refl _ | apply qAc.step)⟩
       ·rw [if_neg c7] at H
        have c7b0:decide ((Go.bits .or .u8 (bt a0 x8_1) 32)≤122)=false:=decide_eq_false c7
        clear c7
        by_cases c8:((bt a0 x8_1)=95)
        ·rw [if_pos c8] at H
         have c8b0:((bt a0 x8_1) == 95)=true:=beq_iff_eq.mpr c8
         have c8b1:((bt a0 x8_1) != 95)=false:=bne_eq_false_iff_eq.mpr c8
         clear c8
         have H':=qAA.mk H
         clear H
         have p5:0≤(x8_1:Int):=of_decide_eq_true (by first | (with_reducible assumption) | assumption)
         have q5:x8_1 < (a0.size:Int):=of_decide_eq_true (by first | (with_reducible assumption) | assumption)
         have hx5:=bt_at a0 x8_1
         replace p5:=eq_true p5
         replace q5:=eq_true q5
         go_wp2
         go_roundg k1
         case measure=>have:=HK1.out;omega
         case rel=>exact ⟨(wrap64 (x8_1+1)),(by first | rfl | (simp;done) | (simp [*];done)),H',⟨by have:=HK1.out;omega⟩,by repeat (first | exact qAc.refl _ | apply qAc.step)⟩
        ·rw [if_neg c8] at H
         have c8b0:((bt a0 x8_1) == 95)=false:=beq_eq_false_iff_ne.mpr c8
         have c8b1:((bt a0 x8_1) != 95)=true:=bne_iff_ne.mpr c8
         by_cases c9:x8_1=0
         ·rw [if_pos c9] at H
          have c9b0:(x8_1 == 0)=true:=beq_iff_eq.mpr c9
          have c9b1:(x8_1 != 0)=false:=bne_eq_false_iff_eq.mpr c9
          clear c9
          obtain rfl:=Option.some.inj H
          simp only [Option.some.injEq,Prod.mk.injEq] at H
          obtain ⟨rfl⟩:=H
          have p5:0≤(x8_1:Int):=of_decide_eq_true (by first | (with_reducible assumption) | assumption)
          have q5:x8_1 < (a0.size:Int):=of_decide_eq_true (by first | (with_reducible assumption) | assumption)
          have hx5:=bt_at a0 x8_1
          replace p5:=eq_true p5
          replace q5:=eq_true q5
          go_wp2
          go_ret
          exact ⟨by first | rfl | (simp;done) | (simp [*];done),by repeat (first | exact qAc.refl _ | apply qAc.step)⟩
         ·rw [if_neg c9] at H
          have c9b0:(x8_1 == 0)=false:=beq_eq_false_iff_ne.mpr c9
          have c9b1:(x8_1 != 0)=true:=bne_iff_ne.mpr c9
          by_cases c10:(bt a0 x8_1) < 48
          ·rw [if_pos c10] at H
           have c10b0:decide ((bt a0 x8_1) < 48)=true:=decide_eq_true c10
           clear c10
           obtain rfl:=Option.some.inj H
           simp only [Option.some.injEq,Prod.mk.injEq] at H
           obtain ⟨rfl⟩:=H
           have p5:0≤(x8_1:Int):=of_decide_eq_true (by first | (with_reducible assumption) | assumption)
           have q5:x8_1 < (a0.size:Int):=of_decide_eq_true (by first | (with_reducible assumption) | assumption)
           have hx5:=bt_at a0 x8_1
           replace p5:=eq_true p5
           replace q5:=eq_true q5
           go_wp2
           go_ret
           exact ⟨by first | rfl | (simp;done) | (simp [*];done),by repeat (first | exact qAc.refl _ | apply qAc.step)⟩
          ·rw [if_neg c10] at H
           have c10b0:decide ((bt a0 x8_1) < 48)=false:=decide_eq_false c10
           clear c10
           by_cases c11:(bt a0 x8_1) > 57
           ·rw [if_pos c11] at H
            have c11b0:decide (57 < (bt a0 x8_1))=true:=decide_eq_true c11
            clear c11
            obtain rfl:=Option.some.inj H
            simp only [Option.some.injEq,Prod.mk.injEq] at H
            obtain ⟨rfl⟩:=H
            have p5:0≤(x8_1:Int):=of_decide_eq_true (by first | (with_reducible assumption) | assumption)
            have q5:x8_1 < (a0.size:Int):=of_decide_eq_true (by first | (with_reducible assumption) | assumption)
            have hx5:=bt_at a0 x8_1
            replace p5:=eq_true p5
            replace q5:=eq_true q5
            go_wp2
            go_ret
            exact ⟨by first | rfl | (simp;done) | (simp [*];done),by repeat (first | exact qAc.refl _ | apply qAc.step)⟩
           ·rw [if_neg c11] at H
            have c11b0:decide (57 < (bt a0 x8_1))=false:=decide_eq_false c11
            clear c11
            have H':=qAA.mk H
            clear H
            have p5:0≤(x8_1:Int):=of_decide_eq_true (by first | (with_reducible assumption) | assumption)
            have q5:x8_1 < (a0.size:Int):=of_decide_eq_true (by first | (with_reducible assumption) | assumption)
            have hx5:=bt_at a0 x8_1
            replace p5:=eq_true p5
            replace q5:=eq_true q5
            go_wp2
            go_roundg k1
            case measure=>have:=HK1.out;omega
            case rel=>exact ⟨(wrap64 (x8_1+1)),(by first | rfl | (simp;done) | (simp [*];done)),H',⟨by have:=HK1.out;omega⟩,by repeat (first | exact qAc.refl _ | apply qAc.step)⟩
      ·rw [if_neg c6] at H
       have c6b0:decide (97≤(Go.bits .or .u8 (bt a0 x8_1) 32))=false:=decide_eq_false c6
       clear c6
       by_cases c12:((bt a0 x8_1)=95)
       ·rw [if_pos c12] at H
        have c12b0:((bt a0 x8_1) == 95)=true:=beq_iff_eq.mpr c12
        have c12b1:((bt a0 x8_1) != 95)=false:=bne_eq_false_iff_eq.mpr c12
        clear c12
        have H':=qAA.mk H
        clear H
        have p5:0≤(x8_1:Int):=of_decide_eq_true (by first | (with_reducible assumption) | assumption)
        have q5:x8_1 < (a0.size:Int):=of_decide_eq_true (by first | (with_reducible assumption) | assumption)
        have hx5:=bt_at a0 x8_1
        replace p5:=eq_true p5
        replace q5:=eq_true q5
        go_wp2
        go_roundg k1
        case measure=>have:=HK1.out;omega
        case rel=>exact ⟨(wrap64 (x8_1+1)),(by first | rfl | (simp;done) | (simp [*];done)),H',⟨by have:=HK1.out;omega⟩,by repeat (first | exact qAc.refl _ | apply qAc.step)⟩
       ·rw [if_neg c12] at H
        have c12b0:((bt a0 x8_1) == 95)=false:=beq_eq_false_iff_ne.mpr c12
        have c12b1:((bt a0 x8_1) != 95)=true:=bne_iff_ne.mpr c12
        by_cases c13:x8_1=0
        ·rw [if_pos c13] at H
         have c13b0:(x8_1 == 0)=true:=beq_iff_eq.mpr c13
         have c13b1:(x8_1 != 0)=false:=bne_eq_false_iff_eq.mpr c13
         clear c13
         obtain rfl:=Option.some.inj H
         simp only [Option.some.injEq,Prod.mk.injEq] at H
         obtain ⟨rfl⟩:=H
         have p5:0≤(x8_1:Int):=of_decide_eq_true (by first | (with_reducible assumption) | assumption)
         have q5:x8_1 < (a0.size:Int):=of_decide_eq_true (by first | (with_reducible assumption) | assumption)
         have hx5:=bt_at a0 x8_1
         replace p5:=eq_true p5
         replace q5:=eq_true q5
         go_wp2
         go_ret
         exact ⟨by first | rfl | (simp;done) | (simp [*];done),by repeat (first | exact qAc.refl _ | apply qAc.step)⟩
        ·rw [if_neg c13] at H
         have c13b0:(x8_1 == 0)=false:=beq_eq_false_iff_ne.mpr c13
         have c13b1:(x8_1 != 0)=true:=bne_iff_ne.mpr c13
         by_cases c14:(bt a0 x8_1) < 48
         ·rw [if_pos c14] at H
          have c14b0:decide ((bt a0 x8_1) < 48)=true:=decide_eq_true c14
          clear c14
          obtain rfl:=Option.some.inj H
          simp only [Option.some.injEq,Prod.mk.injEq] at H
          obtain ⟨rfl⟩:=H
          have p5:0≤(x8_1:Int):=of_decide_eq_true (by first | (with_reducible assumption) | assumption)
          have q5:x8_1 < (a0.size:Int):=of_decide_eq_true (by first | (with_reducible assumption) | assumption)
          have hx5:=bt_at a0 x8_1
          replace p5:=eq_true p5
          replace q5:=eq_true q5
          go_wp2
          go_ret
          exact ⟨by first | rfl | (simp;done) | (simp [*];done),by repeat (first | exact qAc.refl _ | apply qAc.step)⟩
         ·rw [if_neg c14] at H
          have c14b0:decide ((bt a0 x8_1) < 48)=false:=decide_eq_false c14
          clear c14
          by_cases c15:(bt a0 x8_1) > 57
          ·rw [if_pos c15] at H
           have c15b0:decide (57 < (bt a0 x8_1))=true:=decide_eq_true c15
           clear c15
           obtain rfl:=Option.some.inj H
           simp only [Option.some.injEq,Prod.mk.injEq] at H
           obtain ⟨rfl⟩:=H
           have p5:0≤(x8_1:Int):=of_decide_eq_true (by first | (with_reducible assumption) | assumption)
           have q5:x8_1 < (a0.size:Int):=of_decide_eq_true (by first | (with_reducible assumption) | assumption)
           have hx5:=bt_at a0 x8_1
           replace p5:=eq_true p5
           replace q5:=eq_true q5
           go_wp2
           go_ret
           exact ⟨by first | rfl | (simp;done) | (simp [*];done),by repeat (first | exact qAc.refl _ | apply qAc.step)⟩
          ·rw [if_neg c15] at H
           have c15b0:decide (57 < (bt a0 x8_1))=false:=decide_eq_false c15
           clear c15
           have H':=qAA.mk H
           clear H
           have p5:0≤(x8_1:Int):=of_decide_eq_true (by first | (with_reducible assumption) | assumption)
           have q5:x8_1 < (a0.size:Int):=of_decide_eq_true (by first | (with_reducible assumption) | assumption)
           have hx5:=bt_at a0 x8_1
           replace p5:=eq_true p5
           replace q5:=eq_true q5
           go_wp2
           go_roundg k1
           case measure=>have:=HK1.out;omega
           case rel=>exact ⟨(wrap64 (x8_1+1)),(by first | rfl | (simp;done) | (simp [*];done)),H',⟨by have:=HK1.out;omega⟩,by repeat (first | exact qAc.refl _ | apply qAc.step)⟩
     ·rw [if_neg c4] at H
      exact absurd H (by simp)
    ·rw [if_neg c3] at H
     exact absurd H (by simp)
   ·rw [if_neg c2] at H
    have c2b0:decide (x8_1 < (a0.size:Int))=false:=decide_eq_false c2
    clear c2
    by_cases c16:a0.toList=([]:List UInt8)
    ·rw [if_pos c16] at H
     have c16b0:(a0.toList == ([]:List UInt8))=true:=beq_iff_eq.mpr c16
     have c16b1:(a0.toList != ([]:List UInt8))=false:=bne_eq_false_iff_eq.mpr c16
     clear c16
     obtain rfl:=Option.some.inj H
     simp only [Option.some.injEq,Prod.mk.injEq] at H
     obtain ⟨rfl⟩:=H
     go_wp2
     go_ret
     exact ⟨by first | rfl | (simp;done) | (simp [*];done),by repeat (first | exact qAc.refl _ | apply qAc.step)⟩
    ·rw [if_neg c16] at H
     have c16b0:(a0.toList == ([]:List UInt8))=false:=beq_eq_false_iff_ne.mpr c16
     have c16b1:(a0.toList != ([]:List UInt8))=true:=bne_iff_ne.mpr c16
     obtain rfl:=Option.some.inj H
     simp only [Option.some.injEq,Prod.mk.injEq] at H
     obtain ⟨rfl⟩:=H
     go_wp2
     go_ret
     exact ⟨by first | rfl | (simp;done) | (simp [*];done),by repeat (first | exact qAc.refl _ | apply qAc.step)⟩
def qB5.f (a0:Int) (a1:Int) (a2:Int):Option (Bool):=if a0 ≥ a1 then (some (decide (a0≤a2))) else (some false)
set_option maxHeartbeats 8000000 in
set_option maxRecDepth 100000 in
theorem qB5.calls (a0:Int) (a1:Int) (a2:Int) (r:Bool) (w:World) (h:qB5.f a0 a1 a2=some r) :
  Calls Try.prog 48 #[.int .i64 a0,.int .i64 a1,.int .i64 a2] w fun e w'=>e=.returned (.bool r)∧qAc w w':=by
 have H:(if a0 ≥ a1 then (some (decide (a0≤a2))) else (some false))=some r:=h
 clear h
 by_cases c4:a0 ≥ a1
 ·rw [if_pos c4] at H
  have c4b0:decide (a1≤a0)=true:=decide_eq_true c4
  clear c4
  obtain rfl:=Option.some.inj H
  simp only [Option.some.injEq,Prod.mk.injEq] at H
  obtain ⟨rfl⟩:=H
  go_enter Try.func48,Try.ntmps48
  go_wp2
  go_ret
  exact ⟨by first | rfl | (simp;done) | (simp [*];done),by repeat (first | exact qAc.refl _ | apply qAc.step)⟩
 ·rw [if_neg c4] at H
  have c4b0:decide (a1≤a0)=false:=decide_eq_false c4
  clear c4
  obtain rfl:=Option.some.inj H
  simp only [Option.some.injEq,Prod.mk.injEq] at H
  obtain ⟨rfl⟩:=H
  go_enter Try.func48,Try.ntmps48
  go_wp2
  go_ret
  exact ⟨by first | rfl | (simp;done) | (simp [*];done),by repeat (first | exact qAc.refl _ | apply qAc.step)⟩
def qAv.f (k:Nat) (l0:List Int) (a1_0:ByteArray) (a1_1:Int):Option (List Int):=(qA5.f k l0 a1_0).bind fun t155=>((qAb.f k t155 (IntKind.u64.wrap (a1_1))).bind fun t158=>(some t158))
def qAv.T1:Bool × List (List Nat × List Nat):=(true,[([],[]),([],[]),([1],[1]),([0,2],[0,2]),([],[]),([4],[4]),([5],[5]),([3,6,3],[3,6]),([7,7,0,1,2,3,4,5,6,7],[7])])
def qAv.B1:List Nat:=[0,0,2,7,0,16,48,127,255]
theorem qAv.tab1:rtab .any (opsOf Try.f31 1)=qAv.T1:=by kernel_rfl
theorem qAv.bits1:qCS qAv.T1.2 qAv.B1=true:=by kernel_rfl
set_option maxHeartbeats 8000000 in
set_option maxRecDepth 100000 in
theorem qAv.calls (k:Nat) (A0:Option Addr) (c0:Nat) (l0:List Int) (a1_0:ByteArray) (a1_1:Int) (r:List Int) (w:World) (hr0:Kd.C (Kd.int .u8) w A0 l0.length l0) (hc0:l0.length≤c0) (h:qAv.f k l0 a1_0 a1_1=some r) :
  Calls Try.prog 31 #[.slice A0 l0.length c0,.agg #[.string a1_0,.int .i64 a1_1]] w fun e w'=>∃ v0_:Value,e=.returned (v0_)∧Kd.R (Kd.int .u8) 5 w' w.heap.size (fun _=>True) v0_ r∧Below w.heap.size w w':=by
 have hu56:=Try.underlying56
 have HR0:=qAA.mk hr0
 have HC0:=qAA.mk hc0
 clear hr0 hc0
 have HB:=qAA.mk (Below.refl w.heap.size w)
 have H:((qA5.f k l0 a1_0).bind fun t155=>((qAb.f k t155 (IntKind.u64.wrap (a1_1))).bind fun t158=>(some t158)))=some r:=h
 clear h
 replace H:=Option.bind_eq_some_iff.mp H
 obtain ⟨t155,A30,H⟩:=H
 replace H:((qAb.f k t155 (IntKind.u64.wrap (a1_1))).bind fun t158=>(some t158))=some r:=H
 have A3:=qAA.mk A30
 clear A30
 replace H:=Option.bind_eq_some_iff.mp H
 obtain ⟨t158,A40,H⟩:=H
 replace H:(some t158)=some r:=H
 have A4:=qAA.mk A40
 clear A40
 obtain rfl:=Option.some.inj H
 simp only [Option.some.injEq,Prod.mk.injEq] at H
 obtain ⟨rfl⟩:=H
 go_enter Try.func31,Try.ntmps31
 try go_wp2_with (first | ((with_reducible refine qAr (N:=3) rfl ?_);refine qAk ?hg (N:=3) ?hd (cs:=#[.string a1_0,.int .i64 a1_1]) (t:=56) ?hr ?_;(case hd=>rfl);(case hg=>rfl);(case hr=>first | (go_simp;done) | (go_simp;rfl));intro gb154 hg w5 hbox hb;have n0_:=qAA.mk (qAV (by repeat (first | (with_reducible first | exact HB.out | apply qAH | apply qAI | apply qAN) | exact HB.out)) hb);have n1_:=qAA.mk (hbox);have n2_:=qAA.mk ((by rw [hg];exact (qAw (by repeat (first | (with_reducible first | exact HB.out | apply qAH | apply qAI | apply qAN) | exact HB.out))):w.heap.size≤gb154));have n3_:=qAA.mk ((by rw [hg];exact (qAw (by repeat (first | (with_reducible first | exact HB.out | apply qAH | apply qAI | apply qAN) | exact HB.out))):w.heap.size≤gb154));clear HB;have HB:=n0_;have BK154:=n1_;have GW154:=n2_;have GE154:=n3_;clear n0_ n1_ n2_ n3_;clear hb hbox hg))
 have n0_:=qAA.mk (qAJ BK154.out)
 have n1_:=qAA.mk (qAN HB.out)
 clear BK154
 clear HB
 have BK154:=n0_
 have HB:=n1_
 clear n0_ n1_
 refine qAn (n:=9) (S:=fun w'=>w'.cell? ⟨gb154,0,none⟩=some (.string a1_0)∧w'.cell? ⟨gb154,1,none⟩=some (.int .i64 a1_1)) (ds:=[]) #[qF,qF,qF,qF,qF,qF,qF,qF,qF] (by kernel_rfl) rfl rfl ⟨(qAB BK154.out 0).trans rfl,(qAB BK154.out 1).trans rfl⟩ (fun hHeld => ?_);refine qBq qAv.tab1 qAv.bits1 (fun HT_ HW_ => ?_)
 generalize w5.drew=w6 at BK154 HB hHeld ⊢
 refine qAz (i:=0) (N:=some 5) (v := ?_) (a' := ?_) #[qT,qF,qF,qF,qF,qF,qF,qF,qF] rfl rfl (qAl HT_.out (by kernel_rfl)) (fun _ _ _ h=>h) (Or.inl ⟨by rfl, ?_⟩) ?_ ?_
 rotate_left
 ·intro w'
  go_simp
  with_reducible rfl
 rotate_left
 ·simp only [Act.put,qs1,qs2,qs3,qAR,qAT]
  rfl
 refine qAz (i:=1) (N:=some 6) (v := ?_) (a' := ?_) #[qT,qT,qF,qF,qF,qF,qF,qF,qF] rfl rfl (qAl HT_.out (by kernel_rfl)) (fun _ _ _ h=>h) (Or.inl ⟨by rfl, ?_⟩) ?_ ?_
 rotate_left
 ·intro w'
  go_simp
  with_reducible rfl
 rotate_left
 ·simp only [Act.put,qs1,qs2,qs3,qAR,qAT]
  rfl
 refine qAz (i:=4) (N:=some 9) (v := ?_) (a' := ?_) #[qT,qT,qF,qF,qT,qF,qF,qF,qF] rfl rfl (qAl HT_.out (by kernel_rfl)) (fun _ _ _ h=>h) (Or.inl ⟨by rfl, ?_⟩) ?_ ?_
 rotate_left
 ·intro w'
  go_simp
  with_reducible rfl
 rotate_left
 ·simp only [Act.put,qs1,qs2,qs3,qAR,qAT]
  rfl
 refine qBU (i:=2) (N:=some 7) (v := ?_) (a' := ?_) #[qT,qT,qT,qF,qT,qF,qF,qF,qF] rfl rfl (qAo HT_.out HW_.out (by kernel_rfl)) (fun _ _ _ h=>h) (Or.inl ⟨by rfl, ?_⟩) hHeld ?_ ?_
 rotate_left
 ·rintro w' ⟨s0,s1⟩
  go_simp
  with_reducible rfl
 rotate_left
 ·simp only [Act.put,qs1,qs2,qs3,qAR,qAT]
  rfl
 refine qBU (i:=5) (N:=some 10) (v := ?_) (a' := ?_) #[qT,qT,qT,qF,qT,qT,qF,qF,qF] rfl rfl (qAo HT_.out HW_.out (by kernel_rfl)) (fun _ _ _ h=>h) (Or.inl ⟨by rfl, ?_⟩) hHeld ?_ ?_
 rotate_left
 ·rintro w' ⟨s0,s1⟩
  go_simp
  with_reducible rfl
 rotate_left
 ·simp only [Act.put,qs1,qs2,qs3,qAR,qAT]
  rfl
 refine qAz (i:=6) (N:=some 11) (v := ?_) (a' := ?_) #[qT,qT,qT,qF,qT,qT,qT,qF,qF] rfl rfl (qAl HT_.out (by kernel_rfl)) (fun _ _ _ h=>h) (Or.inl ⟨by rfl, ?_⟩) ?_ ?_
 rotate_left
 ·intro w'
  go_simp
  with_reducible rfl
 rotate_left
 ·simp only [Act.put,qs1,qs2,qs3,qAR,qAT]
  rfl
 refine one_ (i:=3) (N:=some 8) #[qT,qT,qT,qT,qT,qT,qT,qF,qF] rfl rfl (one_of HT_.out (by kernel_rfl)) (by decide) (fun K hK => ?_)
 refine qBJ Try.func32 (by kernel_rfl) rfl #[.slice A0 l0.length c0,.string a1_0] (by rfl) rfl rfl (by (try simp only [List.map_toArray,List.map_cons,List.map_nil]);first | done | rfl | (simp only [List.length_drop,List.length_take];rfl)) ?_
 with_reducible refine (qA5.calls k _ _ l0 a1_0 t155 _ ?side1 ?side2 A3.out).mono ?_
 (case side1=>repeat (first | exact (Kd.qAS HR0.out HB.out) | (with_reducible refine Kd.qAs ?_ _) | (with_reducible refine Kd.qBA ?_ _) | (with_reducible refine Kd.qBW ?_)))
 (case side2=>exact HC0.out)
 rintro e w7 ⟨v156,rfl,ho0,hb⟩
 refine ⟨_,rfl, ?_⟩
 have n0_:=qAA.mk (Kd.qBg ho0 (qAw (by repeat (first | (with_reducible first | exact HB.out | apply qAH | apply qAI | apply qAN | refine qAQ ?_ GE154.out) | exact HB.out))))
 have n1_:=qAA.mk (qAL (g:=gb154) (o:=.cells #[.string a1_0,.int .i64 a1_1] 56 (0,0)) (by (with_reducible repeat (first | refine qAY ?_ _ | refine qAJ ?_ | refine qAK ?_ _));exact BK154.out) hb)
 have n2_:=qAA.mk (qAV (by repeat (first | (with_reducible first | exact HB.out | apply qAH | apply qAI | apply qAN | refine qAQ ?_ GE154.out) | exact HB.out)) hb)
 clear BK154
 clear HB
 have HO157:=n0_
 have BK154:=n1_
 have HB:=n2_
 clear n0_ n1_ n2_
 (try clear hb)
 (try clear hb2)
 (try clear hk)
 (try clear hi)
 (try clear ho0)
 obtain ⟨Ao8,co8,eo8⟩:=Kd.qAZ HO157.out
 (first | subst eo8 | (injection eo8 with f1_ f2_ f3_;have f4_:=f1_.symm;have f5_:=f3_.symm;clear f1_ f2_ f3_;subst f4_;subst f5_))
 refine hK.out _ _ ⟨(qAB BK154.out 0).trans rfl,(qAB BK154.out 1).trans rfl⟩ (fun hHeld => ?_)
 clear hK K
 refine qAi (a' := ?_) ?_ ?_
 rotate_left
 ·show Act.put _ (some 8) _=_
  simp only [Act.put,qs1,qs2,qs3,qAR,qAT]
  rfl
 refine one_ (i:=7) (N:=some 12) #[qT,qT,qT,qT,qT,qT,qT,qT,qF] rfl rfl (one_of HT_.out (by kernel_rfl)) (by decide) (fun K hK => ?_)
 refine qBJ Try.func49 (by kernel_rfl) rfl #[.slice Ao8 t155.length co8,.int .u64 (IntKind.u64.wrap (a1_1))] (by rfl) rfl rfl (by (try simp only [List.map_toArray,List.map_cons,List.map_nil]);first | done | rfl | (simp only [List.length_drop,List.length_take];rfl)) ?_
 with_reducible refine (qAb.calls k _ _ t155 (IntKind.u64.wrap (a1_1)) t158 _ ?side1 ?side2 A4.out).mono ?_
 (case side1=>repeat (first | exact (Kd.R_reads' HO157.out).2.2 | (with_reducible refine Kd.qAs ?_ _) | (with_reducible refine Kd.qBA ?_ _) | (with_reducible refine Kd.qBW ?_)))
 (case side2=>exact (Kd.R_reads' HO157.out).2.1)
 rintro e w9 ⟨v159,rfl,ho0,hb⟩
 refine ⟨_,rfl, ?_⟩
 have n0_:=qAA.mk (Kd.R_elder' (by (with_reducible repeat (first | apply Kd.qA0 | apply Kd.qCB | apply Kd.qBo));exact HO157.out) (Kd.R_base ho0) hb)
 have n1_:=qAA.mk (Kd.qBg (Kd.R_new' ho0 (Kd.R_lt (by (with_reducible repeat (first | apply Kd.qA0 | apply Kd.qCB | apply Kd.qBo));exact HO157.out))) (qAw (by repeat (first | (with_reducible first | exact HB.out | apply qAH | apply qAI | apply qAN | refine qAQ ?_ GE154.out) | exact HB.out))))
 have n2_:=qAA.mk (qAL (g:=gb154) (o:=.cells #[.string a1_0,.int .i64 a1_1] 56 (0,0)) (by (with_reducible repeat (first | refine qAY ?_ _ | refine qAJ ?_ | refine qAK ?_ _));exact BK154.out) hb)
 have n3_:=qAA.mk (qAV (by repeat (first | (with_reducible first | exact HB.out | apply qAH | apply qAI | apply qAN | refine qAQ ?_ GE154.out) | exact HB.out)) hb)
 clear HO157
 clear BK154
 clear HB
 have HO157:=n0_
 have HO160:=n1_
 have BK154:=n2_
 have HB:=n3_
 clear n0_ n1_ n2_ n3_
 (try clear hb)
 (try clear hb2)
 (try clear hk)
 (try clear hi)
 (try clear ho0)
 refine hK.out _ _ ⟨(qAB BK154.out 0).trans rfl,(qAB BK154.out 1).trans rfl⟩ (fun hHeld => ?_)
 clear hK K
 refine qAi (a' := ?_) ?_ ?_
 rotate_left
 ·show Act.put _ (some 12) _=_
  simp only [Act.put,qs1,qs2,qs3,qAR,qAT]
  rfl
 refine qAz (i:=8) (N:=some 4) (v := ?_) (a' := ?_) #[qT,qT,qT,qT,qT,qT,qT,qT,qT] rfl rfl (qAl HT_.out (by kernel_rfl)) (fun _ _ _ h=>h) (Or.inl ⟨by rfl, ?_⟩) ?_ ?_
 rotate_left
 ·intro w'
  go_simp
  with_reducible rfl
 rotate_left
 ·simp only [Act.put,qs1,qs2,qs3,qAR,qAT]
  rfl
 refine qA6 (qCN HT_.out (by kernel_rfl)) ?_
 try go_wp2
 go_ret
 exact ⟨_,by first | rfl | (simp [qAu,qAt] <;> rfl) | (simp [*,qAu,qAt] <;> rfl),by (with_reducible repeat (first | apply Kd.qA0 | apply Kd.qCB | apply Kd.qBo));exact Kd.qBd HO160.out (fun _ hk=>trivial),by repeat (first | (with_reducible first | exact HB.out | apply qAH | apply qAI | apply qAN | refine qAQ ?_ GE154.out) | exact HB.out)⟩
end Go.Proofs.Ytmehfnikecmiiaa.X
