import Derived.Test.YtmehfnikecmiiaaZModuleBackUpto3
import Derived.Test.YtmehfnikecmiiaaZModuleBackUpto6
set_option linter.unusedVariables false
set_option linter.unusedSimpArgs false
namespace Go.Proofs.Ytmehfnikecmiiaa.X
open Go.RowKit Go.Proofs.YtmehfnikecmiiaaW.PrintWords Go.Proofs.YtmehfnikecmiiaaW.PrintLast Go.Proofs.YtmehfnikecmiiaaW.PrintMore Go.Proofs.YtmehfnikecmiiaaW
attribute [local go_sem] qBF qBE qBY qBX qA9 qA8 qBI qBH
def qBa.j0:Nat→List Int→Int→Int→Bool→Option (ByteArray × Int × Int)
 | 0,_,_,_,_=>none
 | k+1,x0,x9,x10,x24=>if x24=true then (some ((⟨#[]⟩:ByteArray),0,13)) else (if x9 > (IntKind.u64.wrap (wrap64 ((x0.length:Int) - x10))) then (some ((⟨#[]⟩:ByteArray),0,11)) else (if 0≤x10 then (if x10≤(wrap64 (x10+(wrap64 (x9)))) then (if (wrap64 (x10+(wrap64 (x9))))≤(x0.length:Int) then (some (strOfNums ((x0.take ((wrap64 (x10+(wrap64 (x9)))):Int).toNat).drop (x10:Int).toNat),wrap64 (x10+(wrap64 (x9))),0)) else (none)) else (none)) else (none)))
def qBa.f (k:Nat) (l0:List Int) (a1:Int) (a2:Int):Option (ByteArray × Int × Int):=(qAe.f k l0 a1).bind fun bt136=>(if bt136.2.2=0 then (if a2 < 0 then (qBa.j0 k l0 bt136.1 bt136.2.1 true) else (qBa.j0 k l0 bt136.1 bt136.2.1 (decide (bt136.1 > (IntKind.u64.wrap (a2)))))) else (some ((⟨#[]⟩:ByteArray),0,bt136.2.2)))
set_option maxHeartbeats 8000000 in
set_option maxRecDepth 100000 in
theorem qBa.calls (k:Nat) (A0:Option Addr) (c0:Nat) (l0:List Int) (a1:Int) (a2:Int) (r1:ByteArray) (r2:Int) (r3:Int) (w:World) (hr0:Kd.C (Kd.int .u8) w A0 l0.length l0) (hc0:l0.length≤c0) (h:qBa.f k l0 a1 a2=some (r1,r2,r3)) :
  Calls Try.prog 91 #[.slice A0 l0.length c0,.int .i64 a1,.int .i64 a2] w fun e w'=>e=.returned (.tuple #[.string r1,.int .i64 r2,.int .i64 r3])∧qAc w w':=by
 have HR0:=qAA.mk hr0
 have HC0:=qAA.mk hc0
 clear hr0 hc0
 have H:((qAe.f k l0 a1).bind fun bt136=>(if bt136.2.2=0 then (if a2 < 0 then (qBa.j0 k l0 bt136.1 bt136.2.1 true) else (qBa.j0 k l0 bt136.1 bt136.2.1 (decide (bt136.1 > (IntKind.u64.wrap (a2)))))) else (some ((⟨#[]⟩:ByteArray),0,bt136.2.2))))=some (r1,r2,r3):=h
 clear h
 replace H:=Option.bind_eq_some_iff.mp H
 obtain ⟨⟨t136,t137,t138⟩,A40,H⟩:=H
 replace H:(if t138=0 then (if a2 < 0 then (qBa.j0 k l0 t136 t137 true) else (qBa.j0 k l0 t136 t137 (decide (t136 > (IntKind.u64.wrap (a2)))))) else (some ((⟨#[]⟩:ByteArray),0,t138)))=some (r1,r2,r3):=H
 have A4:=qAA.mk A40
 clear A40
 by_cases c5:t138=0
 ·rw [if_pos c5] at H
  have c5b0:(t138 == 0)=true:=beq_iff_eq.mpr c5
  have c5b1:(t138 != 0)=false:=bne_eq_false_iff_eq.mpr c5
  clear c5
  have HC6:=qAA.mk H
  clear H
  go_enter Try.func91,Try.ntmps91
  go_upto_region 4 with (first | ((with_reducible refine qBu (f:=77) rfl ?_);refine goesL_ (some 16) rfl rfl Try.func77 (by kernel_rfl) rfl #[.slice A0 l0.length c0,.int .i64 a1] rfl (by (try simp only [List.map_toArray,List.map_cons,List.map_nil]);first | done | rfl | (simp only [List.length_drop,List.length_take];rfl)) ?_;(with_reducible refine (qAe.calls k _ _ l0 a1 t136 t137 t138 _ ?side1 ?side2 A4.out).mono ?_);(case side1=>repeat (first | exact HR0.out | (with_reducible refine Kd.qAs ?_ _) | (with_reducible refine Kd.qBA ?_ _) | (with_reducible refine Kd.qBW ?_)));(case side2=>exact HC0.out);rintro e w' ⟨rfl,⟨nd,rfl⟩⟩;refine ⟨_,rfl, ?_⟩))
  (try simp only [Act.put,qs1,qs2,qs3])
  go_cut [24] (fun v24 wc=>∃ (kq:Nat) (x24_5:Bool),v24=.bool x24_5∧qAA (qBa.j0 kq l0 t136 t137 x24_5=some (r1,r2,r3))∧qAA (kq≤k)∧qAc w wc)
  case first =>
   have H:=HC6.out
   clear HC6
   by_cases c7:a2 < 0
   ·rw [if_pos c7] at H
    have c7b0:decide (a2 < 0)=true:=decide_eq_true c7
    clear c7
    (first | rw [c7b0] | (simp only [qAR,qAT];rw [c7b0]) | rw [c7b1] | (simp only [qAR,qAT];rw [c7b1]) | skip)
    have H':=qAA.mk H
    clear H
    go_wp2
    go_meet
    case rel=>exact ⟨_,(true),(by first | rfl | (simp;done) | (simp [*];done)),H',⟨by first | omega | exact Nat.le_refl _⟩,by repeat (first | exact qAc.refl _ | apply qAc.step)⟩
   ·rw [if_neg c7] at H
    have c7b0:decide (a2 < 0)=false:=decide_eq_false c7
    clear c7
    (first | rw [c7b0] | (simp only [qAR,qAT];rw [c7b0]) | rw [c7b1] | (simp only [qAR,qAT];rw [c7b1]) | skip)
    have H':=qAA.mk H
    clear H
    go_wp2
    go_meet
    case rel=>exact ⟨_,(decide (t136 > (IntKind.u64.wrap (a2)))),(by first | rfl | (simp;done) | (simp [*];done)),H',⟨by first | omega | exact Nat.le_refl _⟩,by repeat (first | exact qAc.refl _ | apply qAc.step)⟩
  case rest =>
   clear HC6
   try clear p2
   try clear c5
   try clear c5b0
   try clear c5b1
   try clear c7
   try clear c7b0
   try clear c7b1
   obtain ⟨kq,x24_5,rfl,HA,HJ5,⟨mc5,rfl⟩⟩:=hcut
   cases kq with
   | zero=>exact absurd HA.out (by simp [qBa.j0])
   | succ kj5 =>
    have H:=HA.out
    clear HA
    simp only [qBa.j0] at H
    by_cases c8:x24_5=true
    ·subst c8
     have H1:(some ((⟨#[]⟩:ByteArray),0,13))=some (r1,r2,r3):=by rw [if_pos rfl] at H;exact H
     clear H
     have H:=H1
     clear H1
     simp only [Option.some.injEq,Prod.mk.injEq] at H
     obtain ⟨rfl,rfl,rfl⟩:=H
     go_wp2
     go_ret3
     exact ⟨by first | rfl | (simp;done) | (simp [*];done),by repeat (first | exact qAc.refl _ | apply qAc.step)⟩
    ·replace c8:=Bool.eq_false_iff.mpr c8
     subst c8
     have H1:(if t136 > (IntKind.u64.wrap (wrap64 ((l0.length:Int) - t137))) then (some ((⟨#[]⟩:ByteArray),0,11)) else (if 0≤t137 then (if t137≤(wrap64 (t137+(wrap64 (t136)))) then (if (wrap64 (t137+(wrap64 (t136))))≤(l0.length:Int) then (some (strOfNums ((l0.take ((wrap64 (t137+(wrap64 (t136)))):Int).toNat).drop (t137:Int).toNat),wrap64 (t137+(wrap64 (t136))),0)) else (none)) else (none)) else (none)))=some (r1,r2,r3):=by rw [if_neg (show ¬ (false=true) by decide)] at H;exact H
     clear H
     have H:=H1
     clear H1
     by_cases c9:t136 > (IntKind.u64.wrap (wrap64 ((l0.length:Int) - t137)))
     ·rw [if_pos c9] at H
      have c9b0:decide ((IntKind.u64.wrap (wrap64 ((l0.length:Int) - t137))) < t136)=true:=decide_eq_true c9
      clear c9
      simp only [Option.some.injEq,Prod.mk.injEq] at H
      obtain ⟨rfl,rfl,rfl⟩:=H
      go_wp2
      go_ret3
      exact ⟨by first | rfl | (simp;done) | (simp [*];done),by repeat (first | exact qAc.refl _ | apply qAc.step)⟩
     ·rw [if_neg c9] at H
      have c9b0:decide ((IntKind.u64.wrap (wrap64 ((l0.length:Int) - t137))) < t136)=false:=decide_eq_false c9
      clear c9
      by_cases c10:0≤t137
      ·rw [if_pos c10] at H
       have c10b0:=eq_true c10
       have c10b1:decide (0≤t137)=true:=decide_eq_true c10
       clear c10
       by_cases c11:t137≤(wrap64 (t137+(wrap64 (t136))))
       ·rw [if_pos c11] at H
        have c11b0:=eq_true c11
        have c11b1:decide (t137≤(wrap64 (t137+(wrap64 (t136)))))=true:=decide_eq_true c11
        by_cases c12:(wrap64 (t137+(wrap64 (t136))))≤(l0.length:Int)
        ·rw [if_pos c12] at H
         have c12b0:=eq_true c12
         have c12b1:decide ((wrap64 (t137+(wrap64 (t136))))≤(l0.length:Int))=true:=decide_eq_true c12
         simp only [Option.some.injEq,Prod.mk.injEq] at H
         obtain ⟨rfl,rfl,rfl⟩:=H
         obtain ⟨i013,hi013,_,hsz13,_⟩:=info_parts info5
         obtain ⟨A13,hcut13,hA13,hC13⟩:=print_mid_of (P:=Try.prog) (Value.int .u8) 0 29 5 .i64 .i64 Try.underlying29 hi013 hsz13 A0 c0 l0 t137 (wrap64 (t137+(wrap64 (t136)))) (of_decide_eq_true (by first | (with_reducible assumption) | assumption)) (by first | omega | exact of_decide_eq_true (by first | (with_reducible assumption) | assumption)) (of_decide_eq_true (by first | (with_reducible assumption) | assumption)) HC0.out
         have HR139:=qAA.mk (Kd.C_of_reads (h1:=fun _=>rfl) (hA13 _ (Kd.qBm HR0.out)))
         have HC139:=qAA.mk hC13
         clear hA13 hC13 hi013 hsz13
         have hcv14:=Kd.qBc (P:=Try.prog) (A:=A13) (c:=(c0 - t137.toNat)) Try.underlying29 Try.underlying5 Try.underlying9 HR139.out
         have hcw14:=fun (n_:Nat)=>Kd.qBc (P:=Try.prog) (A:=A13) (c:=(c0 - t137.toNat)) Try.underlying29 Try.underlying5 Try.underlying9 (Kd.qBA HR139.out n_)
         (try simp only [show ((l0.take ((wrap64 (t137+(wrap64 (t136)))):Int).toNat).drop (t137:Int).toNat).length=((wrap64 (t137+(wrap64 (t136)))).toNat - t137.toNat) from (by rw [List.length_drop,List.length_take];have h_:((wrap64 (t137+(wrap64 (t136)))):Int)≤(l0.length:Int):=of_decide_eq_true (by first | (with_reducible assumption) | assumption);omega)] at hcv14)
         (try simp only [show ((l0.take ((wrap64 (t137+(wrap64 (t136)))):Int).toNat).drop (t137:Int).toNat).length=((wrap64 (t137+(wrap64 (t136)))).toNat - t137.toNat) from (by rw [List.length_drop,List.length_take];have h_:((wrap64 (t137+(wrap64 (t136)))):Int)≤(l0.length:Int):=of_decide_eq_true (by first | (with_reducible assumption) | assumption);omega)] at hcw14)
         go_wp2
         go_ret3
         exact ⟨by first | rfl | (simp;done) | (simp [*];done),by repeat (first | exact qAc.refl _ | apply qAc.step)⟩
        ·rw [if_neg c12] at H
         exact absurd H (by simp)
       ·rw [if_neg c11] at H
        exact absurd H (by simp)
      ·rw [if_neg c10] at H
       exact absurd H (by simp)
 ·rw [if_neg c5] at H
  have c5b0:(t138 == 0)=false:=beq_eq_false_iff_ne.mpr c5
  have c5b1:(t138 != 0)=true:=bne_iff_ne.mpr c5
  simp only [Option.some.injEq,Prod.mk.injEq] at H
  obtain ⟨rfl,rfl,rfl⟩:=H
  go_enter Try.func91,Try.ntmps91
  go_wp2_with (first | ((with_reducible refine qBu (f:=77) rfl ?_);refine goesL_ (some 16) rfl rfl Try.func77 (by kernel_rfl) rfl #[.slice A0 l0.length c0,.int .i64 a1] rfl (by (try simp only [List.map_toArray,List.map_cons,List.map_nil]);first | done | rfl | (simp only [List.length_drop,List.length_take];rfl)) ?_;(with_reducible refine (qAe.calls k _ _ l0 a1 t136 t137 t138 _ ?side1 ?side2 A4.out).mono ?_);(case side1=>repeat (first | exact HR0.out | (with_reducible refine Kd.qAs ?_ _) | (with_reducible refine Kd.qBA ?_ _) | (with_reducible refine Kd.qBW ?_)));(case side2=>exact HC0.out);rintro e w' ⟨rfl,⟨nd,rfl⟩⟩;refine ⟨_,rfl, ?_⟩))
  go_ret3
  exact ⟨by first | rfl | (simp;done) | (simp [*];done),by repeat (first | exact qAc.refl _ | apply qAc.step)⟩
end Go.Proofs.Ytmehfnikecmiiaa.X
