import Derived.Test.YtdommiicjpjfpaaZStateReads3
import Derived.Test.YtdommiicjpjfpaaZStateReads6
set_option linter.unusedVariables false
set_option linter.unusedSimpArgs false
namespace Go.Proofs.Ytdommiicjpjfpaa.X
open Go.RowKit Go.Proofs.YtdommiicjpjfpaaW.PrintWords Go.Proofs.YtdommiicjpjfpaaW.PrintLast Go.Proofs.YtdommiicjpjfpaaW.PrintMore Go.Proofs.YtdommiicjpjfpaaW
attribute [local go_sem] qBE qBD qBV qBU qA6 qA5 qBJ qBI
def qBc.j0:Nat→List Int→Int→Int→Bool→Option (ByteArray × Int × Int)
 | 0,_,_,_,_=>none
 | k+1,x0,x9,x10,x24=>if x24=true then (some ((⟨#[]⟩:ByteArray),0,13)) else (if x9 > (IntKind.u64.wrap (wrap64 ((x0.length:Int) - x10))) then (some ((⟨#[]⟩:ByteArray),0,11)) else (if 0≤x10 then (if x10≤(wrap64 (x10+(wrap64 (x9)))) then (if (wrap64 (x10+(wrap64 (x9))))≤(x0.length:Int) then (some (strOfNums ((x0.take ((wrap64 (x10+(wrap64 (x9)))):Int).toNat).drop (x10:Int).toNat),wrap64 (x10+(wrap64 (x9))),0)) else (none)) else (none)) else (none)))
def qBc.f (k:Nat) (l0:List Int) (a1:Int) (a2:Int):Option (ByteArray × Int × Int):=(qAq.f k l0 a1).bind fun bt134=>(if bt134.2.2=0 then (if a2 < 0 then (qBc.j0 k l0 bt134.1 bt134.2.1 true) else (qBc.j0 k l0 bt134.1 bt134.2.1 (decide (bt134.1 > (IntKind.u64.wrap (a2)))))) else (some ((⟨#[]⟩:ByteArray),0,bt134.2.2)))
set_option maxHeartbeats 8000000 in
set_option maxRecDepth 100000 in
theorem qBc.calls (k:Nat) (A0:Option Addr) (c0:Nat) (l0:List Int) (a1:Int) (a2:Int) (r1:ByteArray) (r2:Int) (r3:Int) (w:World) (hr0:Kd.C (Kd.int .u8) w A0 l0.length l0) (hc0:l0.length≤c0) (h:qBc.f k l0 a1 a2=some (r1,r2,r3)) :
  Calls Try.prog 60 #[.slice A0 l0.length c0,.int .i64 a1,.int .i64 a2] w fun e w'=>e=.returned (.tuple #[.string r1,.int .i64 r2,.int .i64 r3])∧qAf w w':=by
 have HR0:=qAA.mk hr0
 have HC0:=qAA.mk hc0
 clear hr0 hc0
 have H:((qAq.f k l0 a1).bind fun bt134=>(if bt134.2.2=0 then (if a2 < 0 then (qBc.j0 k l0 bt134.1 bt134.2.1 true) else (qBc.j0 k l0 bt134.1 bt134.2.1 (decide (bt134.1 > (IntKind.u64.wrap (a2)))))) else (some ((⟨#[]⟩:ByteArray),0,bt134.2.2))))=some (r1,r2,r3):=h
 clear h
 replace H:=Option.bind_eq_some_iff.mp H
 obtain ⟨⟨t134,t135,t136⟩,A40,H⟩:=H
 replace H:(if t136=0 then (if a2 < 0 then (qBc.j0 k l0 t134 t135 true) else (qBc.j0 k l0 t134 t135 (decide (t134 > (IntKind.u64.wrap (a2)))))) else (some ((⟨#[]⟩:ByteArray),0,t136)))=some (r1,r2,r3):=H
 have A4:=qAA.mk A40
 clear A40
 by_cases c5:t136=0
 ·rw [if_pos c5] at H
  have c5b0:(t136 == 0)=true:=beq_iff_eq.mpr c5
  have c5b1:(t136 != 0)=false:=bne_eq_false_iff_eq.mpr c5
  clear c5
  have HC6:=qAA.mk H
  clear H
  go_enter Try.func60,Try.ntmps60
  go_upto_region 4 with (first | ((with_reducible refine qA2 (f:=40) rfl ?_);refine qB0 (some 16) rfl rfl Try.func40 (by kernel_rfl) rfl #[.slice A0 l0.length c0,.int .i64 a1] rfl (by (try simp only [List.map_toArray,List.map_cons,List.map_nil]);first | done | rfl | (simp only [List.length_drop,List.length_take];rfl)) ?_;(with_reducible refine (qAq.calls k _ _ l0 a1 t134 t135 t136 _ ?side1 ?side2 A4.out).mono ?_);(case side1=>repeat (first | exact HR0.out | (with_reducible refine Kd.qAh ?_ _) | (with_reducible refine Kd.qAk ?_ _) | (with_reducible refine Kd.qAs ?_)));(case side2=>exact HC0.out);rintro e w' ⟨rfl,⟨nd,rfl⟩⟩;refine ⟨_,rfl, ?_⟩))
  (try simp only [Act.put,qs1,qs2,qs3])
  go_cut [24] (fun v24 wc=>∃ (kq:Nat) (x24_5:Bool),v24=.bool x24_5∧qAA (qBc.j0 kq l0 t134 t135 x24_5=some (r1,r2,r3))∧qAA (kq≤k)∧qAf w wc)
  case first =>
   have H:=HC6.out
   clear HC6
   by_cases c7:a2 < 0
   ·rw [if_pos c7] at H
    have c7b0:decide (a2 < 0)=true:=decide_eq_true c7
    clear c7
    (first | rw [c7b0] | (simp only [qAZ,qAb];rw [c7b0]) | rw [c7b1] | (simp only [qAZ,qAb];rw [c7b1]) | skip)
    have H':=qAA.mk H
    clear H
    go_wp2
    go_meet
    case rel=>exact ⟨_,(true),(by first | rfl | (simp;done) | (simp [*];done)),H',⟨by first | omega | exact Nat.le_refl _⟩,by repeat (first | exact qAf.refl _ | apply qAf.step)⟩
   ·rw [if_neg c7] at H
    have c7b0:decide (a2 < 0)=false:=decide_eq_false c7
    clear c7
    (first | rw [c7b0] | (simp only [qAZ,qAb];rw [c7b0]) | rw [c7b1] | (simp only [qAZ,qAb];rw [c7b1]) | skip)
    have H':=qAA.mk H
    clear H
    go_wp2
    go_meet
    case rel=>exact ⟨_,(decide (t134 > (IntKind.u64.wrap (a2)))),(by first | rfl | (simp;done) | (simp [*];done)),H',⟨by first | omega | exact Nat.le_refl _⟩,by repeat (first | exact qAf.refl _ | apply qAf.step)⟩
  case rest =>
   clear HC6
   try clear p2
   try clear c4
   try clear c5
   try clear c5b0
   try clear c5b1
   try clear c6
   try clear c7
   try clear c7b0
   try clear c7b1
   obtain ⟨kq,x24_5,rfl,HA,HJ5,⟨mc5,rfl⟩⟩:=hcut
   cases kq with
   | zero=>exact absurd HA.out (by simp [qBc.j0])
   | succ kj5 =>
    have H:=HA.out
    clear HA
    simp only [qBc.j0] at H
    by_cases c8:x24_5=true
    ·subst c8
     have H1:(some ((⟨#[]⟩:ByteArray),0,13))=some (r1,r2,r3):=by rw [if_pos rfl] at H;exact H
     clear H
     have H:=H1
     clear H1
     simp only [Option.some.injEq,Prod.mk.injEq] at H
     obtain ⟨rfl,rfl,rfl⟩:=H
     go_wp2
     go_ret3
     exact ⟨by first | rfl | (simp;done) | (simp [*];done),by repeat (first | exact qAf.refl _ | apply qAf.step)⟩
    ·replace c8:=Bool.eq_false_iff.mpr c8
     subst c8
     have H1:(if t134 > (IntKind.u64.wrap (wrap64 ((l0.length:Int) - t135))) then (some ((⟨#[]⟩:ByteArray),0,11)) else (if 0≤t135 then (if t135≤(wrap64 (t135+(wrap64 (t134)))) then (if (wrap64 (t135+(wrap64 (t134))))≤(l0.length:Int) then (some (strOfNums ((l0.take ((wrap64 (t135+(wrap64 (t134)))):Int).toNat).drop (t135:Int).toNat),wrap64 (t135+(wrap64 (t134))),0)) else (none)) else (none)) else (none)))=some (r1,r2,r3):=by rw [if_neg (show ¬ (false=true) by decide)] at H;exact H
     clear H
     have H:=H1
     clear H1
     by_cases c9:t134 > (IntKind.u64.wrap (wrap64 ((l0.length:Int) - t135)))
     ·rw [if_pos c9] at H
      have c9b0:decide ((IntKind.u64.wrap (wrap64 ((l0.length:Int) - t135))) < t134)=true:=decide_eq_true c9
      clear c9
      simp only [Option.some.injEq,Prod.mk.injEq] at H
      obtain ⟨rfl,rfl,rfl⟩:=H
      go_wp2
      go_ret3
      exact ⟨by first | rfl | (simp;done) | (simp [*];done),by repeat (first | exact qAf.refl _ | apply qAf.step)⟩
     ·rw [if_neg c9] at H
      have c9b0:decide ((IntKind.u64.wrap (wrap64 ((l0.length:Int) - t135))) < t134)=false:=decide_eq_false c9
      clear c9
      by_cases c10:0≤t135
      ·rw [if_pos c10] at H
       have c10b0:=eq_true c10
       have c10b1:decide (0≤t135)=true:=decide_eq_true c10
       clear c10
       by_cases c11:t135≤(wrap64 (t135+(wrap64 (t134))))
       ·rw [if_pos c11] at H
        have c11b0:=eq_true c11
        have c11b1:decide (t135≤(wrap64 (t135+(wrap64 (t134)))))=true:=decide_eq_true c11
        by_cases c12:(wrap64 (t135+(wrap64 (t134))))≤(l0.length:Int)
        ·rw [if_pos c12] at H
         have c12b0:=eq_true c12
         have c12b1:decide ((wrap64 (t135+(wrap64 (t134))))≤(l0.length:Int))=true:=decide_eq_true c12
         simp only [Option.some.injEq,Prod.mk.injEq] at H
         obtain ⟨rfl,rfl,rfl⟩:=H
         obtain ⟨i013,hi013,_,hsz13,_⟩:=info_parts info5
         obtain ⟨A13,hcut13,hA13,hC13⟩:=print_mid_of (P:=Try.prog) (Value.int .u8) 0 44 5 .i64 .i64 Try.underlying44 hi013 hsz13 A0 c0 l0 t135 (wrap64 (t135+(wrap64 (t134)))) (of_decide_eq_true (by first | (with_reducible assumption) | assumption)) (by first | omega | exact of_decide_eq_true (by first | (with_reducible assumption) | assumption)) (of_decide_eq_true (by first | (with_reducible assumption) | assumption)) HC0.out
         have HR137:=qAA.mk (Kd.C_of_reads (h1:=fun _=>rfl) (hA13 _ (Kd.qB4 HR0.out)))
         have HC137:=qAA.mk hC13
         clear hA13 hC13 hi013 hsz13
         have hcv14:=Kd.qB8 (P:=Try.prog) (A:=A13) (c:=(c0 - t135.toNat)) Try.underlying44 Try.underlying5 Try.underlying9 HR137.out
         have hcw14:=fun (n_:Nat)=>Kd.qB8 (P:=Try.prog) (A:=A13) (c:=(c0 - t135.toNat)) Try.underlying44 Try.underlying5 Try.underlying9 (Kd.qAk HR137.out n_)
         (try simp only [show ((l0.take ((wrap64 (t135+(wrap64 (t134)))):Int).toNat).drop (t135:Int).toNat).length=((wrap64 (t135+(wrap64 (t134)))).toNat - t135.toNat) from (by rw [List.length_drop,List.length_take];have h_:((wrap64 (t135+(wrap64 (t134)))):Int)≤(l0.length:Int):=of_decide_eq_true (by first | (with_reducible assumption) | assumption);omega)] at hcv14)
         (try simp only [show ((l0.take ((wrap64 (t135+(wrap64 (t134)))):Int).toNat).drop (t135:Int).toNat).length=((wrap64 (t135+(wrap64 (t134)))).toNat - t135.toNat) from (by rw [List.length_drop,List.length_take];have h_:((wrap64 (t135+(wrap64 (t134)))):Int)≤(l0.length:Int):=of_decide_eq_true (by first | (with_reducible assumption) | assumption);omega)] at hcw14)
         go_wp2
         go_ret3
         exact ⟨by first | rfl | (simp;done) | (simp [*];done),by repeat (first | exact qAf.refl _ | apply qAf.step)⟩
        ·rw [if_neg c12] at H
         exact absurd H (by simp)
       ·rw [if_neg c11] at H
        exact absurd H (by simp)
      ·rw [if_neg c10] at H
       exact absurd H (by simp)
 ·rw [if_neg c5] at H
  have c5b0:(t136 == 0)=false:=beq_eq_false_iff_ne.mpr c5
  have c5b1:(t136 != 0)=true:=bne_iff_ne.mpr c5
  simp only [Option.some.injEq,Prod.mk.injEq] at H
  obtain ⟨rfl,rfl,rfl⟩:=H
  go_enter Try.func60,Try.ntmps60
  go_wp2_with (first | ((with_reducible refine qA2 (f:=40) rfl ?_);refine qB0 (some 16) rfl rfl Try.func40 (by kernel_rfl) rfl #[.slice A0 l0.length c0,.int .i64 a1] rfl (by (try simp only [List.map_toArray,List.map_cons,List.map_nil]);first | done | rfl | (simp only [List.length_drop,List.length_take];rfl)) ?_;(with_reducible refine (qAq.calls k _ _ l0 a1 t134 t135 t136 _ ?side1 ?side2 A4.out).mono ?_);(case side1=>repeat (first | exact HR0.out | (with_reducible refine Kd.qAh ?_ _) | (with_reducible refine Kd.qAk ?_ _) | (with_reducible refine Kd.qAs ?_)));(case side2=>exact HC0.out);rintro e w' ⟨rfl,⟨nd,rfl⟩⟩;refine ⟨_,rfl, ?_⟩))
  go_ret3
  exact ⟨by first | rfl | (simp;done) | (simp [*];done),by repeat (first | exact qAf.refl _ | apply qAf.step)⟩
end Go.Proofs.Ytdommiicjpjfpaa.X
