import Derived.Test.YtmehfnikecmiiaaZModuleBackUpto3
import Derived.Test.YtmehfnikecmiiaaZModuleBackUpto5
set_option linter.unusedVariables false
set_option linter.unusedSimpArgs false
namespace Go.Proofs.Ytmehfnikecmiiaa.X
open Go.RowKit Go.Proofs.YtmehfnikecmiiaaW.PrintWords Go.Proofs.YtmehfnikecmiiaaW.PrintLast Go.Proofs.YtmehfnikecmiiaaW.PrintMore Go.Proofs.YtmehfnikecmiiaaW
attribute [local go_sem] qBF qBE qBY qBX qA9 qA8 qBI qBH
def qAb.l0:Nat→Int→List Int→Option (List Int)
 | 0,_,_=>none
 | k+1,x1,x5=>if x1 ≥ 128 then (if x5.length < 140737488355328 then (qAb.l0 k (x1 / 128) (x5 ++ [Go.bits .or .u8 ((x1) % 256) 128])) else (none)) else (if x5.length < 140737488355328 then (some (x5 ++ [(x1) % 256])) else (none))
def qAb.f (k:Nat) (l0:List Int) (a1:Int):Option (List Int):=(qCL.f l0).bind fun t111=>(qAb.l0 k a1 t111)
set_option maxHeartbeats 8000000 in
set_option maxRecDepth 100000 in
theorem qAb.calls (k:Nat) (A0:Option Addr) (c0:Nat) (l0:List Int) (a1:Int) (r:List Int) (w:World) (hr0:Kd.C (Kd.int .u8) w A0 l0.length l0) (hc0:l0.length≤c0) (h:qAb.f k l0 a1=some r) :
  Calls Try.prog 49 #[.slice A0 l0.length c0,.int .u64 a1] w fun e w'=>∃ v0_:Value,e=.returned (v0_)∧Kd.R (Kd.int .u8) 5 w' w.heap.size (fun _=>True) v0_ r∧Below w.heap.size w w':=by
 have HR0:=qAA.mk hr0
 have HC0:=qAA.mk hc0
 clear hr0 hc0
 have HB:=qAA.mk (Below.refl w.heap.size w)
 have H:((qCL.f l0).bind fun t111=>(qAb.l0 k a1 t111))=some r:=h
 clear h
 replace H:=Option.bind_eq_some_iff.mp H
 obtain ⟨t111,A30,H⟩:=H
 replace H:(qAb.l0 k a1 t111)=some r:=H
 have A3:=qAA.mk A30
 clear A30
 have H':=qAA.mk H
 clear H
 go_enter Try.func49,Try.ntmps49
 go_wp2_with (first | ((with_reducible refine qBu (f:=68) rfl ?_);refine goesL_ (some 7) rfl rfl Try.func68 (by kernel_rfl) rfl #[.slice A0 l0.length c0] rfl (by (try simp only [List.map_toArray,List.map_cons,List.map_nil]);first | done | rfl | (simp only [List.length_drop,List.length_take];rfl)) ?_;(with_reducible refine (qCL.calls _ _ l0 t111 _ ?side1 ?side2 A3.out).mono ?_);(case side1=>repeat (first | exact HR0.out | (with_reducible refine Kd.qAs ?_ _) | (with_reducible refine Kd.qBA ?_ _) | (with_reducible refine Kd.qBW ?_)));(case side2=>exact HC0.out);rintro e w4 ⟨v112,rfl,ho0,hb⟩;refine ⟨_,rfl, ?_⟩;have n0_:=qAA.mk (Kd.qBg ho0 (qAw (by repeat (first | (with_reducible first | exact HB.out | apply qAH | apply qAI | apply qAN) | exact HB.out))));have n1_:=qAA.mk (qAV (by repeat (first | (with_reducible first | exact HB.out | apply qAH | apply qAI | apply qAN) | exact HB.out)) hb);clear HB;have HO113:=n0_;have HB:=n1_;clear n0_ n1_;(try clear hb);(try clear hb2);(try clear hk);(try clear hi);(try clear ho0)))
 go_loopg [1,5] k (fun kq v1 v5 w'=>∃ (x1_1:Int) (x5_1:List Int),v1=.int .u64 x1_1∧qAA (qAb.l0 kq x1_1 x5_1=some r)∧qAA (kq≤k)∧qAA (Kd.R (Kd.int .u8) 5 w' w.heap.size (fun _=>True) v5 x5_1)∧qAA (Below w.heap.size w w'))
 case atStart=>exact ⟨(a1),(t111),(by first | rfl | (simp;done) | (simp [*];done)),H',⟨Nat.le_refl _⟩,⟨by (with_reducible repeat (first | apply Kd.qA0 | apply Kd.qCB | apply Kd.qBo));exact HO113.out⟩,⟨by repeat (first | (with_reducible first | exact HB.out | apply qAH | apply qAI | apply qAN) | exact HB.out)⟩⟩
 case round =>
  clear H'
  try clear p2
  try clear c4
  obtain ⟨x1_1,x5_1,rfl,HA,HK1,HO_5,HB⟩:=hrel
  cases gk with
  | zero=>exact absurd HA.out (by simp [qAb.l0])
  | succ k1 =>
   have H:=HA.out
   clear HA
   simp only [qAb.l0] at H
   by_cases c5:x1_1 ≥ 128
   ·rw [if_pos c5] at H
    have c5b0:decide (128≤x1_1)=true:=decide_eq_true c5
    clear c5
    by_cases c6:x5_1.length < 140737488355328
    ·rw [if_pos c6] at H
     have LMc6:=qAA.mk c6
     clear c6
     obtain ⟨y114,hy114⟩:∃ y_:List Int,y_=(x5_1 ++ [Go.bits .or .u8 ((x1_1) % 256) 128]):=⟨_,rfl⟩
     replace H:(qAb.l0 k1 (x1_1 / 128) y114)=some r:=by first | (rw [hy114];with_reducible exact H) | (have H2_:=(Option.bind_some _ _).symm.trans H;rw [hy114];with_reducible exact H2_) | (have H2_:=(Option.bind_some _ _).symm.trans H;with_reducible exact H2_) | with_reducible exact H | (rw [hy114];exact H) | exact H
     have Ny114:=qAA.mk hy114
     clear hy114
     have H':=qAA.mk H
     clear H
     go_wp2_with (first | ((with_reducible refine qBb (b:=.append) (xs:=#[.tmp 10,.tmp 14]) rfl ?_);at_builtin;refine Kd.R_append (Kd.int .u8) (w0:=w) w.heap.size rfl (.tmp 10) (.tmp 14) 29 5 (.int .u8 0) 1 rfl Try.underlying29 info5 rfl (by decide) (by omega) u5 x5_1 (Go.bits .or .u8 ((x1_1) % 256) 128) [.int .u8 (Go.bits .or .u8 ((x1_1) % 256) 128)] (fun _=>True) (fun _=>False) rfl rfl ?aP (fun _ hk=>hk.elim) ?aF ?aO ?aB ?aS ?aL ?_;(case aP=>exact rfl);(case aB=>exact (by repeat (first | (with_reducible first | exact HB.out | apply qAH | apply qAI | apply qAN) | exact HB.out)));(case aF=>exact (fun _ _=>trivial));(case aO=>exact (by (with_reducible repeat (first | apply Kd.qA0 | apply Kd.qCB | apply Kd.qBo));exact HO_5.out));(case aS=>exact (qAw (by repeat (first | (with_reducible first | exact HB.out | apply qAH | apply qAI | apply qAN) | exact HB.out))));(case aL=>have:=LMc6.out;omega);intro v115 w7 ho hb hg hat;rw [← Ny114.out] at ho;have n0_:=qAA.mk (hb);have n1_:=qAA.mk (ho);clear HB;clear HO_5;have HB:=n0_;have HO116:=n1_;clear n0_ n1_;clear ho hb hg hat))
     go_roundg k1
     case measure=>have:=HK1.out;omega
     case rel=>exact ⟨(x1_1 / 128),(y114),(by first | rfl | (simp;done) | (simp [*];done)),H',⟨by have:=HK1.out;omega⟩,⟨by (with_reducible repeat (first | apply Kd.qA0 | apply Kd.qCB | apply Kd.qBo));exact HO116.out⟩,⟨by repeat (first | (with_reducible first | exact HB.out | apply qAH | apply qAI | apply qAN) | exact HB.out)⟩⟩
    ·rw [if_neg c6] at H
     exact absurd H (by simp)
   ·rw [if_neg c5] at H
    have c5b0:decide (128≤x1_1)=false:=decide_eq_false c5
    clear c5
    by_cases c8:x5_1.length < 140737488355328
    ·rw [if_pos c8] at H
     have LMc8:=qAA.mk c8
     clear c8
     obtain ⟨y117,hy117⟩:∃ y_:List Int,y_=(x5_1 ++ [(x1_1) % 256]):=⟨_,rfl⟩
     replace H:(some y117)=some r:=by first | (rw [hy117];with_reducible exact H) | (have H2_:=(Option.bind_some _ _).symm.trans H;rw [hy117];with_reducible exact H2_) | (have H2_:=(Option.bind_some _ _).symm.trans H;with_reducible exact H2_) | with_reducible exact H | (rw [hy117];exact H) | exact H
     have Ny117:=qAA.mk hy117
     clear hy117
     obtain rfl:=Option.some.inj H
     simp only [Option.some.injEq,Prod.mk.injEq] at H
     obtain ⟨rfl⟩:=H
     go_wp2_with (first | ((with_reducible refine qBb (b:=.append) (xs:=#[.tmp 18,.tmp 21]) rfl ?_);at_builtin;refine Kd.R_append (Kd.int .u8) (w0:=w) w.heap.size rfl (.tmp 18) (.tmp 21) 29 5 (.int .u8 0) 1 rfl Try.underlying29 info5 rfl (by decide) (by omega) u5 x5_1 ((x1_1) % 256) [.int .u8 ((x1_1) % 256)] (fun _=>True) (fun _=>False) rfl rfl ?aP (fun _ hk=>hk.elim) ?aF ?aO ?aB ?aS ?aL ?_;(case aP=>exact rfl);(case aB=>exact (by repeat (first | (with_reducible first | exact HB.out | apply qAH | apply qAI | apply qAN) | exact HB.out)));(case aF=>exact (fun _ _=>trivial));(case aO=>exact (by (with_reducible repeat (first | apply Kd.qA0 | apply Kd.qCB | apply Kd.qBo));exact HO_5.out));(case aS=>exact (qAw (by repeat (first | (with_reducible first | exact HB.out | apply qAH | apply qAI | apply qAN) | exact HB.out))));(case aL=>have:=LMc8.out;omega);intro v118 w9 ho hb hg hat;rw [← Ny117.out] at ho;have n0_:=qAA.mk (hb);have n1_:=qAA.mk (ho);clear HB;clear HO_5;have HB:=n0_;have HO119:=n1_;clear n0_ n1_;clear ho hb hg hat))
     go_ret
     exact ⟨_,by first | rfl | (simp [qAu,qAt] <;> rfl) | (simp [*,qAu,qAt] <;> rfl),by (with_reducible repeat (first | apply Kd.qA0 | apply Kd.qCB | apply Kd.qBo));exact HO119.out,by repeat (first | (with_reducible first | exact HB.out | apply qAH | apply qAI | apply qAN) | exact HB.out)⟩
    ·rw [if_neg c8] at H
     exact absurd H (by simp)
end Go.Proofs.Ytmehfnikecmiiaa.X
