import Derived.Test.YtdommiicjpjfpaaZStateReads3
import Derived.Test.YtdommiicjpjfpaaZStateReads5
set_option linter.unusedVariables false
set_option linter.unusedSimpArgs false
namespace Go.Proofs.Ytdommiicjpjfpaa.X
open Go.RowKit Go.Proofs.YtdommiicjpjfpaaW.PrintWords Go.Proofs.YtdommiicjpjfpaaW.PrintLast Go.Proofs.YtdommiicjpjfpaaW.PrintMore Go.Proofs.YtdommiicjpjfpaaW
attribute [local go_sem] qBE qBD qBV qBU qA6 qA5 qBJ qBI
def qAt.l0:Nat→Int→List Int→Option (List Int)
 | 0,_,_=>none
 | k+1,x1,x5=>if x1 ≥ 128 then (if x5.length < 140737488355328 then (qAt.l0 k (x1 / 128) (x5 ++ [Go.bits .or .u8 ((x1) % 256) 128])) else (none)) else (if x5.length < 140737488355328 then (some (x5 ++ [(x1) % 256])) else (none))
def qAt.f (k:Nat) (l0:List Int) (a1:Int):Option (List Int):=(qCD.f l0).bind fun t115=>(qAt.l0 k a1 t115)
set_option maxHeartbeats 8000000 in
set_option maxRecDepth 100000 in
theorem qAt.calls (k:Nat) (A0:Option Addr) (c0:Nat) (l0:List Int) (a1:Int) (r:List Int) (w:World) (hr0:Kd.C (Kd.int .u8) w A0 l0.length l0) (hc0:l0.length≤c0) (h:qAt.f k l0 a1=some r) :
  Calls Try.prog 46 #[.slice A0 l0.length c0,.int .u64 a1] w fun e w'=>∃ v0_:Value,e=.returned (v0_)∧Kd.R (Kd.int .u8) 5 w' w.heap.size (fun _=>True) v0_ r∧Below w.heap.size w w':=by
 have HR0:=qAA.mk hr0
 have HC0:=qAA.mk hc0
 clear hr0 hc0
 have HB:=qAA.mk (Below.refl w.heap.size w)
 have H:((qCD.f l0).bind fun t115=>(qAt.l0 k a1 t115))=some r:=h
 clear h
 replace H:=Option.bind_eq_some_iff.mp H
 obtain ⟨t115,A30,H⟩:=H
 replace H:(qAt.l0 k a1 t115)=some r:=H
 have A3:=qAA.mk A30
 clear A30
 have H':=qAA.mk H
 clear H
 go_enter Try.func46,Try.ntmps46
 go_wp2_with (first | ((with_reducible refine qA2 (f:=63) rfl ?_);refine qB0 (some 7) rfl rfl Try.func63 (by kernel_rfl) rfl #[.slice A0 l0.length c0] rfl (by (try simp only [List.map_toArray,List.map_cons,List.map_nil]);first | done | rfl | (simp only [List.length_drop,List.length_take];rfl)) ?_;(with_reducible refine (qCD.calls _ _ l0 t115 _ ?side1 ?side2 A3.out).mono ?_);(case side1=>repeat (first | exact HR0.out | (with_reducible refine Kd.qAh ?_ _) | (with_reducible refine Kd.qAk ?_ _) | (with_reducible refine Kd.qAs ?_)));(case side2=>exact HC0.out);rintro e w4 ⟨v116,rfl,ho0,hb⟩;refine ⟨_,rfl, ?_⟩;have n0_:=qAA.mk (Kd.qB6 ho0 (qAV (by repeat (first | (with_reducible first | exact HB.out | apply qAE | apply qAD | apply qAF) | exact HB.out))));have n1_:=qAA.mk (qAO (by repeat (first | (with_reducible first | exact HB.out | apply qAE | apply qAD | apply qAF) | exact HB.out)) hb);clear HB;have HO117:=n0_;have HB:=n1_;clear n0_ n1_;(try clear hb);(try clear hb2);(try clear hk);(try clear hi);(try clear ho0)))
 go_loopg [1,5] k (fun kq v1 v5 w'=>∃ (x1_1:Int) (x5_1:List Int),v1=.int .u64 x1_1∧qAA (qAt.l0 kq x1_1 x5_1=some r)∧qAA (kq≤k)∧qAA (Kd.R (Kd.int .u8) 5 w' w.heap.size (fun _=>True) v5 x5_1)∧qAA (Below w.heap.size w w'))
 case atStart=>exact ⟨(a1),(t115),(by first | rfl | (simp;done) | (simp [*];done)),H',⟨Nat.le_refl _⟩,⟨by (with_reducible repeat (first | apply Kd.qBW | apply Kd.qCR | apply Kd.qBB));exact HO117.out⟩,⟨by repeat (first | (with_reducible first | exact HB.out | apply qAE | apply qAD | apply qAF) | exact HB.out)⟩⟩
 case round =>
  clear H'
  try clear p2
  try clear c4
  obtain ⟨x1_1,x5_1,rfl,HA,HK1,HO_5,HB⟩:=hrel
  cases gk with
  | zero=>exact absurd HA.out (by simp [qAt.l0])
  | succ k1 =>
   have H:=HA.out
   clear HA
   simp only [qAt.l0] at H
   by_cases c5:x1_1 ≥ 128
   ·rw [if_pos c5] at H
    have c5b0:decide (128≤x1_1)=true:=decide_eq_true c5
    clear c5
    by_cases c6:x5_1.length < 140737488355328
    ·rw [if_pos c6] at H
     have LMc6:=qAA.mk c6
     clear c6
     obtain ⟨y118,hy118⟩:∃ y_:List Int,y_=(x5_1 ++ [Go.bits .or .u8 ((x1_1) % 256) 128]):=⟨_,rfl⟩
     replace H:(qAt.l0 k1 (x1_1 / 128) y118)=some r:=by first | (rw [hy118];with_reducible exact H) | (have H2_:=(Option.bind_some _ _).symm.trans H;rw [hy118];with_reducible exact H2_) | (have H2_:=(Option.bind_some _ _).symm.trans H;with_reducible exact H2_) | with_reducible exact H | (rw [hy118];exact H) | exact H
     have Ny118:=qAA.mk hy118
     clear hy118
     have H':=qAA.mk H
     clear H
     go_wp2_with (first | ((with_reducible refine qBh (b:=.append) (xs:=#[.tmp 10,.tmp 14]) rfl ?_);at_builtin;refine Kd.qCY (Kd.int .u8) (w0:=w) w.heap.size rfl (.tmp 10) (.tmp 14) 44 5 (.int .u8 0) 1 rfl Try.underlying44 info5 rfl (by decide) (by omega) u5 x5_1 (Go.bits .or .u8 ((x1_1) % 256) 128) [.int .u8 (Go.bits .or .u8 ((x1_1) % 256) 128)] (fun _=>True) (fun _=>False) rfl rfl ?aP (fun _ hk=>hk.elim) ?aF ?aO ?aB ?aS ?aL ?_;(case aP=>exact rfl);(case aB=>exact (by repeat (first | (with_reducible first | exact HB.out | apply qAE | apply qAD | apply qAF) | exact HB.out)));(case aF=>exact (fun _ _=>trivial));(case aO=>exact (by (with_reducible repeat (first | apply Kd.qBW | apply Kd.qCR | apply Kd.qBB));exact HO_5.out));(case aS=>exact (qAV (by repeat (first | (with_reducible first | exact HB.out | apply qAE | apply qAD | apply qAF) | exact HB.out))));(case aL=>have:=LMc6.out;omega);intro v119 w7 ho hb hg hat;rw [← Ny118.out] at ho;have n0_:=qAA.mk (hb);have n1_:=qAA.mk (ho);clear HB;clear HO_5;have HB:=n0_;have HO120:=n1_;clear n0_ n1_;clear ho hb hg hat))
     go_roundg k1
     case measure=>have:=HK1.out;omega
     case rel=>exact ⟨(x1_1 / 128),(y118),(by first | rfl | (simp;done) | (simp [*];done)),H',⟨by have:=HK1.out;omega⟩,⟨by (with_reducible repeat (first | apply Kd.qBW | apply Kd.qCR | apply Kd.qBB));exact HO120.out⟩,⟨by repeat (first | (with_reducible first | exact HB.out | apply qAE | apply qAD | apply qAF) | exact HB.out)⟩⟩
    ·rw [if_neg c6] at H
     exact absurd H (by simp)
   ·rw [if_neg c5] at H
    have c5b0:decide (128≤x1_1)=false:=decide_eq_false c5
    clear c5
    by_cases c8:x5_1.length < 140737488355328
    ·rw [if_pos c8] at H
     have LMc8:=qAA.mk c8
     clear c8
     obtain ⟨y121,hy121⟩:∃ y_:List Int,y_=(x5_1 ++ [(x1_1) % 256]):=⟨_,rfl⟩
     replace H:(some y121)=some r:=by first | (rw [hy121];with_reducible exact H) | (have H2_:=(Option.bind_some _ _).symm.trans H;rw [hy121];with_reducible exact H2_) | (have H2_:=(Option.bind_some _ _).symm.trans H;with_reducible exact H2_) | with_reducible exact H | (rw [hy121];exact H) | exact H
     have Ny121:=qAA.mk hy121
     clear hy121
     obtain rfl:=Option.some.inj H
     simp only [Option.some.injEq,Prod.mk.injEq] at H
     obtain ⟨rfl⟩:=H
     go_wp2_with (first | ((with_reducible refine qBh (b:=.append) (xs:=#[.tmp 18,.tmp 21]) rfl ?_);at_builtin;refine Kd.qCY (Kd.int .u8) (w0:=w) w.heap.size rfl (.tmp 18) (.tmp 21) 44 5 (.int .u8 0) 1 rfl Try.underlying44 info5 rfl (by decide) (by omega) u5 x5_1 ((x1_1) % 256) [.int .u8 ((x1_1) % 256)] (fun _=>True) (fun _=>False) rfl rfl ?aP (fun _ hk=>hk.elim) ?aF ?aO ?aB ?aS ?aL ?_;(case aP=>exact rfl);(case aB=>exact (by repeat (first | (with_reducible first | exact HB.out | apply qAE | apply qAD | apply qAF) | exact HB.out)));(case aF=>exact (fun _ _=>trivial));(case aO=>exact (by (with_reducible repeat (first | apply Kd.qBW | apply Kd.qCR | apply Kd.qBB));exact HO_5.out));(case aS=>exact (qAV (by repeat (first | (with_reducible first | exact HB.out | apply qAE | apply qAD | apply qAF) | exact HB.out))));(case aL=>have:=LMc8.out;omega);intro v122 w9 ho hb hg hat;rw [← Ny121.out] at ho;have n0_:=qAA.mk (hb);have n1_:=qAA.mk (ho);clear HB;clear HO_5;have HB:=n0_;have HO123:=n1_;clear n0_ n1_;clear ho hb hg hat))
     go_ret
     exact ⟨_,by first | rfl | (simp [qAT,qAS] <;> rfl) | (simp [*,qAT,qAS] <;> rfl),by (with_reducible repeat (first | apply Kd.qBW | apply Kd.qCR | apply Kd.qBB));exact HO123.out,by repeat (first | (with_reducible first | exact HB.out | apply qAE | apply qAD | apply qAF) | exact HB.out)⟩
    ·rw [if_neg c8] at H
     exact absurd H (by simp)
end Go.Proofs.Ytdommiicjpjfpaa.X
