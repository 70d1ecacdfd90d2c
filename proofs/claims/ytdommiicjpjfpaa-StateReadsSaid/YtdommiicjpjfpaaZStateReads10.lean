import Derived.Test.YtdommiicjpjfpaaZStateReads3
import Derived.Test.YtdommiicjpjfpaaZStateReads8
set_option linter.unusedVariables false
set_option linter.unusedSimpArgs false
namespace Go.Proofs.Ytdommiicjpjfpaa.X
open Go.RowKit Go.Proofs.YtdommiicjpjfpaaW.PrintWords Go.Proofs.YtdommiicjpjfpaaW.PrintLast Go.Proofs.YtdommiicjpjfpaaW.PrintMore Go.Proofs.YtdommiicjpjfpaaW
attribute [local go_sem] qBE qBD qBV qBU qA6 qA5 qBJ qBI
def qBT.f (k:Nat) (l0:List Int) (a1:ByteArray):Option (List Int):=(qAt.f k l0 (IntKind.u64.wrap ((a1.size:Int)))).bind fun t128=>(if t128.length+a1.size < 140737488355328 then (some (t128 ++ bytesOf a1)) else (none))
set_option maxHeartbeats 8000000 in
set_option maxRecDepth 100000 in
theorem qBT.calls (k:Nat) (A0:Option Addr) (c0:Nat) (l0:List Int) (a1:ByteArray) (r:List Int) (w:World) (hr0:Kd.C (Kd.int .u8) w A0 l0.length l0) (hc0:l0.length≤c0) (h:qBT.f k l0 a1=some r) :
  Calls Try.prog 48 #[.slice A0 l0.length c0,.string a1] w fun e w'=>∃ v0_:Value,e=.returned (v0_)∧Kd.R (Kd.int .u8) 5 w' w.heap.size (fun _=>True) v0_ r∧Below w.heap.size w w':=by
 have HR0:=qAA.mk hr0
 have HC0:=qAA.mk hc0
 clear hr0 hc0
 have HB:=qAA.mk (Below.refl w.heap.size w)
 have H:((qAt.f k l0 (IntKind.u64.wrap ((a1.size:Int)))).bind fun t128=>(if t128.length+a1.size < 140737488355328 then (some (t128 ++ bytesOf a1)) else (none)))=some r:=h
 clear h
 replace H:=Option.bind_eq_some_iff.mp H
 obtain ⟨t128,A30,H⟩:=H
 replace H:(if t128.length+a1.size < 140737488355328 then (some (t128 ++ bytesOf a1)) else (none))=some r:=H
 have A3:=qAA.mk A30
 clear A30
 by_cases c4:t128.length+a1.size < 140737488355328
 ·rw [if_pos c4] at H
  have LMc4:=qAA.mk c4
  clear c4
  obtain ⟨y131,hy131⟩:∃ y_:List Int,y_=(t128 ++ bytesOf a1):=⟨_,rfl⟩
  replace H:(some y131)=some r:=by first | (rw [hy131];with_reducible exact H) | (have H2_:=(Option.bind_some _ _).symm.trans H;rw [hy131];with_reducible exact H2_) | (have H2_:=(Option.bind_some _ _).symm.trans H;with_reducible exact H2_) | with_reducible exact H | (rw [hy131];exact H) | exact H
  have Ny131:=qAA.mk hy131
  clear hy131
  obtain rfl:=Option.some.inj H
  simp only [Option.some.injEq,Prod.mk.injEq] at H
  obtain ⟨rfl⟩:=H
  go_enter Try.func48,Try.ntmps48
  go_wp2_with (first | ((with_reducible refine qA2 (f:=46) rfl ?_);refine qB0 (some 9) rfl rfl Try.func46 (by kernel_rfl) rfl #[.slice A0 l0.length c0,.int .u64 (IntKind.u64.wrap ((a1.size:Int)))] rfl (by (try simp only [List.map_toArray,List.map_cons,List.map_nil]);first | done | rfl | (simp only [List.length_drop,List.length_take];rfl)) ?_;(with_reducible refine (qAt.calls k _ _ l0 (IntKind.u64.wrap ((a1.size:Int))) t128 _ ?side1 ?side2 A3.out).mono ?_);(case side1=>repeat (first | exact HR0.out | (with_reducible refine Kd.qAh ?_ _) | (with_reducible refine Kd.qAk ?_ _) | (with_reducible refine Kd.qAs ?_)));(case side2=>exact HC0.out);rintro e w5 ⟨v129,rfl,ho0,hb⟩;refine ⟨_,rfl, ?_⟩;have n0_:=qAA.mk (Kd.qB6 ho0 (qAV (by repeat (first | (with_reducible first | exact HB.out | apply qAE | apply qAD | apply qAF) | exact HB.out))));have n1_:=qAA.mk (qAO (by repeat (first | (with_reducible first | exact HB.out | apply qAE | apply qAD | apply qAF) | exact HB.out)) hb);clear HB;have HO130:=n0_;have HB:=n1_;clear n0_ n1_;(try clear hb);(try clear hb2);(try clear hk);(try clear hi);(try clear ho0)) | (at_builtin;refine print_append_str (w0:=w) w.heap.size rfl (.tmp 9) _ 44 9 5 rfl Try.underlying44 Try.underlying9 info5 v129 t128 a1 rfl rfl ?aO ?aB ?aS ?aL ?_;(case aB=>exact (by repeat (first | (with_reducible first | exact HB.out | apply qAE | apply qAD | apply qAF) | exact HB.out)));(case aO=>exact (Kd.own_of_R (by (with_reducible repeat (first | apply Kd.qBW | apply Kd.qCR | apply Kd.qBB));exact HO130.out)));(case aS=>exact (qAV (by repeat (first | (with_reducible first | exact HB.out | apply qAE | apply qAD | apply qAF) | exact HB.out))));(case aL=>have:=LMc4.out;omega);intro v132 w6 ho0 hb hg;have ho:=Kd.R_of_own (h1:=fun _=>rfl) (ok:=fun _=>True) ho0 (fun _ _=>trivial);clear ho0;have hat:=True.intro;rw [← Ny131.out] at ho;change Kd.R (Kd.int .u8) 5 w6 w.heap.size (fun _=>True) v132 y131 at ho;have n0_:=qAA.mk (hb);have n1_:=qAA.mk (ho);clear HB;clear HO130;have HB:=n0_;have HO133:=n1_;clear n0_ n1_;clear ho hb hg hat))
  go_ret
  exact ⟨_,by first | rfl | (simp [qAT,qAS] <;> rfl) | (simp [*,qAT,qAS] <;> rfl),by (with_reducible repeat (first | apply Kd.qBW | apply Kd.qCR | apply Kd.qBB));exact HO133.out,by repeat (first | (with_reducible first | exact HB.out | apply qAE | apply qAD | apply qAF) | exact HB.out)⟩
 ·rw [if_neg c4] at H
  exact absurd H (by simp)
end Go.Proofs.Ytdommiicjpjfpaa.X
