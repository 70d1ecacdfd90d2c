import Derived.Test.YtmehfnikecmiiaaZModuleBackUpto3
import Derived.Test.YtmehfnikecmiiaaZModuleBackUpto9
set_option linter.unusedVariables false
set_option linter.unusedSimpArgs false
namespace Go.Proofs.Ytmehfnikecmiiaa.X
open Go.RowKit Go.Proofs.YtmehfnikecmiiaaW.PrintWords Go.Proofs.YtmehfnikecmiiaaW.PrintLast Go.Proofs.YtmehfnikecmiiaaW.PrintMore Go.Proofs.YtmehfnikecmiiaaW
attribute [local go_sem] qBF qBE qBY qBX qA9 qA8 qBI qBH
def qB1.f (k:Nat) (l0:List Int) (a1:Int):Option (List Int):=(qAb.f k l0 (IntKind.u64.wrap (Go.bits .xor .i64 (wrap64 (a1 * 2)) (a1 / 9223372036854775808)))).bind fun t133=>(some t133)
set_option maxHeartbeats 8000000 in
set_option maxRecDepth 100000 in
theorem qB1.calls (k:Nat) (A0:Option Addr) (c0:Nat) (l0:List Int) (a1:Int) (r:List Int) (w:World) (hr0:Kd.C (Kd.int .u8) w A0 l0.length l0) (hc0:l0.length≤c0) (h:qB1.f k l0 a1=some r) :
  Calls Try.prog 82 #[.slice A0 l0.length c0,.int .i64 a1] w fun e w'=>∃ v0_:Value,e=.returned (v0_)∧Kd.R (Kd.int .u8) 5 w' w.heap.size (fun _=>True) v0_ r∧Below w.heap.size w w':=by
 have HR0:=qAA.mk hr0
 have HC0:=qAA.mk hc0
 clear hr0 hc0
 have HB:=qAA.mk (Below.refl w.heap.size w)
 have H:((qAb.f k l0 (IntKind.u64.wrap (Go.bits .xor .i64 (wrap64 (a1 * 2)) (a1 / 9223372036854775808)))).bind fun t133=>(some t133))=some r:=h
 clear h
 replace H:=Option.bind_eq_some_iff.mp H
 obtain ⟨t133,A30,H⟩:=H
 replace H:(some t133)=some r:=H
 have A3:=qAA.mk A30
 clear A30
 obtain rfl:=Option.some.inj H
 simp only [Option.some.injEq,Prod.mk.injEq] at H
 obtain ⟨rfl⟩:=H
 go_enter Try.func82,Try.ntmps82
 go_wp2_with (first | ((with_reducible refine qBu (f:=49) rfl ?_);refine goesL_ (some 12) rfl rfl Try.func49 (by kernel_rfl) rfl #[.slice A0 l0.length c0,.int .u64 (IntKind.u64.wrap (Go.bits .xor .i64 (wrap64 (a1 * 2)) (a1 / 9223372036854775808)))] rfl (by (try simp only [List.map_toArray,List.map_cons,List.map_nil]);first | done | rfl | (simp only [List.length_drop,List.length_take];rfl)) ?_;(with_reducible refine (qAb.calls k _ _ l0 (IntKind.u64.wrap (Go.bits .xor .i64 (wrap64 (a1 * 2)) (a1 / 9223372036854775808))) t133 _ ?side1 ?side2 A3.out).mono ?_);(case side1=>repeat (first | exact HR0.out | (with_reducible refine Kd.qAs ?_ _) | (with_reducible refine Kd.qBA ?_ _) | (with_reducible refine Kd.qBW ?_)));(case side2=>exact HC0.out);rintro e w4 ⟨v134,rfl,ho0,hb⟩;refine ⟨_,rfl, ?_⟩;have n0_:=qAA.mk (Kd.qBg ho0 (qAw (by repeat (first | (with_reducible first | exact HB.out | apply qAH | apply qAI | apply qAN) | exact HB.out))));have n1_:=qAA.mk (qAV (by repeat (first | (with_reducible first | exact HB.out | apply qAH | apply qAI | apply qAN) | exact HB.out)) hb);clear HB;have HO135:=n0_;have HB:=n1_;clear n0_ n1_;(try clear hb);(try clear hb2);(try clear hk);(try clear hi);(try clear ho0)))
 go_ret
 exact ⟨_,by first | rfl | (simp [qAu,qAt] <;> rfl) | (simp [*,qAu,qAt] <;> rfl),by (with_reducible repeat (first | apply Kd.qA0 | apply Kd.qCB | apply Kd.qBo));exact HO135.out,by repeat (first | (with_reducible first | exact HB.out | apply qAH | apply qAI | apply qAN) | exact HB.out)⟩
end Go.Proofs.Ytmehfnikecmiiaa.X
