import Derived.Test.YtnkbobblnhaclaaZWireCodes3
import Derived.Test.YtnkbobblnhaclaaZWireCodes5
set_option linter.unusedVariables false
set_option linter.unusedSimpArgs false
namespace Go.Proofs.Ytnkbobblnhaclaa.X
open Go.RowKit Go.Proofs.YtnkbobblnhaclaaW.PrintWords Go.Proofs.YtnkbobblnhaclaaW.PrintLast Go.Proofs.YtnkbobblnhaclaaW.PrintMore Go.Proofs.YtnkbobblnhaclaaW
attribute [local go_sem] qBF qBE qBX qBW qA6 qA5 qBJ qBI
def qBZ.f (k:Nat) (l0:List Int) (a1:Int):Option (List Int):=(qAi.f k l0 (IntKind.u64.wrap (Go.bits .xor .i64 (wrap64 (a1 * 2)) (a1 / 9223372036854775808)))).bind fun t120=>(some t120)
theorem qBZ.mono:∀ a0 a1 k,LeO (qBZ.f k a0 a1) (qBZ.f (k+1) a0 a1):=by
 intro a0 a1 k
 unfold qBZ.f
 repeat' first
   | (with_reducible exact qAi.mono _ _ _)
   | (with_reducible exact LeO.refl _)
   | (with_reducible exact LeO.none _)
   | (with_reducible refine LeO.ite ?_ ?_)
   | (with_reducible refine LeO.bind ?_ (fun _ => ?_))
   | exact qAi.mono _ _ _
   | exact LeO.none _
   | refine LeO.ite ?_ ?_
   | refine LeO.bind ?_ (fun _ => ?_)
set_option maxHeartbeats 8000000 in
set_option maxRecDepth 100000 in
theorem qBZ.calls (k:Nat) (A0:Option Addr) (c0:Nat) (l0:List Int) (a1:Int) (r:List Int) (w:World) (hr0:Kd.C (Kd.int .u8) w A0 l0.length l0) (hc0:l0.length≤c0) (h:qBZ.f k l0 a1=some r) :
  Calls Try.prog 44 #[.slice A0 l0.length c0,.int .i64 a1] w fun e w'=>∃ v0_:Value,e=.returned (v0_)∧Kd.R (Kd.int .u8) 5 w' w.heap.size (fun _=>True) v0_ r∧Below w.heap.size w w':=by
 have HR0:=qAA.mk hr0
 have HC0:=qAA.mk hc0
 clear hr0 hc0
 have HB:=qAA.mk (Below.refl w.heap.size w)
 have H:((qAi.f k l0 (IntKind.u64.wrap (Go.bits .xor .i64 (wrap64 (a1 * 2)) (a1 / 9223372036854775808)))).bind fun t120=>(some t120))=some r:=h
 clear h
 replace H:=Option.bind_eq_some_iff.mp H
 obtain ⟨t120,A30,H⟩:=H
 replace H:(some t120)=some r:=H
 have A3:=qAA.mk A30
 clear A30
 obtain rfl:=Option.some.inj H
 simp only [Option.some.injEq,Prod.mk.injEq] at H
 obtain ⟨rfl⟩:=H
 go_enter Try.func44,Try.ntmps44
 go_wp2_with (first | ((with_reducible refine qBO (f:=46) rfl ?_);refine qB9 (some 12) rfl rfl Try.func46 (by kernel_rfl) rfl #[.slice A0 l0.length c0,.int .u64 (IntKind.u64.wrap (Go.bits .xor .i64 (wrap64 (a1 * 2)) (a1 / 9223372036854775808)))] rfl (by (try simp only [List.map_toArray,List.map_cons,List.map_nil]);first | done | rfl | (simp only [List.length_drop,List.length_take];rfl)) ?_;(with_reducible refine (qAi.calls k _ _ l0 (IntKind.u64.wrap (Go.bits .xor .i64 (wrap64 (a1 * 2)) (a1 / 9223372036854775808))) t120 _ ?side1 ?side2 A3.out).mono ?_);(case side1=>repeat (first | exact HR0.out | (with_reducible refine Kd.qAs ?_ _) | (with_reducible refine Kd.qAr ?_ _) | (with_reducible refine Kd.qA0 ?_)));(case side2=>exact HC0.out);rintro e w4 ⟨v121,rfl,ho0,hb⟩;refine ⟨_,rfl, ?_⟩;have n0_:=qAA.mk (Kd.qBk ho0 (qAV (by repeat (first | (with_reducible first | exact HB.out | apply qAF | apply qAD | apply qAG) | exact HB.out))));have n1_:=qAA.mk (qAX (by repeat (first | (with_reducible first | exact HB.out | apply qAF | apply qAD | apply qAG) | exact HB.out)) hb);clear HB;have HO122:=n0_;have HB:=n1_;clear n0_ n1_;(try clear hb);(try clear hb2);(try clear hk);(try clear hi);(try clear ho0)))
 go_ret
 exact ⟨_,by first | rfl | (simp [qAa,qAZ] <;> rfl) | (simp [*,qAa,qAZ] <;> rfl),by (with_reducible repeat (first | apply Kd.qA7 | apply Kd.qBA | apply Kd.qBC));exact HO122.out,by repeat (first | (with_reducible first | exact HB.out | apply qAF | apply qAD | apply qAG) | exact HB.out)⟩
end Go.Proofs.Ytnkbobblnhaclaa.X
