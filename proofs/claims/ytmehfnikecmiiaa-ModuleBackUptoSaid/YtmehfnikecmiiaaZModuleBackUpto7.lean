import Derived.Test.YtmehfnikecmiiaaZModuleBackUpto3
import Derived.Test.YtmehfnikecmiiaaZModuleBackUpto6
set_option linter.unusedVariables false
set_option linter.unusedSimpArgs false
namespace Go.Proofs.Ytmehfnikecmiiaa.X
open Go.RowKit Go.Proofs.YtmehfnikecmiiaaW.PrintWords Go.Proofs.YtmehfnikecmiiaaW.PrintLast Go.Proofs.YtmehfnikecmiiaaW.PrintMore Go.Proofs.YtmehfnikecmiiaaW
attribute [local go_sem] qBF qBE qBY qBX qA9 qA8 qBI qBH
def num_Int.f (k:Nat) (l0:List Int) (a1:Int):Option (Int × Int × Int):=(qAe.f k l0 a1).bind fun bt140=>(some (Go.bits .xor .i64 (wrap64 (bt140.1 / 2)) (wrap64 (-(wrap64 (Go.bits .and .u64 bt140.1 1)))),bt140.2.1,bt140.2.2))
set_option maxHeartbeats 8000000 in
set_option maxRecDepth 100000 in
theorem num_Int.calls (k:Nat) (A0:Option Addr) (c0:Nat) (l0:List Int) (a1:Int) (r1:Int) (r2:Int) (r3:Int) (w:World) (hr0:Kd.C (Kd.int .u8) w A0 l0.length l0) (hc0:l0.length≤c0) (h:num_Int.f k l0 a1=some (r1,r2,r3)) :
  Calls Try.prog 99 #[.slice A0 l0.length c0,.int .i64 a1] w fun e w'=>e=.returned (.tuple #[.int .i64 r1,.int .i64 r2,.int .i64 r3])∧qAc w w':=by
 have HR0:=qAA.mk hr0
 have HC0:=qAA.mk hc0
 clear hr0 hc0
 have H:((qAe.f k l0 a1).bind fun bt140=>(some (Go.bits .xor .i64 (wrap64 (bt140.1 / 2)) (wrap64 (-(wrap64 (Go.bits .and .u64 bt140.1 1)))),bt140.2.1,bt140.2.2)))=some (r1,r2,r3):=h
 clear h
 replace H:=Option.bind_eq_some_iff.mp H
 obtain ⟨⟨t140,t141,t142⟩,A30,H⟩:=H
 replace H:(some (Go.bits .xor .i64 (wrap64 (t140 / 2)) (wrap64 (-(wrap64 (Go.bits .and .u64 t140 1)))),t141,t142))=some (r1,r2,r3):=H
 have A3:=qAA.mk A30
 clear A30
 simp only [Option.some.injEq,Prod.mk.injEq] at H
 obtain ⟨rfl,rfl,rfl⟩:=H
 go_enter Try.func99,Try.ntmps99
 go_wp2_with (first | ((with_reducible refine qBu (f:=77) rfl ?_);refine goesL_ (some 13) rfl rfl Try.func77 (by kernel_rfl) rfl #[.slice A0 l0.length c0,.int .i64 a1] rfl (by (try simp only [List.map_toArray,List.map_cons,List.map_nil]);first | done | rfl | (simp only [List.length_drop,List.length_take];rfl)) ?_;(with_reducible refine (qAe.calls k _ _ l0 a1 t140 t141 t142 _ ?side1 ?side2 A3.out).mono ?_);(case side1=>repeat (first | exact HR0.out | (with_reducible refine Kd.qAs ?_ _) | (with_reducible refine Kd.qBA ?_ _) | (with_reducible refine Kd.qBW ?_)));(case side2=>exact HC0.out);rintro e w' ⟨rfl,⟨nd,rfl⟩⟩;refine ⟨_,rfl, ?_⟩))
 go_ret3
 exact ⟨by first | rfl | (simp;done) | (simp [*];done),by repeat (first | exact qAc.refl _ | apply qAc.step)⟩
end Go.Proofs.Ytmehfnikecmiiaa.X
