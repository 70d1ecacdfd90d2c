import Derived.Test.YtdommiicjpjfpaaZStateReads3
import Derived.Test.YtdommiicjpjfpaaZStateReads6
set_option linter.unusedVariables false
set_option linter.unusedSimpArgs false
namespace Go.Proofs.Ytdommiicjpjfpaa.X
open Go.RowKit Go.Proofs.YtdommiicjpjfpaaW.PrintWords Go.Proofs.YtdommiicjpjfpaaW.PrintLast Go.Proofs.YtdommiicjpjfpaaW.PrintMore Go.Proofs.YtdommiicjpjfpaaW
attribute [local go_sem] qBE qBD qBV qBU qA6 qA5 qBJ qBI
def num_Int.f (k:Nat) (l0:List Int) (a1:Int):Option (Int × Int × Int):=(qAq.f k l0 a1).bind fun bt138=>(some (Go.bits .xor .i64 (wrap64 (bt138.1 / 2)) (wrap64 (-(wrap64 (Go.bits .and .u64 bt138.1 1)))),bt138.2.1,bt138.2.2))
set_option maxHeartbeats 8000000 in
set_option maxRecDepth 100000 in
theorem num_Int.calls (k:Nat) (A0:Option Addr) (c0:Nat) (l0:List Int) (a1:Int) (r1:Int) (r2:Int) (r3:Int) (w:World) (hr0:Kd.C (Kd.int .u8) w A0 l0.length l0) (hc0:l0.length≤c0) (h:num_Int.f k l0 a1=some (r1,r2,r3)) :
  Calls Try.prog 89 #[.slice A0 l0.length c0,.int .i64 a1] w fun e w'=>e=.returned (.tuple #[.int .i64 r1,.int .i64 r2,.int .i64 r3])∧qAf w w':=by
 have HR0:=qAA.mk hr0
 have HC0:=qAA.mk hc0
 clear hr0 hc0
 have H:((qAq.f k l0 a1).bind fun bt138=>(some (Go.bits .xor .i64 (wrap64 (bt138.1 / 2)) (wrap64 (-(wrap64 (Go.bits .and .u64 bt138.1 1)))),bt138.2.1,bt138.2.2)))=some (r1,r2,r3):=h
 clear h
 replace H:=Option.bind_eq_some_iff.mp H
 obtain ⟨⟨t138,t139,t140⟩,A30,H⟩:=H
 replace H:(some (Go.bits .xor .i64 (wrap64 (t138 / 2)) (wrap64 (-(wrap64 (Go.bits .and .u64 t138 1)))),t139,t140))=some (r1,r2,r3):=H
 have A3:=qAA.mk A30
 clear A30
 simp only [Option.some.injEq,Prod.mk.injEq] at H
 obtain ⟨rfl,rfl,rfl⟩:=H
 go_enter Try.func89,Try.ntmps89
 go_wp2_with (first | ((with_reducible refine qA2 (f:=40) rfl ?_);refine qB0 (some 13) rfl rfl Try.func40 (by kernel_rfl) rfl #[.slice A0 l0.length c0,.int .i64 a1] rfl (by (try simp only [List.map_toArray,List.map_cons,List.map_nil]);first | done | rfl | (simp only [List.length_drop,List.length_take];rfl)) ?_;(with_reducible refine (qAq.calls k _ _ l0 a1 t138 t139 t140 _ ?side1 ?side2 A3.out).mono ?_);(case side1=>repeat (first | exact HR0.out | (with_reducible refine Kd.qAh ?_ _) | (with_reducible refine Kd.qAk ?_ _) | (with_reducible refine Kd.qAs ?_)));(case side2=>exact HC0.out);rintro e w' ⟨rfl,⟨nd,rfl⟩⟩;refine ⟨_,rfl, ?_⟩))
 go_ret3
 exact ⟨by first | rfl | (simp;done) | (simp [*];done),by repeat (first | exact qAf.refl _ | apply qAf.step)⟩
end Go.Proofs.Ytdommiicjpjfpaa.X
