import Derived.Test.YtdommiicjpjfpaaZStateApart3
import Derived.Test.YtdommiicjpjfpaaZStateApart7
set_option linter.unusedVariables false
set_option linter.unusedSimpArgs false
namespace Go.Proofs.Ytdommiicjpjfpaa.X
open Go.RowKit Go.Proofs.YtdommiicjpjfpaaW.PrintWords Go.Proofs.YtdommiicjpjfpaaW.PrintLast Go.Proofs.YtdommiicjpjfpaaW.PrintMore Go.Proofs.YtdommiicjpjfpaaW
attribute [local go_sem] qBG qBF qBV qBU qA7 qA6 qBL qBK
def qBJ.f (k:Nat) (l0:List Int) (a1:Int):Option (List Int):=(qAc.f k l0 (IntKind.u64.wrap (Go.bits .xor .i64 (wrap64 (a1 * 2)) (a1 / 9223372036854775808)))).bind fun t141=>(some t141)
theorem qBJ.mono:∀ a0 a1 k,LeO (qBJ.f k a0 a1) (qBJ.f (k+1) a0 a1):=by
 intro a0 a1 k
 unfold qBJ.f
 repeat' first
   | (with_reducible exact qAc.mono _ _ _)
   | (with_reducible exact LeO.refl _)
   | (with_reducible exact LeO.none _)
   | (with_reducible refine LeO.ite ?_ ?_)
   | (with_reducible refine LeO.bind ?_ (fun _ => ?_))
   | exact qAc.mono _ _ _
   | exact LeO.none _
   | refine LeO.ite ?_ ?_
   | refine LeO.bind ?_ (fun _ => ?_)
set_option maxHeartbeats 8000000 in
set_option maxRecDepth 100000 in
theorem qBJ.calls (k:Nat) (A0:Option Addr) (c0:Nat) (l0:List Int) (a1:Int) (r:List Int) (w:World) (hr0:Kd.C (Kd.int .u8) w A0 l0.length l0) (hc0:l0.length≤c0) (h:qBJ.f k l0 a1=some r) :
  Calls Try.prog 95 #[.slice A0 l0.length c0,.int .i64 a1] w fun e w'=>∃ v0_:Value,e=.returned (v0_)∧Kd.R (Kd.int .u8) 5 w' w.heap.size (fun _=>True) v0_ r∧Below w.heap.size w w':=by
 have HR0:=qAA.mk hr0
 have HC0:=qAA.mk hc0
 clear hr0 hc0
 have HB:=qAA.mk (Below.refl w.heap.size w)
 have H:((qAc.f k l0 (IntKind.u64.wrap (Go.bits .xor .i64 (wrap64 (a1 * 2)) (a1 / 9223372036854775808)))).bind fun t141=>(some t141))=some r:=h
 clear h
 replace H:=Option.bind_eq_some_iff.mp H
 obtain ⟨t141,A30,H⟩:=H
 replace H:(some t141)=some r:=H
 have A3:=qAA.mk A30
 clear A30
 obtain rfl:=Option.some.inj H
 simp only [Option.some.injEq,Prod.mk.injEq] at H
 obtain ⟨rfl⟩:=H
 go_enter Try.func95,Try.ntmps95
 go_wp2_with (first | ((with_reducible refine qBQ (f:=46) rfl ?_);refine goesL_ (some 12) rfl rfl Try.func46 (by kernel_rfl) rfl #[.slice A0 l0.length c0,.int .u64 (IntKind.u64.wrap (Go.bits .xor .i64 (wrap64 (a1 * 2)) (a1 / 9223372036854775808)))] rfl (by (try simp only [List.map_toArray,List.map_cons,List.map_nil]);first | done | rfl | (simp only [List.length_drop,List.length_take];rfl)) ?_;(with_reducible refine (qAc.calls k _ _ l0 (IntKind.u64.wrap (Go.bits .xor .i64 (wrap64 (a1 * 2)) (a1 / 9223372036854775808))) t141 _ ?side1 ?side2 A3.out).mono ?_);(case side1=>repeat (first | exact HR0.out | (with_reducible refine Kd.qAl ?_ _) | (with_reducible refine Kd.qAj ?_ _) | (with_reducible refine Kd.qAo ?_)));(case side2=>exact HC0.out);rintro e w4 ⟨v142,rfl,ho0,hb⟩;refine ⟨_,rfl, ?_⟩;have n0_:=qAA.mk (Kd.qBp ho0 (qAW (by repeat (first | (with_reducible first | exact HB.out | apply qAF | apply qAD | apply qAG) | exact HB.out))));have n1_:=qAA.mk (qAS (by repeat (first | (with_reducible first | exact HB.out | apply qAF | apply qAD | apply qAG) | exact HB.out)) hb);clear HB;have HO143:=n0_;have HB:=n1_;clear n0_ n1_;(try clear hb);(try clear hb2);(try clear hk);(try clear hi);(try clear ho0)))
 go_ret
 exact ⟨_,by first | rfl | (simp [qAU,qAT] <;> rfl) | (simp [*,qAU,qAT] <;> rfl),by (with_reducible repeat (first | apply Kd.qBr | apply Kd.qCD | apply Kd.qA8));exact HO143.out,by repeat (first | (with_reducible first | exact HB.out | apply qAF | apply qAD | apply qAG) | exact HB.out)⟩
end Go.Proofs.Ytdommiicjpjfpaa.X
