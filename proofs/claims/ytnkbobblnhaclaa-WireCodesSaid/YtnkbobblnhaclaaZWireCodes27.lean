import Derived.Test.YtnkbobblnhaclaaZWireCodes3
import Derived.Test.YtnkbobblnhaclaaZWireCodes26
set_option linter.unusedVariables false
set_option linter.unusedSimpArgs false
namespace Go.Proofs.Ytnkbobblnhaclaa.X
open Go.RowKit Go.Proofs.YtnkbobblnhaclaaW.PrintWords Go.Proofs.YtnkbobblnhaclaaW.PrintLast Go.Proofs.YtnkbobblnhaclaaW.PrintMore Go.Proofs.YtnkbobblnhaclaaW
attribute [local go_sem] qBF qBE qBX qBW qA6 qA5 qBJ qBI
def qAu.f (k:Nat) (l0:List Int) (a1:Int):Option (List Int):=if a1 < 0 then ((qAS.f k l0 (IntKind.u64.wrap ((IntKind.u64.wrap ((IntKind.u64.wrap (wrap64 (-(wrap64 (a1+1))))) * 2))+1))).bind fun t216=>(some t216)) else ((qAS.f k l0 (IntKind.u64.wrap ((IntKind.u64.wrap (a1)) * 2))).bind fun t219=>(some t219))
theorem qAu.mono:∀ a0 a1 k,LeO (qAu.f k a0 a1) (qAu.f (k+1) a0 a1):=by
 intro a0 a1 k
 unfold qAu.f
 repeat' first
   | (with_reducible exact qAS.mono _ _ _)
   | (with_reducible exact LeO.refl _)
   | (with_reducible exact LeO.none _)
   | (with_reducible refine LeO.ite ?_ ?_)
   | (with_reducible refine LeO.bind ?_ (fun _ => ?_))
   | exact qAS.mono _ _ _
   | exact LeO.none _
   | refine LeO.ite ?_ ?_
   | refine LeO.bind ?_ (fun _ => ?_)
set_option maxHeartbeats 8000000 in
set_option maxRecDepth 100000 in
theorem qAu.calls (k:Nat) (A0:Option Addr) (c0:Nat) (l0:List Int) (a1:Int) (r:List Int) (w:World) (hr0:Kd.C (Kd.int .u8) w A0 l0.length l0) (hc0:l0.length≤c0) (h:qAu.f k l0 a1=some r) :
  Calls Try.prog 47 #[.slice A0 l0.length c0,.int .i64 a1] w fun e w'=>∃ v0_:Value,e=.returned (v0_)∧Kd.R (Kd.int .u8) 5 w' w.heap.size (fun _=>True) v0_ r∧Below w.heap.size w w':=by
 have HR0:=qAA.mk hr0
 have HC0:=qAA.mk hc0
 clear hr0 hc0
 have HB:=qAA.mk (Below.refl w.heap.size w)
 have H:(if a1 < 0 then ((qAS.f k l0 (IntKind.u64.wrap ((IntKind.u64.wrap ((IntKind.u64.wrap (wrap64 (-(wrap64 (a1+1))))) * 2))+1))).bind fun t216=>(some t216)) else ((qAS.f k l0 (IntKind.u64.wrap ((IntKind.u64.wrap (a1)) * 2))).bind fun t219=>(some t219)))=some r:=h
 clear h
 by_cases c3:a1 < 0
 ·rw [if_pos c3] at H
  have c3b0:decide (a1 < 0)=true:=decide_eq_true c3
  clear c3
  replace H:=Option.bind_eq_some_iff.mp H
  obtain ⟨t216,A40,H⟩:=H
  replace H:(some t216)=some r:=H
  have A4:=qAA.mk A40
  clear A40
  obtain rfl:=Option.some.inj H
  simp only [Option.some.injEq,Prod.mk.injEq] at H
  obtain ⟨rfl⟩:=H
  go_enter Try.func47,Try.ntmps47
  go_wp2_with (first | ((with_reducible refine qBO (f:=49) rfl ?_);refine qB9 (some 14) rfl rfl Try.func49 (by kernel_rfl) rfl #[.slice A0 l0.length c0,.int .u64 (IntKind.u64.wrap ((IntKind.u64.wrap ((IntKind.u64.wrap (wrap64 (-(wrap64 (a1+1))))) * 2))+1))] rfl (by (try simp only [List.map_toArray,List.map_cons,List.map_nil]);first | done | rfl | (simp only [List.length_drop,List.length_take];rfl)) ?_;(with_reducible refine (qAS.calls k _ _ l0 (IntKind.u64.wrap ((IntKind.u64.wrap ((IntKind.u64.wrap (wrap64 (-(wrap64 (a1+1))))) * 2))+1)) t216 _ ?side1 ?side2 A4.out).mono ?_);(case side1=>repeat (first | exact HR0.out | (with_reducible refine Kd.qAs ?_ _) | (with_reducible refine Kd.qAr ?_ _) | (with_reducible refine Kd.qA0 ?_)));(case side2=>exact HC0.out);rintro e w5 ⟨v217,rfl,ho0,hb⟩;refine ⟨_,rfl, ?_⟩;have n0_:=qAA.mk (Kd.qBk ho0 (qAV (by repeat (first | (with_reducible first | exact HB.out | apply qAF | apply qAD | apply qAG) | exact HB.out))));have n1_:=qAA.mk (qAX (by repeat (first | (with_reducible first | exact HB.out | apply qAF | apply qAD | apply qAG) | exact HB.out)) hb);clear HB;have HO218:=n0_;have HB:=n1_;clear n0_ n1_;(try clear hb);(try clear hb2);(try clear hk);(try clear hi);(try clear ho0)))
  go_ret
  exact ⟨_,by first | rfl | (simp [qAa,qAZ] <;> rfl) | (simp [*,qAa,qAZ] <;> rfl),by (with_reducible repeat (first | apply Kd.qA7 | apply Kd.qBA | apply Kd.qBC));exact HO218.out,by repeat (first | (with_reducible first | exact HB.out | apply qAF | apply qAD | apply qAG) | exact HB.out)⟩
 ·rw [if_neg c3] at H
  have c3b0:decide (a1 < 0)=false:=decide_eq_false c3
  clear c3
  replace H:=Option.bind_eq_some_iff.mp H
  obtain ⟨t219,A60,H⟩:=H
  replace H:(some t219)=some r:=H
  have A6:=qAA.mk A60
  clear A60
  obtain rfl:=Option.some.inj H
  simp only [Option.some.injEq,Prod.mk.injEq] at H
  obtain ⟨rfl⟩:=H
  go_enter Try.func47,Try.ntmps47
  go_wp2_with (first | ((with_reducible refine qBO (f:=49) rfl ?_);refine qB9 (some 19) rfl rfl Try.func49 (by kernel_rfl) rfl #[.slice A0 l0.length c0,.int .u64 (IntKind.u64.wrap ((IntKind.u64.wrap (a1)) * 2))] rfl (by (try simp only [List.map_toArray,List.map_cons,List.map_nil]);first | done | rfl | (simp only [List.length_drop,List.length_take];rfl)) ?_;(with_reducible refine (qAS.calls k _ _ l0 (IntKind.u64.wrap ((IntKind.u64.wrap (a1)) * 2)) t219 _ ?side1 ?side2 A6.out).mono ?_);(case side1=>repeat (first | exact HR0.out | (with_reducible refine Kd.qAs ?_ _) | (with_reducible refine Kd.qAr ?_ _) | (with_reducible refine Kd.qA0 ?_)));(case side2=>exact HC0.out);rintro e w7 ⟨v220,rfl,ho0,hb⟩;refine ⟨_,rfl, ?_⟩;have n0_:=qAA.mk (Kd.qBk ho0 (qAV (by repeat (first | (with_reducible first | exact HB.out | apply qAF | apply qAD | apply qAG) | exact HB.out))));have n1_:=qAA.mk (qAX (by repeat (first | (with_reducible first | exact HB.out | apply qAF | apply qAD | apply qAG) | exact HB.out)) hb);clear HB;have HO221:=n0_;have HB:=n1_;clear n0_ n1_;(try clear hb);(try clear hb2);(try clear hk);(try clear hi);(try clear ho0)))
  go_ret
  exact ⟨_,by first | rfl | (simp [qAa,qAZ] <;> rfl) | (simp [*,qAa,qAZ] <;> rfl),by (with_reducible repeat (first | apply Kd.qA7 | apply Kd.qBA | apply Kd.qBC));exact HO221.out,by repeat (first | (with_reducible first | exact HB.out | apply qAF | apply qAD | apply qAG) | exact HB.out)⟩
end Go.Proofs.Ytnkbobblnhaclaa.X
