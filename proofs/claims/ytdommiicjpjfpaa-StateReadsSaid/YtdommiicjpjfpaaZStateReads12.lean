import Derived.Test.YtdommiicjpjfpaaZStateReads3
set_option linter.unusedVariables false
set_option linter.unusedSimpArgs false
namespace Go.Proofs.Ytdommiicjpjfpaa.X
open Go.RowKit Go.Proofs.YtdommiicjpjfpaaW.PrintWords Go.Proofs.YtdommiicjpjfpaaW.PrintLast Go.Proofs.YtdommiicjpjfpaaW.PrintMore Go.Proofs.YtdommiicjpjfpaaW
attribute [local go_sem] qBE qBD qBV qBU qA6 qA5 qBJ qBI
def qAj.b (f0 f1:Int) (f2:ByteArray) (n3 n4:Nat):Bool :=
 if f0=0 then (f1 == 0) && ((f2.toList == []) && (wrap64 ((n3:Int)+(n4:Int)) == 0))
 else if f0=1 then ((f1 == 0) || (f1 == 1)) && ((f2.toList == []) && (wrap64 ((n3:Int)+(n4:Int)) == 0))
 else if f0=2 then (f2.toList == []) && (wrap64 ((n3:Int)+(n4:Int)) == 0)
 else if f0=3 then (f1 == 0) && (wrap64 ((n3:Int)+(n4:Int)) == 0)
 else if f0=4 then (f1 == 0) && ((f2.toList == []) && ((n4:Int) == 0))
 else if f0=5 then ((n4:Int) == (n3:Int)) && ((f1 == 0) && (f2.toList == []))
 else false
def qAj.f (a0_0:Int) (a0_1:Int) (a0_2:ByteArray) (l0_3:List (S34)) (l0_4:List ByteArray):Option (Bool):=some (qAj.b a0_0 a0_1 a0_2 l0_3.length l0_4.length)
set_option maxHeartbeats 4000000 in
set_option maxRecDepth 100000 in
theorem qAj.calls (a0_0:Int) (a0_1:Int) (a0_2:ByteArray) (A0_3:Option Addr) (c0_3:Nat) (l0_3:List (S34)) (A0_4:Option Addr) (c0_4:Nat) (l0_4:List ByteArray) (r:Bool) (w:World) (hr0_3:Kd.C k34 w A0_3 l0_3.length l0_3) (hc0_3:l0_3.length≤c0_3) (hr0_4:Kd.C Kd.string w A0_4 l0_4.length l0_4) (hc0_4:l0_4.length≤c0_4) (h:qAj.f a0_0 a0_1 a0_2 l0_3 l0_4=some r) :
  Calls Try.prog 97 #[.agg #[.int .i64 a0_0,.int .i64 a0_1,.string a0_2,.slice A0_3 l0_3.length c0_3,.slice A0_4 l0_4.length c0_4]] w fun e w'=>e=.returned (.bool r)∧Below w.heap.size w w':=by
 have hu25:=Try.underlying34
 obtain rfl:qAj.b a0_0 a0_1 a0_2 l0_3.length l0_4.length=r:=Option.some.inj h
 clear h
 have hm3:=Kd.C_max hr0_3
 have hm4:=Kd.C_max hr0_4
 generalize l0_3.length=n3 at *
 generalize l0_4.length=n4 at *
 clear hr0_3 hc0_3 hr0_4 hc0_4
 by_cases k0:a0_0=0
 ·subst k0
  go_enter Try.func97,Try.ntmps97
  go_wp2
  all_goals (go_ret;exact ⟨by simp_all [qAj.b],by repeat (first | exact Below.refl _ _ | (refine Below.setCell ?_ (by simp) _) | (refine Below.alloc ?_ (by simp <;> omega) _))⟩)
 by_cases k1:a0_0=1
 ·subst k1
  by_cases n0:a0_1=0
  ·subst n0
   go_enter Try.func97,Try.ntmps97
   go_wp2
   all_goals (go_ret;exact ⟨by simp_all [qAj.b],by repeat (first | exact Below.refl _ _ | (refine Below.setCell ?_ (by simp) _) | (refine Below.alloc ?_ (by simp <;> omega) _))⟩)
  by_cases n1:a0_1=1
  ·subst n1
   go_enter Try.func97,Try.ntmps97
   go_wp2
   all_goals (go_ret;exact ⟨by simp_all [qAj.b],by repeat (first | exact Below.refl _ _ | (refine Below.setCell ?_ (by simp) _) | (refine Below.alloc ?_ (by simp <;> omega) _))⟩)
  ·go_enter Try.func97,Try.ntmps97
   go_wp2
   all_goals (go_ret;exact ⟨by simp_all [qAj.b],by repeat (first | exact Below.refl _ _ | (refine Below.setCell ?_ (by simp) _) | (refine Below.alloc ?_ (by simp <;> omega) _))⟩)
 by_cases k2:a0_0=2
 ·subst k2
  go_enter Try.func97,Try.ntmps97
  go_wp2
  all_goals (go_ret;exact ⟨by simp_all [qAj.b],by repeat (first | exact Below.refl _ _ | (refine Below.setCell ?_ (by simp) _) | (refine Below.alloc ?_ (by simp <;> omega) _))⟩)
 by_cases k3:a0_0=3
 ·subst k3
  go_enter Try.func97,Try.ntmps97
  go_wp2
  all_goals (go_ret;exact ⟨by simp_all [qAj.b],by repeat (first | exact Below.refl _ _ | (refine Below.setCell ?_ (by simp) _) | (refine Below.alloc ?_ (by simp <;> omega) _))⟩)
 by_cases k4:a0_0=4
 ·subst k4
  go_enter Try.func97,Try.ntmps97
  go_wp2
  all_goals (go_ret;exact ⟨by simp_all [qAj.b],by repeat (first | exact Below.refl _ _ | (refine Below.setCell ?_ (by simp) _) | (refine Below.alloc ?_ (by simp <;> omega) _))⟩)
 by_cases k5:a0_0=5
 ·subst k5
  go_enter Try.func97,Try.ntmps97
  go_wp2
  all_goals (go_ret;exact ⟨by simp_all [qAj.b],by repeat (first | exact Below.refl _ _ | (refine Below.setCell ?_ (by simp) _) | (refine Below.alloc ?_ (by simp <;> omega) _))⟩)
 go_enter Try.func97,Try.ntmps97
 go_wp2
 all_goals (go_ret;exact ⟨by simp_all [qAj.b],by repeat (first | exact Below.refl _ _ | (refine Below.setCell ?_ (by simp) _) | (refine Below.alloc ?_ (by simp <;> omega) _))⟩)
end Go.Proofs.Ytdommiicjpjfpaa.X
