import Derived.Test.YtdommiicjpjfpaaZStateReads3
import Derived.Lib.SliceRun
set_option linter.unusedVariables false
set_option linter.unusedSimpArgs false
namespace Go.Proofs.Ytdommiicjpjfpaa.X
open Go.RowKit Go.Proofs.YtdommiicjpjfpaaW.PrintWords Go.Proofs.YtdommiicjpjfpaaW.PrintLast Go.Proofs.YtdommiicjpjfpaaW.PrintMore Go.Proofs.YtdommiicjpjfpaaW
attribute [local go_sem] qBE qBD qBV qBU qA6 qA5 qBJ qBI
def qBC.f (l0:List Int):Option (List Int):=if l0.length < 140737488355328 then some l0 else none
set_option maxHeartbeats 4000000 in
set_option maxRecDepth 100000 in
theorem qBC.calls (A0:Option Addr) (c0:Nat) (l0:List Int) (r:List Int) (w:World) (hr0:Kd.C (Kd.int .u8) w A0 l0.length l0) (hc0:l0.length≤c0) (h:qBC.f l0=some r) :
  Calls Try.prog 82 #[.slice A0 l0.length c0] w fun e w'=>∃ v0_:Value,e=.returned (v0_)∧Kd.R (Kd.int .u8) 5 w' w.heap.size (fun _=>True) v0_ r∧Below w.heap.size w w':=by
 unfold qBC.f at h
 by_cases hl:l0.length < 140737488355328
 case neg=>rw [if_neg hl] at h;cases h
 rw [if_pos hl] at h
 obtain rfl:=Option.some.inj h
 clear h
 have HR0:=qAA.mk hr0
 have HC0:=qAA.mk hc0
 have HL:=qAA.mk hl
 clear hr0 hc0 hl
 have hE:∀ w':World,(binOp .eql 44 (.slice A0 l0.length c0) (.slice none 0 0)).run Try.prog w'=.ok (.bool A0.isNone) w':=fun w'=>Lib.run_eql_slice_nil w' _ _ _ _ _ _ _ Try.underlying44
 rcases A0 with _ | ad
 ·have e0:l0=[]:=by
   have:=HR0.out
   cases l0 with
   | nil=>rfl
   | cons a l=>obtain ⟨ad,h1,_⟩:=this.2.2 (by simp);cases h1
  subst e0
  have hE0:∀ w':World,(binOp .eql 44 (.slice none 0 c0) (.slice none 0 0)).run Try.prog w'=.ok (.bool true) w':=hE
  go_enter Try.func82,Try.ntmps82
  go_wp2
  go_ret
  exact ⟨_,rfl,Kd.qA7 _ _ _ _ _,Below.refl _ _⟩
 ·have hE0:∀ w':World,(binOp .eql 44 (.slice (some ad) l0.length c0) (.slice none 0 0)).run Try.prog w'=.ok (.bool false) w':=hE
  have info5:(Try.prog.info? 5).map (fun i=>(i.zero,i.size,i.bytes))=some (some (.int .u8 0),1,1):=by kernel_rfl
  go_enter Try.func82,Try.ntmps82
  go_wp2_with (first | ((with_reducible refine qAl (N:=5) rfl ?_);refine Kd.R_lit (Kd.int .u8) (w0:=w) w.heap.size 5 ?hg (N:=5) ?hd (xs:=([]:List Int)) (inner:=[]) (ok:=fun _=>True) (okp:=fun _=>True) ?hr ?hp (fun _ hk=>hk) trivial (Below.refl _ _) (Nat.le_refl _) (by simp) ?_;(case hd=>rfl);(case hg=>rfl);(case hr=>first | (go_simp;done) | (go_simp;rfl));(case hp=>exact Reps.none _ _);intro v1 w1 ho hb hg_ hnew_;have HO:=qAA.mk ho;have HB:=qAA.mk hb;clear ho hb hg_ hnew_) | (at_builtin;refine Kd.R_append_rows (Kd.int .u8) (w0:=w) w.heap.size rfl (.tmp 5) (.tmp 6) 44 5 (.int .u8 0) 1 rfl Try.underlying44 info5 rfl (by decide) (by omega) v1 ([]:List Int) l0 _ _ _ (fun _=>True) (fun _=>False) rfl rfl ?aO ?aR (fun _ _ h=>h) (fun _ h=>h.elim) ?aF ?aB ?aS ?aL ?_;(case aR=>exact Kd.qAc HR0.out HB.out);(case aB=>exact HB.out);(case aF=>exact (fun _ _=>trivial));(case aO=>exact HO.out);(case aS=>exact HB.out.size);(case aL=>have:=HL.out;simp;omega);intro v2 w2 ho hb hg hat;have HO2:=qAA.mk ho;have HB2:=qAA.mk hb;clear ho hb hg hat))
  go_ret
  exact ⟨_,rfl,by simpa using HO2.out,HB2.out⟩
end Go.Proofs.Ytdommiicjpjfpaa.X
