/- The statement StateReadsSaid, out of the walk of the law. No condition. -/
import Derived.Test.YtdommiicjpjfpaaRows
import Derived.Test.YtdommiicjpjfpaaZStateReads40
import Derived.WalkKit
import Derived.ProofKit
import Derived.OpenShut
import Derived.ShutString
import Derived.ChangeOld
import Derived.Below
import Derived.SizedLaws
import Derived.Test.YtdommiicjpjfpaaZStateReads29
import Derived.Test.YtdommiicjpjfpaaZStateReads30
set_option linter.unusedVariables false
set_option linter.unusedSimpArgs false
namespace Go.Proofs.Ytdommiicjpjfpaa.stateReads
open Go.ChangeShapes Go.WideShapes Go.ChangeAt Go.RowKit
open Go.ChangeMaps (open_string shut_string)
open Go.Proofs.YtdommiicjpjfpaaW Go.Proofs.YtdommiicjpjfpaaW.PrintWords
theorem own:ownKnob Try.prog.godebug=none:=by kernel_rfl
theorem laidOut:laidOutB Try.prog=true:=by kernel_rfl
set_option maxRecDepth 100000 in
theorem lifted (os:Os) (started:os.Started) (H:Type) (enc:TypeId × Value→H) :
  ReturnsInHanded {} Try.checked os 6 .any (Rows.stateReadsSpec.pre6 enc Try.prog Try.f6 Rows.stateReadsRow.domain false) (Rows.stateReadsSpec.post enc Try.prog Try.f6 false true false false):=by
 refine returnsInHanded_of_change_sized (C:=Try.checked) own started (by kernel_rfl) Try.func6
  (ChangeSpec.witness6 (enc:=enc) (C:=Try.checked) false ⟨#[],#[.slice none 0 0],[]⟩ 8 (by kernel_rfl) (by kernel_rfl) (by kernel_rfl) (by kernel_rfl)) ?_
 intro W base args ds gs before hval0 hW hcnd hsz0 _
 have hsz:(DataW.weightsEach Try.prog (Try.f6.params.toList ++ Rows.stateReadsSpec.plain.varTypes Try.prog) (ds ++ gs)).all (·≤reachBytes)=true:=hsz0
 have hval:∀ (j:Nat) t v,Try.f6.params[j]?=some t→args[j]?=some v→Value.okWide Try.prog W .any base t v:=hval0
 have hW':=hW
 obtain ⟨p,q,hA0,hV,rfl,hfz,hnd⟩:=hW
 have hA:DataW.TrodAll enc Try.prog W 0 (fun _=>true) true Try.f6.params.toList args.toList ds p:=hA0
 rw [Try.params6] at hA hval hsz
 obtain ⟨v0,vs0,d0,ds0,p0,q0,hargs,rfl,rfl,h0,r0⟩:=trodAll_cons hA
 obtain ⟨rfl,rfl,rfl⟩:=trodAll_nil r0
 obtain rfl:args=#[v0]:=by cases args;simp_all
 obtain ⟨rfl,rfl⟩:=trodVars_none hV
 obtain ⟨A0,n0,c0,rfl⟩:=okWide_slice Try.underlying44 (hval 0 44 v0 rfl rfl)
 have k0:=h0
 have lt0:∀ x ∈ p0,x.block < W.heap.size:=by obtain ⟨m,hm⟩:=k0;exact DataW.trod_lt m _ _ _ hm
 obtain ⟨xs0,en0,l0,m0,C0,g0,u0⟩:=XRow.row_open (Kd.int .u8) (fun n=>(Lit.int .u8 n).wf=true) Try.underlying44 (by kernel_rfl) (X.el_int Try.underlying5) h0
 have z0:xs0.length * 1≤140737488351232:=by rw [en0];exact XRow.row_sized hsz (j:=0) (t:=44) rfl rfl Try.underlying44 (by kernel_rfl) k0
 subst en0
 clear hA0 hval0 hsz0 hsz
 refine (X.sa.reads6 (Pl.Bytes.of g0) (by omega) C0 l0).mono fun e W' ⟨he,bel⟩ => ?_
 subst he
 exact ⟨_,rfl,_,_,_,[],_,[],hW',trodAll_mk1 (shut_bool Try.underlying4 _),(trodAll_cons_mk (Below.trod laidOut (by kernel_rfl) (of_decide_eq_true (by kernel_rfl)) k0 bel lt0) trodAll_mk0),rfl,bel.frame _,fun h=>by cases h⟩
theorem over:Rows.stateReadsRow.holds Try.pinned (OpenSpec.ofChange Rows.stateReadsSpec) :=
 OpenClaim.holds_of_wide 6 Try.f6 rfl rfl rfl rfl rfl rfl rfl ⟨rfl,rfl,rfl,rfl,rfl⟩ rfl rfl rfl rfl rfl (by kernel_rfl) Try.func6 (by kernel_rfl)
  (of_decide_eq_true (by kernel_rfl)) (by unfold Func.isWrapper;first | (rw [if_pos (by decide +kernel)];kernel_rfl) | (rw [if_neg (by decide +kernel)];exact ⟨rfl,rfl⟩))
  (fun os started H enc _=>lifted os started H enc)
theorem proved:Rows.StateReadsSaid:=over
#print axioms proved
end Go.Proofs.Ytdommiicjpjfpaa.stateReads
namespace Go.Proofs.Ytdommiicjpjfpaa
theorem stateReads_holds:Rows.StateReadsSaid:=stateReads.proved
end Go.Proofs.Ytdommiicjpjfpaa
