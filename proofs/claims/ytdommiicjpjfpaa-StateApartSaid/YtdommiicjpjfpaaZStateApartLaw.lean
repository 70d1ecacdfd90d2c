/- The statement StateApartSaid, out of the walk of the law. No condition. -/
import Derived.Test.YtdommiicjpjfpaaRows
import Derived.Test.YtdommiicjpjfpaaZStateApart30
import Derived.WalkKit
import Derived.ProofKit
import Derived.OpenShut
import Derived.ShutString
import Derived.ChangeOld
import Derived.Below
import Derived.SizedLaws
import Derived.Test.YtdommiicjpjfpaaZStateApart25
import Derived.Test.YtdommiicjpjfpaaZStateApart26
set_option linter.unusedVariables false
set_option linter.unusedSimpArgs false
namespace Go.Proofs.Ytdommiicjpjfpaa.stateApart
open Go.ChangeShapes Go.WideShapes Go.ChangeAt Go.RowKit
open Go.ChangeMaps (open_string shut_string)
open Go.Proofs.YtdommiicjpjfpaaW Go.Proofs.YtdommiicjpjfpaaW.PrintWords
theorem own:ownKnob Try.prog.godebug=none:=by kernel_rfl
theorem laidOut:laidOutB Try.prog=true:=by kernel_rfl
set_option maxRecDepth 100000 in
theorem lifted (os:Os) (started:os.Started) (H:Type) (enc:TypeId × Value→H) :
  ReturnsInHanded {} Try.checked os 8 .any (Rows.stateApartSpec.pre6 enc Try.prog Try.f8 Rows.stateApartRow.domain false) (Rows.stateApartSpec.post enc Try.prog Try.f8 false true false false):=by
 refine returnsInHanded_of_change_sized (C:=Try.checked) own started (by kernel_rfl) Try.func8
  (ChangeSpec.witness6 (enc:=enc) (C:=Try.checked) false ⟨#[],#[.slice none 0 0,.slice none 0 0],[]⟩ 8 (by kernel_rfl) (by kernel_rfl) (by kernel_rfl) (by kernel_rfl)) ?_
 intro W base args ds gs before hval0 hW hcnd hsz0 _
 have hsz:(DataW.weightsEach Try.prog (Try.f8.params.toList ++ Rows.stateApartSpec.plain.varTypes Try.prog) (ds ++ gs)).all (·≤reachBytes)=true:=hsz0
 have hval:∀ (j:Nat) t v,Try.f8.params[j]?=some t→args[j]?=some v→Value.okWide Try.prog W .any base t v:=hval0
 have hW':=hW
 obtain ⟨p,q,hA0,hV,rfl,hfz,hnd⟩:=hW
 have hA:DataW.TrodAll enc Try.prog W 0 (fun _=>true) true Try.f8.params.toList args.toList ds p:=hA0
 rw [Try.params8] at hA hval hsz
 obtain ⟨v0,vs0,d0,ds0,p0,q0,hargs,rfl,rfl,h0,r0⟩:=trodAll_cons hA
 obtain ⟨v1,vs1,d1,ds1,p1,q1,rfl,rfl,rfl,h1,r1⟩:=trodAll_cons r0
 obtain ⟨rfl,rfl,rfl⟩:=trodAll_nil r1
 obtain rfl:args=#[v0,v1]:=by cases args;simp_all
 obtain ⟨rfl,rfl⟩:=trodVars_none hV
 obtain ⟨A0,n0,c0,rfl⟩:=okWide_slice Try.underlying22 (hval 0 22 v0 rfl rfl)
 have k0:=h0
 have lt0:∀ x ∈ p0,x.block < W.heap.size:=by obtain ⟨m,hm⟩:=k0;exact DataW.trod_lt m _ _ _ hm
 obtain ⟨xs0,en0,l0,C0,V0,Z0,u0⟩:=X.sa.rowE_open h0
 obtain ⟨S0,z0⟩:=Z0 (fun n hn=>by
  have z:=List.all_eq_true.1 hsz _ (DataW.weights_mem_each (j:=0) (t:=22) rfl rfl n hn)
  have e:reachBytes=140737488351232:=by decide
  rw [e] at z
  simpa using z)
 subst en0
 obtain ⟨A1,n1,c1,rfl⟩:=okWide_slice Try.underlying22 (hval 1 22 v1 rfl rfl)
 have k1:=h1
 have lt1:∀ x ∈ p1,x.block < W.heap.size:=by obtain ⟨m,hm⟩:=k1;exact DataW.trod_lt m _ _ _ hm
 obtain ⟨xs1,en1,l1,C1,V1,Z1,u1⟩:=X.sa.rowE_open h1
 obtain ⟨S1,z1⟩:=Z1 (fun n hn=>by
  have z:=List.all_eq_true.1 hsz _ (DataW.weights_mem_each (j:=1) (t:=22) rfl rfl n hn)
  have e:reachBytes=140737488351232:=by decide
  rw [e] at z
  simpa using z)
 subst en1
 clear hA0 hval0 hsz0 hsz
 refine (X.sa.apart8 C0 l0 (fun x hx=>⟨V0 x hx,(S0 x hx).2⟩) (fun x hx=>(S0 x hx).1) (by omega) C1 l1 (fun x hx=>⟨V1 x hx,(S1 x hx).2⟩) (by omega)).mono fun e W' ⟨he,bel⟩ => ?_
 subst he
 exact ⟨_,rfl,_,_,_,[],_,[],hW',trodAll_mk1 (shut_bool Try.underlying4 _),(trodAll_cons_mk (Below.trod laidOut (by kernel_rfl) (of_decide_eq_true (by kernel_rfl)) k0 bel lt0) (trodAll_cons_mk (Below.trod laidOut (by kernel_rfl) (of_decide_eq_true (by kernel_rfl)) k1 bel lt1) trodAll_mk0)),rfl,bel.frame _,fun h=>by cases h⟩
theorem over:Rows.stateApartRow.holds Try.pinned (OpenSpec.ofChange Rows.stateApartSpec) :=
 OpenClaim.holds_of_wide 8 Try.f8 rfl rfl rfl rfl rfl rfl rfl ⟨rfl,rfl,rfl,rfl,rfl⟩ rfl rfl rfl rfl rfl (by kernel_rfl) Try.func8 (by kernel_rfl)
  (of_decide_eq_true (by kernel_rfl)) (by unfold Func.isWrapper;first | (rw [if_pos (by decide +kernel)];kernel_rfl) | (rw [if_neg (by decide +kernel)];exact ⟨rfl,rfl⟩))
  (fun os started H enc _=>lifted os started H enc)
theorem proved:Rows.StateApartSaid:=over
#print axioms proved
end Go.Proofs.Ytdommiicjpjfpaa.stateApart
namespace Go.Proofs.Ytdommiicjpjfpaa
theorem stateApart_holds:Rows.StateApartSaid:=stateApart.proved
end Go.Proofs.Ytdommiicjpjfpaa
