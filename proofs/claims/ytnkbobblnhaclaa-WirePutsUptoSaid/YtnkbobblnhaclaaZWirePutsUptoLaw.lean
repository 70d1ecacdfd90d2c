/- The statement WirePutsUptoSaid, out of the walk of the law. No condition. -/
import Derived.Test.YtnkbobblnhaclaaRows
import Derived.WalkKit
import Derived.ProofKit
import Derived.OpenShut
import Derived.ShutString
import Derived.ChangeOld
import Derived.Below
import Derived.SizedLaws
import Derived.Deep.CondSized
import Derived.Test.YtnkbobblnhaclaaZWirePutsUpto39
import Derived.Test.YtnkbobblnhaclaaZWirePutsUpto35
import Derived.Test.YtnkbobblnhaclaaZWirePutsUpto36
set_option linter.unusedVariables false
set_option linter.unusedSimpArgs false
namespace Go.Proofs.Ytnkbobblnhaclaa.wirePutsUp
open Go.ChangeShapes Go.WideShapes Go.ChangeAt Go.RowKit
open Go.ChangeMaps (open_string shut_string)
open Go.Proofs.YtnkbobblnhaclaaW Go.Proofs.YtnkbobblnhaclaaW.PrintWords
theorem own:ownKnob Try.prog.godebug=none:=by kernel_rfl
theorem laidOut:laidOutB Try.prog=true:=by kernel_rfl
set_option maxRecDepth 100000 in
theorem lifted (os:Os) (started:os.Started) (H:Type) (enc:TypeId × Value→H) (F:Stop.Interp) :
  ReturnsInHanded {} Try.checked os 4 .any ((Rows.OpenSpec.upto Rows.wirePutsSpec).pre6 enc Try.prog Try.f4 Rows.wirePutsUptoRow.domain false) (((Rows.OpenSpec.upto Rows.wirePutsSpec).at F).post enc Try.prog Try.f4 false true false false):=by
 refine returnsInHanded_of_cond_sized (C:=Try.checked) (s:=(Rows.OpenSpec.upto Rows.wirePutsSpec)) (k:=Rows.uptoSmall) rfl own started (by kernel_rfl) Try.func4
  (OpenSpec.witness (enc:=enc) (C:=Try.checked) (s:=(Rows.OpenSpec.upto Rows.wirePutsSpec)) (k:=Rows.uptoSmall) rfl false ⟨#[],#[.slice none 0 0,.slice none 0 0],[]⟩ 8 (by kernel_rfl) (by kernel_rfl) (by kernel_rfl) (x:=([.nil,.nil],[],[])) (by kernel_rfl) rfl (by kernel_rfl)) ?_
 intro W base args ds gs before hval0 hW hcnd hk0 hsz0 _
 have hsz:(DataW.weightsEach Try.prog (Try.f4.params.toList ++ Rows.wirePutsSpec.plain.varTypes Try.prog) (ds ++ gs)).all (·≤reachBytes)=true:=hsz0
 have hval:∀ (j:Nat) t v,Try.f4.params[j]?=some t→args[j]?=some v→Value.okWide Try.prog W .any base t v:=hval0
 have hW':=hW
 obtain ⟨p,q,hA0,hV,rfl,hfz,hnd⟩:=hW
 have hA:DataW.TrodAll enc Try.prog W 0 (fun _=>true) true Try.f4.params.toList args.toList ds p:=hA0
 rw [Try.params4] at hA hval hsz
 obtain ⟨v0,vs0,d0,ds0,p0,q0,hargs,rfl,rfl,h0,r0⟩:=trodAll_cons hA
 obtain ⟨v1,vs1,d1,ds1,p1,q1,rfl,rfl,rfl,h1,r1⟩:=trodAll_cons r0
 obtain ⟨rfl,rfl,rfl⟩:=trodAll_nil r1
 obtain rfl:args=#[v0,v1]:=by cases args;simp_all
 obtain ⟨rfl,rfl⟩:=trodVars_none hV
 obtain ⟨A0,n0,c0,rfl⟩:=okWide_slice Try.underlying26 (hval 0 26 v0 rfl rfl)
 have k0:=h0
 have lt0:∀ x ∈ p0,x.block < W.heap.size:=by obtain ⟨m,hm⟩:=k0;exact DataW.trod_lt m _ _ _ hm
 obtain ⟨xs0,en0,l0,m0,C0,g0,u0⟩:=XRow.row_open (Kd.int .u8) (fun n=>(Lit.int .u8 n).wf=true) Try.underlying26 (by kernel_rfl) (X.el_int Try.underlying5) h0
 have z0:xs0.length * 1≤140737488351232:=by rw [en0];exact XRow.row_sized hsz (j:=0) (t:=26) rfl rfl Try.underlying26 (by kernel_rfl) k0
 subst en0
 obtain ⟨A1,n1,c1,rfl⟩:=okWide_slice Try.underlying22 (hval 1 22 v1 rfl rfl)
 have k1:=h1
 have lt1:∀ x ∈ p1,x.block < W.heap.size:=by obtain ⟨m,hm⟩:=k1;exact DataW.trod_lt m _ _ _ hm
 obtain ⟨xs1,en1,l1,C1,V1,Z1,u1⟩:=X.wt.rowV_open h1
 have S1:∀ x ∈ xs1,X.Siz x:=Z1 (fun n hn=>by
  have z:=List.all_eq_true.1 hsz _ (DataW.weights_mem_each (j:=1) (t:=22) rfl rfl n hn)
  have e:reachBytes=140737488351232:=by decide
  rw [e] at z
  simpa using z)
 subst en1
 have B:xs0.length+xs1.length≤1048576:=by
  have z:=XUp.bound hk0
  simp only [List.append_nil,Rows.uptoBulkAll] at z
  omega
 have b0:xs0.length≤1048576:=by omega
 have b1:xs1.length≤1048576:=by omega
 clear hA0 hval0 hsz0 hsz hk0
 refine (X.wt.puts1 W C0 l0 b0 C1 l1 (fun x hx=>⟨V1 x hx,S1 x hx⟩) b1).mono fun e W' ⟨he,bel⟩ => ?_
 subst he
 exact ⟨_,rfl,_,_,_,[],_,[],hW',trodAll_mk1 (shut_bool Try.underlying4 _),(trodAll_cons_mk (Below.trod laidOut (by kernel_rfl) (of_decide_eq_true (by kernel_rfl)) k0 bel lt0) (trodAll_cons_mk (Below.trod laidOut (by kernel_rfl) (of_decide_eq_true (by kernel_rfl)) k1 bel lt1) trodAll_mk0)),rfl,bel.frame _,fun h=>by cases h⟩
theorem over:Rows.wirePutsUptoRow.holds Try.pinned (Rows.OpenSpec.upto Rows.wirePutsSpec) :=
 OpenClaim.holds_of_cond 4 Try.f4 rfl rfl rfl rfl rfl rfl rfl ⟨rfl,rfl,rfl,rfl,rfl⟩ rfl rfl rfl rfl rfl (by kernel_rfl) Try.func4 (by kernel_rfl)
  (of_decide_eq_true (by kernel_rfl)) (by unfold Func.isWrapper;first | (rw [if_pos (by decide +kernel)];kernel_rfl) | (rw [if_neg (by decide +kernel)];exact ⟨rfl,rfl⟩))
  (fun os started H enc _ F=>lifted os started H enc F)
theorem proved:Rows.WirePutsUptoSaid:=over
#print axioms proved
end Go.Proofs.Ytnkbobblnhaclaa.wirePutsUp
namespace Go.Proofs.Ytnkbobblnhaclaa
theorem wirePutsUpto_holds:Rows.WirePutsUptoSaid:=wirePutsUp.proved
end Go.Proofs.Ytnkbobblnhaclaa
