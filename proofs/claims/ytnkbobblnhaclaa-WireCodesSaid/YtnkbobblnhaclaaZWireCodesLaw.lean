/- The statement WireCodesSaid, out of the walk of the law. No condition. -/
import Derived.Test.YtnkbobblnhaclaaRows
import Derived.Test.YtnkbobblnhaclaaZWireCodes37
import Derived.Test.YtnkbobblnhaclaaZWireCodes35
import Derived.WalkKit
import Derived.ProofKit
import Derived.OpenShut
import Derived.ShutString
import Derived.ChangeOld
import Derived.Below
import Derived.SizedLaws
import Derived.Test.YtnkbobblnhaclaaZWireCodes32
import Derived.Test.YtnkbobblnhaclaaZWireCodes34
set_option linter.unusedVariables false
set_option linter.unusedSimpArgs false
namespace Go.Proofs.Ytnkbobblnhaclaa.wireCodes
open Go.ChangeShapes Go.WideShapes Go.ChangeAt Go.RowKit
open Go.ChangeMaps (open_string shut_string)
open Go.Proofs.YtnkbobblnhaclaaW Go.Proofs.YtnkbobblnhaclaaW.PrintWords
theorem own:ownKnob Try.prog.godebug=none:=by kernel_rfl
theorem laidOut:laidOutB Try.prog=true:=by kernel_rfl
set_option maxRecDepth 100000 in
theorem lifted (os:Os) (started:os.Started) (H:Type) (enc:TypeId × Value→H) :
  ReturnsInHanded {} Try.checked os 7 .any (Rows.wireCodesSpec.pre6 enc Try.prog Try.f7 Rows.wireCodesRow.domain false) (Rows.wireCodesSpec.post enc Try.prog Try.f7 false true false false):=by
 refine returnsInHanded_of_change_sized (C:=Try.checked) own started (by kernel_rfl) Try.func7
  (ChangeSpec.witness6 (enc:=enc) (C:=Try.checked) false ⟨#[],#[.agg #[.int .i64 0,.int .i64 0,.string ByteArray.empty,.slice none 0 0,.slice none 0 0],.slice none 0 0],[]⟩ 8 (by kernel_rfl) (by kernel_rfl) (by kernel_rfl) (by kernel_rfl)) ?_
 intro W base args ds gs before hval0 hW hcnd hsz0 _
 have hsz:(DataW.weightsEach Try.prog (Try.f7.params.toList ++ Rows.wireCodesSpec.plain.varTypes Try.prog) (ds ++ gs)).all (·≤reachBytes)=true:=hsz0
 have hval:∀ (j:Nat) t v,Try.f7.params[j]?=some t→args[j]?=some v→Value.okWide Try.prog W .any base t v:=hval0
 have hW':=hW
 obtain ⟨p,q,hA0,hV,rfl,hfz,hnd⟩:=hW
 have hA:DataW.TrodAll enc Try.prog W 0 (fun _=>true) true Try.f7.params.toList args.toList ds p:=hA0
 rw [Try.params7] at hA hval hsz
 obtain ⟨v0,vs0,d0,ds0,p0,q0,hargs,rfl,rfl,h0,r0⟩:=trodAll_cons hA
 obtain ⟨v1,vs1,d1,ds1,p1,q1,rfl,rfl,rfl,h1,r1⟩:=trodAll_cons r0
 obtain ⟨rfl,rfl,rfl⟩:=trodAll_nil r1
 obtain rfl:args=#[v0,v1]:=by cases args;simp_all
 obtain ⟨rfl,rfl⟩:=trodVars_none hV
 obtain ⟨cs0,rfl,_⟩:=okWide_struct Try.underlying25 (hval 0 25 v0 rfl rfl)
 have k0:=h0
 have lt0:∀ x ∈ p0,x.block < W.heap.size:=by obtain ⟨m,hm⟩:=k0;exact DataW.trod_lt m _ _ _ hm
 obtain ⟨x0,K0,V0,Z0⟩:∃ x,X.k25.K W x cs0.toList∧X.Val x∧(X.Fits Try.prog 25 d0→X.Siz x):=by
  obtain ⟨fuel,hf⟩:=h0
  exact X.val_size fuel _ _ (by simpa [Value.cells] using hf)
 have S0:X.Siz x0:=Z0 (fun n hn=>by
  have z:=List.all_eq_true.1 hsz _ (DataW.weights_mem_each (j:=0) (t:=25) rfl rfl n hn)
  have e:reachBytes=140737488351232:=by decide
  rw [e] at z
  simpa using z)
 obtain ⟨A03,c03,A04,c04,ecs0,l03,C03,l04,C04⟩:=X.k25_open K0
 obtain rfl:cs0=#[.int .i64 x0.f0,.int .i64 x0.f1,.string x0.f2,.slice A03 x0.f3.length c03,.slice A04 x0.f4.length c04]:=by cases cs0;simpa using ecs0
 obtain ⟨A1,n1,c1,rfl⟩:=okWide_slice Try.underlying26 (hval 1 26 v1 rfl rfl)
 have k1:=h1
 have lt1:∀ x ∈ p1,x.block < W.heap.size:=by obtain ⟨m,hm⟩:=k1;exact DataW.trod_lt m _ _ _ hm
 obtain ⟨xs1,en1,l1,m1,C1,g1,u1⟩:=XRow.row_open (Kd.int .u8) (fun n=>(Lit.int .u8 n).wf=true) Try.underlying26 (by kernel_rfl) (X.el_int Try.underlying5) h1
 have z1:xs1.length * 1≤140737488351232:=by rw [en1];exact XRow.row_sized hsz (j:=1) (t:=26) rfl rfl Try.underlying26 (by kernel_rfl) k1
 subst en1
 clear hA0 hval0 hsz0 hsz
 refine (X.wt.codes1 W V0 S0 C03 l03 C04 l04 C1 l1 (Pl.Bytes.of g1) (by omega)).mono fun e W' ⟨he,bel⟩ => ?_
 subst he
 exact ⟨_,rfl,_,_,_,[],_,[],hW',trodAll_mk1 (shut_bool Try.underlying4 _),(trodAll_cons_mk (Below.trod laidOut (by kernel_rfl) (of_decide_eq_true (by kernel_rfl)) k0 bel lt0) (trodAll_cons_mk (Below.trod laidOut (by kernel_rfl) (of_decide_eq_true (by kernel_rfl)) k1 bel lt1) trodAll_mk0)),rfl,bel.frame _,fun h=>by cases h⟩
theorem over:Rows.wireCodesRow.holds Try.pinned (OpenSpec.ofChange Rows.wireCodesSpec) :=
 OpenClaim.holds_of_wide 7 Try.f7 rfl rfl rfl rfl rfl rfl rfl ⟨rfl,rfl,rfl,rfl,rfl⟩ rfl rfl rfl rfl rfl (by kernel_rfl) Try.func7 (by kernel_rfl)
  (of_decide_eq_true (by kernel_rfl)) (by unfold Func.isWrapper;first | (rw [if_pos (by decide +kernel)];kernel_rfl) | (rw [if_neg (by decide +kernel)];exact ⟨rfl,rfl⟩))
  (fun os started H enc _=>lifted os started H enc)
theorem proved:Rows.WireCodesSaid:=over
#print axioms proved
end Go.Proofs.Ytnkbobblnhaclaa.wireCodes
namespace Go.Proofs.Ytnkbobblnhaclaa
theorem wireCodes_holds:Rows.WireCodesSaid:=wireCodes.proved
end Go.Proofs.Ytnkbobblnhaclaa
