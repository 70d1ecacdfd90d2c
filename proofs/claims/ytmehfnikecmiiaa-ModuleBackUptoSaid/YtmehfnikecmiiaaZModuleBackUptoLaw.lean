/- The statement ModuleBackUptoSaid, out of the walk of the law. No condition. -/
import Derived.Test.YtmehfnikecmiiaaRows
import Derived.Test.YtmehfnikecmiiaaZModuleBackUpto32
import Derived.Test.YtmehfnikecmiiaaZModuleBackUpto29
import Derived.WalkKit
import Derived.ProofKit
import Derived.OpenShut
import Derived.ShutString
import Derived.ChangeOld
import Derived.Below
import Derived.SizedLaws
import Derived.Deep.CondSized
import Derived.Test.YtmehfnikecmiiaaZModuleBackUpto26
import Derived.Test.YtmehfnikecmiiaaZModuleBackUpto28
set_option linter.unusedVariables false
set_option linter.unusedSimpArgs false
namespace Go.Proofs.Ytmehfnikecmiiaa.moduleBackUp
open Go.ChangeShapes Go.WideShapes Go.ChangeAt Go.RowKit
open Go.ChangeMaps (open_string shut_string)
open Go.Proofs.YtmehfnikecmiiaaW Go.Proofs.YtmehfnikecmiiaaW.PrintWords
theorem own:ownKnob Try.prog.godebug=none:=by kernel_rfl
theorem laidOut:laidOutB Try.prog=true:=by kernel_rfl
set_option maxRecDepth 100000 in
theorem lifted (os:Os) (started:os.Started) (H:Type) (enc:TypeId × Value→H) (F:Stop.Interp) :
  ReturnsInHanded {} Try.checked os 8 .any ((Rows.OpenSpec.upto Rows.moduleBackSpec).pre6 enc Try.prog Try.f8 Rows.moduleBackUptoRow.domain false) (((Rows.OpenSpec.upto Rows.moduleBackSpec).at F).post enc Try.prog Try.f8 false true false false):=by
 refine returnsInHanded_of_cond_sized (C:=Try.checked) (s:=(Rows.OpenSpec.upto Rows.moduleBackSpec)) (k:=Rows.uptoSmall) rfl own started (by kernel_rfl) Try.func8
  (OpenSpec.witness (enc:=enc) (C:=Try.checked) (s:=(Rows.OpenSpec.upto Rows.moduleBackSpec)) (k:=Rows.uptoSmall) rfl false ⟨#[],#[.agg #[.slice none 0 0,.slice none 0 0,.slice none 0 0],.slice none 0 0,.int .i64 0],[]⟩ 8 (by kernel_rfl) (by kernel_rfl) (by kernel_rfl) (x:=([.agg [.nil,.nil,.nil],.nil,.lit (.int .i64 0)],[],[])) (by kernel_rfl) rfl (by kernel_rfl)) ?_
 intro W base args ds gs before hval0 hW hcnd hk0 hsz0 _
 have hsz:(DataW.weightsEach Try.prog (Try.f8.params.toList ++ Rows.moduleBackSpec.plain.varTypes Try.prog) (ds ++ gs)).all (·≤reachBytes)=true:=hsz0
 have hval:∀ (j:Nat) t v,Try.f8.params[j]?=some t→args[j]?=some v→Value.okWide Try.prog W .any base t v:=hval0
 have hW':=hW
 obtain ⟨p,q,hA0,hV,rfl,hfz,hnd⟩:=hW
 have hA:DataW.TrodAll enc Try.prog W 0 (fun _=>true) true Try.f8.params.toList args.toList ds p:=hA0
 rw [Try.params8] at hA hval hsz
 obtain ⟨v0,vs0,d0,ds0,p0,q0,hargs,rfl,rfl,h0,r0⟩:=trodAll_cons hA
 obtain ⟨v1,vs1,d1,ds1,p1,q1,rfl,rfl,rfl,h1,r1⟩:=trodAll_cons r0
 obtain ⟨v2,vs2,d2,ds2,p2,q2,rfl,rfl,rfl,h2,r2⟩:=trodAll_cons r1
 obtain ⟨rfl,rfl,rfl⟩:=trodAll_nil r2
 obtain rfl:args=#[v0,v1,v2]:=by cases args;simp_all
 obtain ⟨rfl,rfl⟩:=trodVars_none hV
 obtain ⟨cs0,rfl,_⟩:=okWide_struct Try.underlying27 (hval 0 27 v0 rfl rfl)
 have k0:=h0
 have lt0:∀ x ∈ p0,x.block < W.heap.size:=by obtain ⟨m,hm⟩:=k0;exact DataW.trod_lt m _ _ _ hm
 obtain ⟨m00,m01,m02,A00,A01,A02,c00,c01,c02,ecs0,⟨l00,n00,C00,V0⟩,⟨l01,n01,C01⟩,⟨l02,n02,C02⟩,Z0⟩:=(show ∃ (m0:List X.S48) (m1:List X.S52) (m2:List X.S56) (A0 A1 A2:Option Addr) (c0 c1 c2:Nat),cs0.toList=[.slice A0 m0.length c0,.slice A1 m1.length c1,.slice A2 m2.length c2]∧(m0.length≤c0∧m0.length≤9223372036854775807∧X.k48.C W A0 m0.length m0∧∀ x ∈ m0,X.Val x)∧(m1.length≤c1∧m1.length≤9223372036854775807∧X.k52.C W A1 m1.length m1)∧(m2.length≤c2∧m2.length≤9223372036854775807∧X.k56.C W A2 m2.length m2)∧(X.Fits Try.prog 27 d0→(∀ x ∈ m0,X.Siz x)∧(∀ x ∈ m2,x.f0.size≤140737488351232)∧m0.length * 80≤140737488351232∧m1.length * 40≤140737488351232∧m2.length * 24≤140737488351232) by
  obtain ⟨fuel,hf⟩:=h0
  exact X.mod_size fuel _ _ (by simpa [Value.cells] using hf))
 obtain ⟨S0,T0,z00,z01,z02⟩:=Z0 (fun n hn=>by
  have z:=List.all_eq_true.1 hsz _ (DataW.weights_mem_each (j:=0) (t:=27) rfl rfl n hn)
  have e:reachBytes=140737488351232:=by decide
  rw [e] at z
  simpa using z)
 obtain rfl:cs0=#[.slice A00 m00.length c00,.slice A01 m01.length c01,.slice A02 m02.length c02]:=by cases cs0;simpa using ecs0
 obtain ⟨A1,n1,c1,rfl⟩:=okWide_slice Try.underlying29 (hval 1 29 v1 rfl rfl)
 have k1:=h1
 have lt1:∀ x ∈ p1,x.block < W.heap.size:=by obtain ⟨m,hm⟩:=k1;exact DataW.trod_lt m _ _ _ hm
 obtain ⟨xs1,en1,l1,m1,C1,g1,u1⟩:=XRow.row_open (Kd.int .u8) (fun n=>(Lit.int .u8 n).wf=true) Try.underlying29 (by kernel_rfl) (X.el_int Try.underlying5) h1
 have z1:xs1.length * 1≤140737488351232:=by rw [en1];exact XRow.row_sized hsz (j:=1) (t:=29) rfl rfl Try.underlying29 (by kernel_rfl) k1
 subst en1
 obtain ⟨a2,rfl,rfl,rfl,w2⟩:=open_int Try.underlying3 (hval 2 3 v2 rfl rfl) h2
 have B:0+xs1.length+0≤1048576:=by
  have z:=XUp.bound hk0
  simp only [List.append_nil,Rows.uptoBulkAll] at z
  omega
 have b0:0≤1048576:=by omega
 have b1:xs1.length≤1048576:=by omega
 have b2:0≤1048576:=by omega
 clear hA0 hval0 hsz0 hsz hk0
 refine (X.mb.back8 a2 W C00 l00 C01 l01 C02 l02 V0 T0 S0 (by omega) (by omega) (by omega) C1 l1 (Pl.Bytes.of g1) b1).mono fun e W' ⟨he,bel⟩ => ?_
 subst he
 exact ⟨_,rfl,_,_,_,[],_,[],hW',trodAll_mk1 (shut_bool Try.underlying4 _),(trodAll_cons_mk (Below.trod laidOut (by kernel_rfl) (of_decide_eq_true (by kernel_rfl)) k0 bel lt0) (trodAll_cons_mk (Below.trod laidOut (by kernel_rfl) (of_decide_eq_true (by kernel_rfl)) k1 bel lt1) (trodAll_cons_mk (shut_int Try.underlying3 w2) trodAll_mk0))),rfl,bel.frame _,fun h=>by cases h⟩
theorem over:Rows.moduleBackUptoRow.holds Try.pinned (Rows.OpenSpec.upto Rows.moduleBackSpec) :=
 OpenClaim.holds_of_cond 8 Try.f8 rfl rfl rfl rfl rfl rfl rfl ⟨rfl,rfl,rfl,rfl,rfl⟩ rfl rfl rfl rfl rfl (by kernel_rfl) Try.func8 (by kernel_rfl)
  (of_decide_eq_true (by kernel_rfl)) (by unfold Func.isWrapper;first | (rw [if_pos (by decide +kernel)];kernel_rfl) | (rw [if_neg (by decide +kernel)];exact ⟨rfl,rfl⟩))
  (fun os started H enc _ F=>lifted os started H enc F)
theorem proved:Rows.ModuleBackUptoSaid:=over
#print axioms proved
end Go.Proofs.Ytmehfnikecmiiaa.moduleBackUp
namespace Go.Proofs.Ytmehfnikecmiiaa
theorem moduleBackUpto_holds:Rows.ModuleBackUptoSaid:=moduleBackUp.proved
end Go.Proofs.Ytmehfnikecmiiaa
