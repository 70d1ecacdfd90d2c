import Derived.Test.YtdommiicjpjfpaaZStateReads3
import Derived.Test.YtdommiicjpjfpaaZStateReads4
import Derived.Test.YtdommiicjpjfpaaZStateReads19
import Derived.Test.YtdommiicjpjfpaaZStateReads17
import Derived.Test.YtdommiicjpjfpaaZStateReads11
set_option linter.unusedVariables false
set_option linter.unusedSimpArgs false
namespace Go.Proofs.Ytdommiicjpjfpaa.X
open Go.RowKit Go.Proofs.YtdommiicjpjfpaaW.PrintWords Go.Proofs.YtdommiicjpjfpaaW.PrintLast Go.Proofs.YtdommiicjpjfpaaW.PrintMore Go.Proofs.YtdommiicjpjfpaaW
attribute [local go_sem] qBE qBD qBV qBU qA6 qA5 qBJ qBI
def qBj.f (k:Nat) (b:List Int) (f0 f1:Int) (f2:ByteArray) (f3:List S34) (f4:List ByteArray):Option (List Int × Int) :=
 (qBk.f k f0 f1 f2 f3 f4).bind fun ok=>if ok=true then (qBC.f b).bind fun b=>(qAU.f k b f0 f1 f2 f3 f4).bind fun r=>some (r,0) else some ([],40)
theorem qBj.cut {P:Program} (t e:TypeId) {i:TypeInfo} (ht:P.underlying t=some (.slice e)) (hi:P.info? e=some i) (A:Option Addr) (n c:Nat) (hc:n≤c) :
  ∀ W:World,(Instr.slice t (.slice A n c) none (some (.int .i64 (n:Int))) (some (.int .i64 (n:Int)))).run P W=.ok (.slice A n n) W:=by
 intro W
 have hel:P.elem t=e:=by simp [Program.elem,ht]
 have hu:P.underlying t=some (.slice (P.elem t)):=by rw [hel];exact ht
 have ha:(A.map fun x=>x.add 0)=A:=by cases A <;> simp [Addr.add]
 rw [run_slice_hm W t A n c hu .i64 .i64 n n (by omega) (by omega) (by omega),hel]
 simp [sizeOf,typeInfo,hi,sliced,Result.andThen,ha]
set_option maxHeartbeats 4000000 in
set_option maxRecDepth 100000 in
theorem qBj.clip (A:Option Addr) (n c:Nat) (hc:n≤c) (w:World):Calls Try.prog 80 #[.slice A n c] w fun e w'=>e=.returned (.slice A n n)∧Below w.heap.size w w':=by
 have info5:(Try.prog.info? 5).map (fun i=>(i.zero,i.size,i.bytes))=some (some (.int .u8 0),1,1):=by kernel_rfl
 obtain ⟨i0,hi0,_,_,_⟩:=info_parts info5
 have hcut:=qBj.cut (P:=Try.prog) 44 5 Try.underlying44 hi0 A n c hc
 clear hi0 info5
 go_enter Try.func80,Try.ntmps80
 go_wp2
 go_ret
 exact ⟨rfl,Below.refl _ _⟩
set_option maxHeartbeats 8000000 in
set_option maxRecDepth 100000 in
theorem qBj.own (k:Nat) (A0:Option Addr) (c0:Nat) (b:List Int) (f0 f1:Int) (f2:ByteArray) (A3:Option Addr) (c3:Nat) (f3:List S34) (A4:Option Addr) (c4:Nat) (f4:List ByteArray) (r:List Int) (e0:Int) (w:World)
  (hr0:Kd.C (Kd.int .u8) w A0 b.length b) (hc0:b.length≤c0) (hr3:Kd.C k34 w A3 f3.length f3) (hc3:f3.length≤c3) (hr4:Kd.C Kd.string w A4 f4.length f4) (hc4:f4.length≤c4) (h:qBj.f k b f0 f1 f2 f3 f4=some (r,e0)) :
  Calls Try.prog 64 #[.slice A0 b.length c0,.agg #[.int .i64 f0,.int .i64 f1,.string f2,.slice A3 f3.length c3,.slice A4 f4.length c4]] w fun e w'=>∃ (A:Option Addr) (c:Nat),e=.returned (.tuple #[.slice A r.length r.length,.int .i64 e0])∧Kd.R (Kd.int .u8) 5 w' w.heap.size (fun _=>True) (.slice A r.length c) r∧Below w.heap.size w w':=by
 unfold qBj.f at h
 have hu25:=Try.underlying34
 obtain ⟨ok,hv,h⟩:=Option.bind_eq_some_iff.mp h
 have HV:=qAA.mk hv
 have HR0:=qAA.mk hr0
 have HC0:=qAA.mk hc0
 have HR3:=qAA.mk hr3
 have HC3:=qAA.mk hc3
 have HR4:=qAA.mk hr4
 have HC4:=qAA.mk hc4
 clear hv hr0 hc0 hr3 hc3 hr4 hc4
 by_cases t:ok=true
 ·subst t
  rw [if_pos rfl] at h
  obtain ⟨b2,h2,h⟩:=Option.bind_eq_some_iff.mp h
  obtain ⟨r2,h3,h⟩:=Option.bind_eq_some_iff.mp h
  simp only [Option.some.injEq,Prod.mk.injEq] at h
  obtain ⟨rfl,rfl⟩:=h
  have HCl:=qAA.mk h2
  have HP:=qAA.mk h3
  clear h2 h3
  go_enter Try.func64,Try.ntmps64
  go_wp2_with (first | ((with_reducible refine qAl (N:=3) rfl ?_);refine qAg ?hg (N:=3) ?hd (cs:=#[.int .i64 f0,.int .i64 f1,.string f2,.slice A3 f3.length c3,.slice A4 f4.length c4]) (t:=34) ?hr ?_;(case hd=>rfl);(case hg=>rfl);(case hr=>first | (go_simp;done) | (go_simp;rfl));intro gb hg w1 hbox hb1;have BK1:=qAA.mk hbox;have HB1:=qAA.mk hb1;have hz0:w1.cell? ⟨gb,0,none⟩=some (.int .i64 f0):=(qAB BK1.out 0).trans rfl;have hy0:=qAC BK1.out 0;have hz1:w1.cell? ⟨gb,1,none⟩=some (.int .i64 f1):=(qAB BK1.out 1).trans rfl;have hy1:=qAC BK1.out 1;have hz2:w1.cell? ⟨gb,2,none⟩=some (.string f2):=(qAB BK1.out 2).trans rfl;have hy2:=qAC BK1.out 2;have hz3:w1.cell? ⟨gb,3,none⟩=some (.slice A3 f3.length c3):=(qAB BK1.out 3).trans rfl;have hy3:=qAC BK1.out 3;have hz4:w1.cell? ⟨gb,4,none⟩=some (.slice A4 f4.length c4):=(qAB BK1.out 4).trans rfl;have hy4:=qAC BK1.out 4;clear hb1 hbox hg) | (go_at_call 51;refine (qBk.calls k f0 f1 f2 A3 c3 f3 A4 c4 f4 true _ ?s1 HC3.out ?s2 HC4.out HV.out).mono ?_;(case s1=>exact Kd.qAc HR3.out HB1.out);(case s2=>exact Kd.qAc HR4.out HB1.out);rintro e w2 ⟨rfl,hb2⟩;have HB2:=qAA.mk (qAO HB1.out hb2);have BK2:=qAA.mk (qAX BK1.out hb2);clear hb2))
  refine qAz (n:=7) (S:=fun w'=>w'.cell? ⟨gb,0,none⟩=some (.int .i64 f0)∧w'.cell? ⟨gb,1,none⟩=some (.int .i64 f1)∧w'.cell? ⟨gb,2,none⟩=some (.string f2)∧w'.cell? ⟨gb,3,none⟩=some (.slice A3 f3.length c3)∧w'.cell? ⟨gb,4,none⟩=some (.slice A4 f4.length c4)) (ds:=[]) #[qF,qF,qF,qF,qF,qF,qF] (by kernel_rfl) rfl rfl ⟨(qAB BK2.out 0).trans rfl,(qAB BK2.out 1).trans rfl,(qAB BK2.out 2).trans rfl,(qAB BK2.out 3).trans rfl,(qAB BK2.out 4).trans rfl⟩ (fun hHeld => ?_)
  generalize hwd:w2.drew=wd at hHeld ⊢
  have HB:=qAA.mk (hwd▸(qAK HB2.out))
  have BK:=qAA.mk (hwd▸qAL BK2.out)
  clear hwd
  refine pU 0 9 ?_
  refine tK 2 11 hHeld ?_
  refine one_ (i:=1) (N:=some 10) #[qT,qT,qT,qF,qF,qF,qF] rfl rfl (by kernel_rfl) (by decide) (fun K hK => ?_)
  refine qBZ Try.func82 (by kernel_rfl) rfl #[.slice A0 b.length c0] (by rfl) rfl rfl (by (try simp only [List.map_toArray,List.map_cons,List.map_nil]);first | done | rfl) ?_
  refine (qBC.calls A0 c0 b b2 wd (Kd.qAc HR0.out HB.out) HC0.out HCl.out).mono ?_
  rintro e w3 ⟨v3,rfl,ho3,hb3⟩
  refine ⟨_,rfl, ?_⟩
  have HO3:=qAA.mk ho3
  have HW3:=qAA.mk hb3
  have BK3:=qAA.mk (qAX BK.out hb3)
  clear ho3 hb3
  refine hK.out _ _ ⟨(qAB BK3.out 0).trans rfl,(qAB BK3.out 1).trans rfl,(qAB BK3.out 2).trans rfl,(qAB BK3.out 3).trans rfl,(qAB BK3.out 4).trans rfl⟩ (fun hHeld => ?_)
  clear hK K
  refine qA3 (a' := ?_) ?_ ?_
  rotate_left
  ·show Act.put _ (some 10) _=_
   simp only [Act.put,qs1,qs2,qs3,qAZ,qAb]
   rfl
  refine one_ (i:=3) (N:=some 12) #[qT,qT,qT,qT,qF,qF,qF] rfl rfl (by kernel_rfl) (by decide) (fun K hK => ?_)
  refine qBZ Try.func81 (by kernel_rfl) rfl #[v3,.agg #[.int .i64 f0,.int .i64 f1,.string f2,.slice A3 f3.length c3,.slice A4 f4.length c4]] (by rfl) rfl rfl (by (try simp only [List.map_toArray,List.map_cons,List.map_nil]);first | done | rfl) ?_
  refine (qAU.wcalls wd k v3 b2 f0 f1 f2 A3 c3 f3 A4 c4 f4 r2 w3 HO3.out HW3.out (Kd.qAc HR3.out HB.out) HC3.out (Kd.qAc HR4.out HB.out) HC4.out HP.out).mono ?_
  rintro e w4 ⟨v4,rfl,ho4⟩
  refine ⟨_,rfl, ?_⟩
  have HO4:=qAA.mk ho4.own
  have HB4:=qAA.mk (qAO HB.out ho4.bel)
  have BK4:=qAA.mk (qAX BK.out ho4.bel)
  clear ho4
  refine hK.out _ _ ⟨(qAB BK4.out 0).trans rfl,(qAB BK4.out 1).trans rfl,(qAB BK4.out 2).trans rfl,(qAB BK4.out 3).trans rfl,(qAB BK4.out 4).trans rfl⟩ (fun hHeld => ?_)
  clear hK K
  refine qA3 (a' := ?_) ?_ ?_
  rotate_left
  ·show Act.put _ (some 12) _=_
   simp only [Act.put,qs1,qs2,qs3,qAZ,qAb]
   rfl
  refine one_ (i:=4) (N:=some 13) #[qT,qT,qT,qT,qT,qF,qF] rfl rfl (by kernel_rfl) (by decide) (fun K hK => ?_)
  obtain ⟨A5,c5,e5⟩:=Kd.qA0 HO4.out
  subst e5
  refine qBZ Try.func80 (by kernel_rfl) rfl #[.slice A5 r2.length c5] (by rfl) rfl rfl (by (try simp only [List.map_toArray,List.map_cons,List.map_nil]);first | done | rfl) ?_
  refine (qBj.clip A5 r2.length c5 (Kd.R_reads' HO4.out).2.1 w4).mono ?_
  rintro e w5 ⟨rfl,hb5⟩
  refine ⟨_,rfl, ?_⟩
  have HO5:=qAA.mk (Kd.qAp HO4.out hb5)
  have HB5:=qAA.mk (qAO HB4.out hb5)
  have BK5:=qAA.mk (qAX BK4.out hb5)
  clear hb5
  refine hK.out _ _ ⟨(qAB BK5.out 0).trans rfl,(qAB BK5.out 1).trans rfl,(qAB BK5.out 2).trans rfl,(qAB BK5.out 3).trans rfl,(qAB BK5.out 4).trans rfl⟩ (fun hHeld => ?_)
  clear hK K
  refine qA3 (a' := ?_) ?_ ?_
  rotate_left
  ·show Act.put _ (some 13) _=_
   simp only [Act.put,qs1,qs2,qs3,qAZ,qAb]
   rfl
  refine pU 5 4 ?_
  refine pU 6 5 ?_
  refine qBL (by kernel_rfl) ?_
  try go_wp2
  go_ret2
  exact ⟨A5,c5,rfl,Kd.qB6 HO5.out HB.out.size,HB5.out⟩
 ·obtain rfl:ok=false:=by simpa using t
  rw [if_neg t] at h
  simp only [Option.some.injEq,Prod.mk.injEq] at h
  obtain ⟨rfl,rfl⟩:=h
  go_enter Try.func64,Try.ntmps64
  go_wp2_with (first | ((with_reducible refine qAl (N:=3) rfl ?_);refine qAg ?hg (N:=3) ?hd (cs:=#[.int .i64 f0,.int .i64 f1,.string f2,.slice A3 f3.length c3,.slice A4 f4.length c4]) (t:=34) ?hr ?_;(case hd=>rfl);(case hg=>rfl);(case hr=>first | (go_simp;done) | (go_simp;rfl));intro gb hg w1 hbox hb1;have BK1:=qAA.mk hbox;have HB1:=qAA.mk hb1;have hz0:w1.cell? ⟨gb,0,none⟩=some (.int .i64 f0):=(qAB BK1.out 0).trans rfl;have hy0:=qAC BK1.out 0;have hz1:w1.cell? ⟨gb,1,none⟩=some (.int .i64 f1):=(qAB BK1.out 1).trans rfl;have hy1:=qAC BK1.out 1;have hz2:w1.cell? ⟨gb,2,none⟩=some (.string f2):=(qAB BK1.out 2).trans rfl;have hy2:=qAC BK1.out 2;have hz3:w1.cell? ⟨gb,3,none⟩=some (.slice A3 f3.length c3):=(qAB BK1.out 3).trans rfl;have hy3:=qAC BK1.out 3;have hz4:w1.cell? ⟨gb,4,none⟩=some (.slice A4 f4.length c4):=(qAB BK1.out 4).trans rfl;have hy4:=qAC BK1.out 4;clear hb1 hbox hg) | (go_at_call 51;refine (qBk.calls k f0 f1 f2 A3 c3 f3 A4 c4 f4 false _ ?s1 HC3.out ?s2 HC4.out HV.out).mono ?_;(case s1=>exact Kd.qAc HR3.out HB1.out);(case s2=>exact Kd.qAc HR4.out HB1.out);rintro e w2 ⟨rfl,hb2⟩;have HB2:=qAA.mk (qAO HB1.out hb2);clear hb2))
  go_ret2
  exact ⟨none,0,rfl,Kd.qA7 (Kd.int .u8) 5 _ w.heap.size (fun _=>True),HB2.out⟩
theorem qBj.tight (k:Nat) (A0:Option Addr) (c0:Nat) (b:List Int) (f0 f1:Int) (f2:ByteArray) (A3:Option Addr) (c3:Nat) (f3:List S34) (A4:Option Addr) (c4:Nat) (f4:List ByteArray) (r:List Int) (e0:Int) (w:World)
  (hr0:Kd.C (Kd.int .u8) w A0 b.length b) (hc0:b.length≤c0) (hr3:Kd.C k34 w A3 f3.length f3) (hc3:f3.length≤c3) (hr4:Kd.C Kd.string w A4 f4.length f4) (hc4:f4.length≤c4) (h:qBj.f k b f0 f1 f2 f3 f4=some (r,e0)) :
  Calls Try.prog 64 #[.slice A0 b.length c0,.agg #[.int .i64 f0,.int .i64 f1,.string f2,.slice A3 f3.length c3,.slice A4 f4.length c4]] w fun e w'=>∃ (A:Option Addr) (c:Nat),e=.returned (.tuple #[.slice A r.length c,.int .i64 e0])∧Kd.C (Kd.int .u8) w' A r.length r∧c=r.length∧Below w.heap.size w w'∧∀ ad,A=some ad→w.heap.size≤ad.block:=by
 refine (qBj.own k A0 c0 b f0 f1 f2 A3 c3 f3 A4 c4 f4 r e0 w hr0 hc0 hr3 hc3 hr4 hc4 h).mono ?_
 rintro e w' ⟨A,c,rfl,h1,h2⟩
 exact ⟨A,r.length,rfl,(Kd.R_reads' h1).2.2,rfl,h2,fun ad e_=>Kd.R_base h1 ad.block (by rw [e_];rfl)⟩
theorem qBj.calls (k:Nat) (A0:Option Addr) (c0:Nat) (b:List Int) (f0 f1:Int) (f2:ByteArray) (A3:Option Addr) (c3:Nat) (f3:List S34) (A4:Option Addr) (c4:Nat) (f4:List ByteArray) (r:List Int) (e0:Int) (w:World)
  (hr0:Kd.C (Kd.int .u8) w A0 b.length b) (hc0:b.length≤c0) (hr3:Kd.C k34 w A3 f3.length f3) (hc3:f3.length≤c3) (hr4:Kd.C Kd.string w A4 f4.length f4) (hc4:f4.length≤c4) (h:qBj.f k b f0 f1 f2 f3 f4=some (r,e0)) :
  Calls Try.prog 64 #[.slice A0 b.length c0,.agg #[.int .i64 f0,.int .i64 f1,.string f2,.slice A3 f3.length c3,.slice A4 f4.length c4]] w fun e w'=>∃ (A:Option Addr) (c:Nat),e=.returned (.tuple #[.slice A r.length c,.int .i64 e0])∧Kd.C (Kd.int .u8) w' A r.length r∧r.length≤c∧Below w.heap.size w w' :=
 (qBj.tight k A0 c0 b f0 f1 f2 A3 c3 f3 A4 c4 f4 r e0 w hr0 hc0 hr3 hc3 hr4 hc4 h).mono fun e w' ⟨A,c,h1,h2,h3,h4,_⟩=>⟨A,c,h1,h2,Nat.le_of_eq h3.symm,h4⟩
end Go.Proofs.Ytdommiicjpjfpaa.X
