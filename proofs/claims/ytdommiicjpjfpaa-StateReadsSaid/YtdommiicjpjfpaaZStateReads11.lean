import Derived.Test.YtdommiicjpjfpaaZStateReads3
import Derived.Test.YtdommiicjpjfpaaZStateReads4
import Derived.Test.YtdommiicjpjfpaaZStateReads9
import Derived.Test.YtdommiicjpjfpaaZStateReads10
import Derived.Test.YtdommiicjpjfpaaZStateReads8
set_option linter.unusedVariables false
set_option linter.unusedSimpArgs false
namespace Go.Proofs.Ytdommiicjpjfpaa.X
open Go.RowKit Go.Proofs.YtdommiicjpjfpaaW.PrintWords Go.Proofs.YtdommiicjpjfpaaW.PrintLast Go.Proofs.YtdommiicjpjfpaaW.PrintMore Go.Proofs.YtdommiicjpjfpaaW
attribute [local go_sem] qBE qBD qBV qBU qA6 qA5 qBJ qBI
def qAU.app (b:List Int) (x:Int):Option (List Int):=if b.length+1≤140737488355328 then some (b ++ [x]) else none
mutual
def qAU.w:Nat→List Int→Int→Int→ByteArray→List (S34)→List ByteArray→Option (List Int)
 | 0,_,_,_,_,_,_=>none
 | k+1,b,f0,f1,f2,f3,f4 =>
  if f0=1 then qAU.app b (IntKind.u8.wrap (wrap64 (1+f1)))
  else if f0=2 then (qAU.app b 3).bind fun b=>qBy.f k b f1
  else if f0=3 then (qAU.app b 4).bind fun b=>qBT.f k b f2
  else if f0=4 then (qAU.app b 5).bind fun b=>(qAt.f k b (IntKind.u64.wrap (f3.length:Int))).bind fun b=>qAU.la k b f3 0
  else if f0=5 then (qAU.app b 6).bind fun b=>(qAt.f k b (IntKind.u64.wrap (f3.length:Int))).bind fun b=>qAU.lr k b f3 f4 0
  else qAU.app b 0
def qAU.la:Nat→List Int→List (S34)→Int→Option (List Int)
 | 0,_,_,_=>none
 | k+1,b,f3,i =>
  if i < (f3.length:Int) then
   if 0≤i then (qAU.w k b (qAR f3 i).f0 (qAR f3 i).f1 (qAR f3 i).f2 (qAR f3 i).f3 (qAR f3 i).f4).bind fun b=>qAU.la k b f3 (wrap64 (i+1))
   else none
  else some b
def qAU.lr:Nat→List Int→List (S34)→List ByteArray→Int→Option (List Int)
 | 0,_,_,_,_=>none
 | k+1,b,f3,f4,i =>
  if i < (f3.length:Int) then
   if 0≤i then
   if i < (f4.length:Int) then
    (qBT.f k b (rdOf ByteArray.empty f4 i)).bind fun b=>(qAU.w k b (qAR f3 i).f0 (qAR f3 i).f1 (qAR f3 i).f2 (qAR f3 i).f3 (qAR f3 i).f4).bind fun b=>qAU.lr k b f3 f4 (wrap64 (i+1))
   else none
   else none
  else some b
end
def qAU.f:=qAU.w
theorem qAU.app_some {b r:List Int} {x:Int} (h:qAU.app b x=some r):b.length+1≤140737488355328∧r=b ++ [x]:=by
 unfold qAU.app at h
 by_cases hl:b.length+1≤140737488355328
 ·rw [if_pos hl] at h
  exact ⟨hl,(Option.some.inj h).symm⟩
 ·rw [if_neg hl] at h;cases h
def qAU.Fr (w w':World):Prop:=∀ (g:Nat) (cs:Array Value),w.heap[g]?=some (.cells cs 34 (0,0))→w'.heap[g]?=some (.cells cs 34 (0,0))
theorem qAU.Fr.refl (w:World):qAU.Fr w w:=fun _ _ h=>h
theorem qAU.Fr.trans {w w1 w2:World} (h:qAU.Fr w w1) (k:qAU.Fr w1 w2):qAU.Fr w w2:=fun g cs hg=>k g cs (h g cs hg)
theorem qAU.Fr.drew {w w1:World} (h:qAU.Fr w w1):qAU.Fr w w1.drew:=fun g cs hg=>qAL (h g cs hg)
theorem qAU.Fr.of_below {w w1:World} (h:Below w.heap.size w w1):qAU.Fr w w1:=fun _ _ hg=>qAX hg h
theorem qAU.Fr.qCN {w w1:World} {base:Nat} {ok:Nat→Prop} {v:Value} {xs:List Int} (h:Kd.R (Kd.int .u8) 5 w base ok v xs) (hg:w.grownBy w1 v.ownBlock):qAU.Fr w w1:=fun _ _ hc=>qA1 hc hg (Kd.R_away (Kd.R_types h hc (by decide)) (fun _ hk=>hk.2))
theorem qAU.named {F:World→Prop} (w:World) (o:Obj) (h:∀ w1 g,g=w.heap.size→w1.heap[g]?=some o→Below w.heap.size w w1→F w1):F (w.alloc o):=h _ _ rfl (qB5 w o) (qAE (Below.refl _ _) o)
structure qAU.Out (w0 w w':World) (v':Value) (r:List Int):Prop where
 own:Kd.R (Kd.int .u8) 5 w' w0.heap.size (fun _=>True) v' r
 bel:Below w0.heap.size w0 w'
 fr:qAU.Fr w w'
set_option maxHeartbeats 16000000 in
set_option maxRecDepth 100000 in
theorem qAU.wcalls (w0:World) (k:Nat) :
  ∀ (v:Value) (b:List Int) (f0 f1:Int) (f2:ByteArray) (A3:Option Addr) (c3:Nat) (f3:List S34) (A4:Option Addr) (c4:Nat) (f4:List ByteArray) (r:List Int) (w:World)
   (ho:Kd.R (Kd.int .u8) 5 w w0.heap.size (fun _=>True) v b) (hb:Below w0.heap.size w0 w)
   (hr3:Kd.C k34 w0 A3 f3.length f3) (hc3:f3.length≤c3) (hr4:Kd.C Kd.string w0 A4 f4.length f4) (hc4:f4.length≤c4)
   (h:qAU.w k b f0 f1 f2 f3 f4=some r),
  Calls Try.prog 81 #[v,.agg #[.int .i64 f0,.int .i64 f1,.string f2,.slice A3 f3.length c3,.slice A4 f4.length c4]] w
   fun e w'=>∃ v':Value,e=.returned v'∧qAU.Out w0 w w' v' r:=by
 induction k using Nat.strongRecOn with
 | _ k ih =>
 intro v b f0 f1 f2 A3 c3 f3 A4 c4 f4 r w ho hb hr3 hc3 hr4 hc4 h
 cases k with
 | zero=>exact absurd h (by simp [qAU.w])
 | succ k =>
 simp only [qAU.w] at h
 have HO0:=qAA.mk ho
 have HB0:=qAA.mk hb
 have HR3:=qAA.mk hr3
 have HC3:=qAA.mk hc3
 have HR4:=qAA.mk hr4
 have HC4:=qAA.mk hc4
 have hu25:=Try.underlying34
 have info5:(Try.prog.info? 5).map (fun i=>(i.zero,i.size,i.bytes))=some (some (.int .u8 0),1,1):=by kernel_rfl
 clear ho hb hr3 hc3 hr4 hc4
 by_cases k1:f0=1
 ·subst k1
  rw [if_pos rfl] at h
  obtain ⟨hl,rfl⟩:=qAU.app_some h
  have HL:=qAA.mk hl
  clear h hl
  go_enter Try.func81,Try.ntmps81
  go_wp2_with (first | ((with_reducible refine qAl (N:=3) rfl ?_);refine qAg ?hg (N:=3) ?hd (cs:=#[.int .i64 1,.int .i64 f1,.string f2,.slice A3 f3.length c3,.slice A4 f4.length c4]) (t:=34) ?hr ?_;(case hd=>rfl);(case hg=>rfl);(case hr=>first | (go_simp;done) | (go_simp;rfl));intro gb hg w1 hbox hb1;have BK1:=qAA.mk hbox;have HO1:=qAA.mk (Kd.R_types (Kd.qAp HO0.out hb1) hbox (by decide));have HB1:=qAA.mk (qBP HB0.out HB0.out.size hb1);have FR1:=qAA.mk (qAU.Fr.of_below hb1);have hz0:w1.cell? ⟨gb,0,none⟩=some (.int .i64 1):=(qAB BK1.out 0).trans rfl;have hy0:=qAC BK1.out 0;have hz1:w1.cell? ⟨gb,1,none⟩=some (.int .i64 f1):=(qAB BK1.out 1).trans rfl;have hy1:=qAC BK1.out 1;clear hb1 hbox hg) | (at_builtin;refine Kd.qCY (Kd.int .u8) (w0:=w0) w0.heap.size rfl (.tmp 13) (.tmp 18) 44 5 (.int .u8 0) 1 rfl Try.underlying44 info5 rfl (by decide) (by omega) v b (IntKind.u8.wrap (wrap64 (1+f1))) [.int .u8 (IntKind.u8.wrap (wrap64 (1+f1)))] (fun k_=>True∧k_ ≠ gb) (fun _=>False) rfl rfl rfl (fun _ h=>h.elim) ?aF ?aO ?aB ?aS ?aL ?_;(case aF=>exact fun k_ hk=>⟨trivial,Kd.freshB BK1.out k_ hk⟩);(case aO=>exact HO1.out);(case aB=>exact HB1.out);(case aS=>exact HB1.out.size);(case aL=>have:=HL.out;omega);intro v2 w2 ho2 hb2 hg2 hat2;have HO2:=qAA.mk ho2;have HB2:=qAA.mk hb2;have FR2:=qAA.mk (qAU.Fr.trans FR1.out (qAU.Fr.qCN HO1.out hg2));clear ho2 hb2 hg2 hat2))
  all_goals go_ret
  all_goals exact ⟨v2,rfl,⟨Kd.qBi HO2.out (fun _ _=>trivial),HB2.out,FR2.out⟩⟩
 rw [if_neg k1] at h
 have k1b:(f0 == 1)=false:=by simpa using k1
 by_cases k2:f0=2
 ·subst k2
  rw [if_pos rfl] at h
  obtain ⟨b2,h2,h⟩:=Option.bind_eq_some_iff.mp h
  obtain ⟨hl,rfl⟩:=qAU.app_some h2
  have HL:=qAA.mk hl
  have HP:=qAA.mk h
  clear h h2 hl k1b
  generalize hb3:r=b3 at *
  clear hb3
  go_enter Try.func81,Try.ntmps81
  go_wp2_with (first | ((with_reducible refine qAl (N:=3) rfl ?_);refine qAg ?hg (N:=3) ?hd (cs:=#[.int .i64 2,.int .i64 f1,.string f2,.slice A3 f3.length c3,.slice A4 f4.length c4]) (t:=34) ?hr ?_;(case hd=>rfl);(case hg=>rfl);(case hr=>first | (go_simp;done) | (go_simp;rfl));intro gb hg w1 hbox hb1;have BK1:=qAA.mk hbox;have HO1:=qAA.mk (Kd.R_types (Kd.qAp HO0.out hb1) hbox (by decide));have HB1:=qAA.mk (qBP HB0.out HB0.out.size hb1);have FR1:=qAA.mk (qAU.Fr.of_below hb1);have hz0:w1.cell? ⟨gb,0,none⟩=some (.int .i64 2):=(qAB BK1.out 0).trans rfl;have hy0:=qAC BK1.out 0;have hz1:w1.cell? ⟨gb,1,none⟩=some (.int .i64 f1):=(qAB BK1.out 1).trans rfl;have hy1:=qAC BK1.out 1;clear hb1 hbox hg))
  refine qAz (n:=7) (S:=fun w'=>w'.cell? ⟨gb,1,none⟩=some (.int .i64 f1)) (ds:=[]) #[qF,qF,qF,qF,qF,qF,qF] (by kernel_rfl) rfl rfl ((qAB BK1.out 1).trans rfl) (fun hHeld => ?_)
  generalize hwd:w1.drew=wd at hHeld ⊢
  have HO:=qAA.mk (hwd▸Kd.qBB HO1.out)
  have HB:=qAA.mk (hwd▸(qAK HB1.out))
  have BK:=qAA.mk (hwd▸qAL BK1.out)
  have FR:=qAA.mk (hwd▸qAU.Fr.drew FR1.out)
  clear hwd
  refine pU 0 22 ?_
  refine pU 3 25 ?_
  refine tK 4 26 hHeld ?_
  refine one_ (i:=1) (N:=some 23) #[qT,qT,qF,qT,qT,qF,qF] rfl rfl (by kernel_rfl) (by decide) (fun K hK => ?_)
  refine qCL (w1 := ?_) (v := ?_) (by rfl) rfl ?_ ?_
  rotate_left 2
  ·go_simp
   constructor
   ·rfl
   ·rfl
  refine hK.out _ _ ((qAB (qAP BK.out _) 1).trans rfl) (fun hHeld => ?_)
  clear hK K
  refine qA3 (a' := ?_) ?_ ?_
  rotate_left
  ·show Act.put _ (some 23) _=_
   simp only [Act.put,qs1,qs2,qs3,qAZ,qAb]
   rfl
  refine one_ (i:=2) (N:=some 24) #[qT,qT,qT,qT,qT,qF,qF] rfl rfl (by kernel_rfl) (by decide) (fun K hK => ?_)
  refine Kd.qBO (Kd.int .u8) (w0:=w0) w0.heap.size (by rfl) (.tmp 22) (.tmp 23) 44 5 (.int .u8 0) 1 rfl Try.underlying44 info5 rfl (by decide) (by omega) v b 3 [.int .u8 3] (fun k_=>True∧k_ ≠ gb) (fun _=>False) rfl rfl rfl (fun _ h=>h.elim) ?aF ?aO ?aB ?aS ?aL ?_
  (case aF=>exact fun k_ hk=>⟨trivial,Kd.freshB BK.out k_ hk⟩)
  (case aO=>exact HO.out)
  (case aB=>exact HB.out)
  (case aS=>exact HB.out.size)
  (case aL=>have:=HL.out;omega)
  intro v2 w2 ho2 hb2 hg2 hat2
  have BK2:=qAA.mk (qA1 BK.out hg2 (Kd.R_away HO.out (fun _ hk=>hk.2)))
  have FR2:=qAA.mk (qAU.Fr.trans FR.out (qAU.Fr.qCN HO.out hg2))
  have HO2:=qAA.mk ho2
  have HB2:=qAA.mk hb2
  clear ho2 hb2 hg2 hat2
  refine hK.out _ _ ((qAB BK2.out 1).trans rfl) (fun hHeld => ?_)
  clear hK K
  refine qA3 (a' := ?_) ?_ ?_
  rotate_left
  ·show Act.put _ (some 24) _=_
   simp only [Act.put,qs1,qs2,qs3,qAZ,qAb]
   rfl
  refine one_ (i:=5) (N:=some 27) #[qT,qT,qT,qT,qT,qT,qF] rfl rfl (by kernel_rfl) (by decide) (fun K hK => ?_)
  obtain ⟨A2,c2,e2⟩:=Kd.qA0 HO2.out
  subst e2
  refine qBZ Try.func95 (by kernel_rfl) rfl #[.slice A2 (b ++ [3]).length c2,.int .i64 f1] (by rfl) rfl rfl (by (try simp only [List.map_toArray,List.map_cons,List.map_nil]);first | done | rfl) ?_
  refine (qBy.calls k A2 c2 (b ++ [3]) f1 b3 w2 (Kd.R_reads' HO2.out).2.2 (Kd.R_reads' HO2.out).2.1 HP.out).mono ?_
  rintro e w3 ⟨v3,rfl,ho3,hb3⟩
  refine ⟨_,rfl, ?_⟩
  have HO3:=qAA.mk (Kd.qB6 ho3 HB2.out.size)
  have HB3:=qAA.mk (qBP HB2.out HB2.out.size hb3)
  have FR3:=qAA.mk (qAU.Fr.trans FR2.out (qAU.Fr.of_below hb3))
  have BK3:=qAA.mk (qAX BK2.out hb3)
  clear ho3 hb3
  refine hK.out _ _ ((qAB BK3.out 1).trans rfl) (fun hHeld => ?_)
  clear hK K
  refine qA3 (a' := ?_) ?_ ?_
  rotate_left
  ·show Act.put _ (some 27) _=_
   simp only [Act.put,qs1,qs2,qs3,qAZ,qAb]
   rfl
  refine pU 6 4 ?_
  refine qBL (by kernel_rfl) ?_
  try go_wp2
  all_goals go_ret
  all_goals exact ⟨v3,rfl,⟨Kd.qBi HO3.out (fun _ _=>trivial),HB3.out,FR3.out⟩⟩
 rw [if_neg k2] at h
 have k2b:(f0 == 2)=false:=by simpa using k2
 by_cases k3:f0=3
 ·subst k3
  rw [if_pos rfl] at h
  obtain ⟨b2,h2,h⟩:=Option.bind_eq_some_iff.mp h
  obtain ⟨hl,rfl⟩:=qAU.app_some h2
  have HL:=qAA.mk hl
  have HP:=qAA.mk h
  clear h h2 hl k1b k2b
  generalize hb3:r=b3 at *
  clear hb3
  go_enter Try.func81,Try.ntmps81
  go_wp2_with (first | ((with_reducible refine qAl (N:=3) rfl ?_);refine qAg ?hg (N:=3) ?hd (cs:=#[.int .i64 3,.int .i64 f1,.string f2,.slice A3 f3.length c3,.slice A4 f4.length c4]) (t:=34) ?hr ?_;(case hd=>rfl);(case hg=>rfl);(case hr=>first | (go_simp;done) | (go_simp;rfl));intro gb hg w1 hbox hb1;have BK1:=qAA.mk hbox;have HO1:=qAA.mk (Kd.R_types (Kd.qAp HO0.out hb1) hbox (by decide));have HB1:=qAA.mk (qBP HB0.out HB0.out.size hb1);have FR1:=qAA.mk (qAU.Fr.of_below hb1);have hz0:w1.cell? ⟨gb,0,none⟩=some (.int .i64 3):=(qAB BK1.out 0).trans rfl;have hy0:=qAC BK1.out 0;have hz1:w1.cell? ⟨gb,1,none⟩=some (.int .i64 f1):=(qAB BK1.out 1).trans rfl;have hy1:=qAC BK1.out 1;clear hb1 hbox hg))
  refine qAz (n:=7) (S:=fun w'=>w'.cell? ⟨gb,2,none⟩=some (.string f2)) (ds:=[]) #[qF,qF,qF,qF,qF,qF,qF] (by kernel_rfl) rfl rfl ((qAB BK1.out 2).trans rfl) (fun hHeld => ?_)
  generalize hwd:w1.drew=wd at hHeld ⊢
  have HO:=qAA.mk (hwd▸Kd.qBB HO1.out)
  have HB:=qAA.mk (hwd▸(qAK HB1.out))
  have BK:=qAA.mk (hwd▸qAL BK1.out)
  have FR:=qAA.mk (hwd▸qAU.Fr.drew FR1.out)
  clear hwd
  refine pU 0 30 ?_
  refine pU 3 33 ?_
  refine tK 4 34 hHeld ?_
  refine one_ (i:=1) (N:=some 31) #[qT,qT,qF,qT,qT,qF,qF] rfl rfl (by kernel_rfl) (by decide) (fun K hK => ?_)
  refine qCL (w1 := ?_) (v := ?_) (by rfl) rfl ?_ ?_
  rotate_left 2
  ·go_simp
   constructor
   ·rfl
   ·rfl
  refine hK.out _ _ ((qAB (qAP BK.out _) 2).trans rfl) (fun hHeld => ?_)
  clear hK K
  refine qA3 (a' := ?_) ?_ ?_
  rotate_left
  ·show Act.put _ (some 31) _=_
   simp only [Act.put,qs1,qs2,qs3,qAZ,qAb]
   rfl
  refine one_ (i:=2) (N:=some 32) #[qT,qT,qT,qT,qT,qF,qF] rfl rfl (by kernel_rfl) (by decide) (fun K hK => ?_)
  refine Kd.qBO (Kd.int .u8) (w0:=w0) w0.heap.size (by rfl) (.tmp 30) (.tmp 31) 44 5 (.int .u8 0) 1 rfl Try.underlying44 info5 rfl (by decide) (by omega) v b 4 [.int .u8 4] (fun k_=>True∧k_ ≠ gb) (fun _=>False) rfl rfl rfl (fun _ h=>h.elim) ?aF ?aO ?aB ?aS ?aL ?_
  (case aF=>exact fun k_ hk=>⟨trivial,Kd.freshB BK.out k_ hk⟩)
  (case aO=>exact HO.out)
  (case aB=>exact HB.out)
  (case aS=>exact HB.out.size)
  (case aL=>have:=HL.out;omega)
  intro v2 w2 ho2 hb2 hg2 hat2
  have BK2:=qAA.mk (qA1 BK.out hg2 (Kd.R_away HO.out (fun _ hk=>hk.2)))
  have FR2:=qAA.mk (qAU.Fr.trans FR.out (qAU.Fr.qCN HO.out hg2))
  have HO2:=qAA.mk ho2
  have HB2:=qAA.mk hb2
  clear ho2 hb2 hg2 hat2
  refine hK.out _ _ ((qAB BK2.out 2).trans rfl) (fun hHeld => ?_)
  clear hK K
  refine qA3 (a' := ?_) ?_ ?_
  rotate_left
  ·show Act.put _ (some 32) _=_
   simp only [Act.put,qs1,qs2,qs3,qAZ,qAb]
   rfl
  refine one_ (i:=5) (N:=some 35) #[qT,qT,qT,qT,qT,qT,qF] rfl rfl (by kernel_rfl) (by decide) (fun K hK => ?_)
  obtain ⟨A2,c2,e2⟩:=Kd.qA0 HO2.out
  subst e2
  refine qBZ Try.func48 (by kernel_rfl) rfl #[.slice A2 (b ++ [4]).length c2,.string f2] (by rfl) rfl rfl (by (try simp only [List.map_toArray,List.map_cons,List.map_nil]);first | done | rfl) ?_
  refine (qBT.calls k A2 c2 (b ++ [4]) f2 b3 w2 (Kd.R_reads' HO2.out).2.2 (Kd.R_reads' HO2.out).2.1 HP.out).mono ?_
  rintro e w3 ⟨v3,rfl,ho3,hb3⟩
  refine ⟨_,rfl, ?_⟩
  have HO3:=qAA.mk (Kd.qB6 ho3 HB2.out.size)
  have HB3:=qAA.mk (qBP HB2.out HB2.out.size hb3)
  have FR3:=qAA.mk (qAU.Fr.trans FR2.out (qAU.Fr.of_below hb3))
  have BK3:=qAA.mk (qAX BK2.out hb3)
  clear ho3 hb3
  refine hK.out _ _ ((qAB BK3.out 2).trans rfl) (fun hHeld => ?_)
  clear hK K
  refine qA3 (a' := ?_) ?_ ?_
  rotate_left
  ·show Act.put _ (some 35) _=_
   simp only [Act.put,qs1,qs2,qs3,qAZ,qAb]
   rfl
  refine pU 6 4 ?_
  refine qBL (by kernel_rfl) ?_
  try go_wp2
  all_goals go_ret
  all_goals exact ⟨v3,rfl,⟨Kd.qBi HO3.out (fun _ _=>trivial),HB3.out,FR3.out⟩⟩
 rw [if_neg k3] at h
 have k3b:(f0 == 3)=false:=by simpa using k3
 by_cases k4:f0=4
 ·subst k4
  rw [if_pos rfl] at h
  obtain ⟨b2,h2,h⟩:=Option.bind_eq_some_iff.mp h
  obtain ⟨hl,rfl⟩:=qAU.app_some h2
  obtain ⟨b3,h3,h⟩:=Option.bind_eq_some_iff.mp h
  have HL:=qAA.mk hl
  have HP:=qAA.mk h3
  have H:=qAA.mk h
  clear h h2 h3 hl k1b k2b k3b
  go_enter Try.func81,Try.ntmps81
  go_wp2_with (first | ((with_reducible refine qAl (N:=3) rfl ?_);refine qAg ?hg (N:=3) ?hd (cs:=#[.int .i64 4,.int .i64 f1,.string f2,.slice A3 f3.length c3,.slice A4 f4.length c4]) (t:=34) ?hr ?_;(case hd=>rfl);(case hg=>rfl);(case hr=>first | (go_simp;done) | (go_simp;rfl));intro gb hg w1 hbox hb1;have BK1:=qAA.mk hbox;have HO1:=qAA.mk (Kd.R_types (Kd.qAp HO0.out hb1) hbox (by decide));have HB1:=qAA.mk (qBP HB0.out HB0.out.size hb1);have FR1:=qAA.mk (qAU.Fr.of_below hb1);have hz0:w1.cell? ⟨gb,0,none⟩=some (.int .i64 4):=(qAB BK1.out 0).trans rfl;have hy0:=qAC BK1.out 0;have hz1:w1.cell? ⟨gb,1,none⟩=some (.int .i64 f1):=(qAB BK1.out 1).trans rfl;have hy1:=qAC BK1.out 1;clear hb1 hbox hg))
  refine qAz (n:=9) (S:=fun w'=>w'.cell? ⟨gb,3,none⟩=some (.slice A3 f3.length c3)) (ds:=[]) #[qF,qF,qF,qF,qF,qF,qF,qF,qF] (by kernel_rfl) rfl rfl ((qAB BK1.out 3).trans rfl) (fun hHeld => ?_)
  generalize hwd:w1.drew=wd at hHeld ⊢
  have HO:=qAA.mk (hwd▸Kd.qBB HO1.out)
  have HB:=qAA.mk (hwd▸(qAK HB1.out))
  have BK:=qAA.mk (hwd▸qAL BK1.out)
  have FR:=qAA.mk (hwd▸qAU.Fr.drew FR1.out)
  clear hwd
  refine pU 0 38 ?_
  refine pU 3 41 ?_
  refine tK 4 42 hHeld ?_
  refine pU 5 43 ?_
  refine pU 6 44 ?_
  refine one_ (i:=1) (N:=some 39) #[qT,qT,qF,qT,qT,qT,qT,qF,qF] rfl rfl (by kernel_rfl) (by decide) (fun K hK => ?_)
  refine qCL (w1 := ?_) (v := ?_) (by rfl) rfl ?_ ?_
  rotate_left 2
  ·go_simp
   constructor
   ·rfl
   ·rfl
  refine hK.out _ _ ((qAB (qAP BK.out _) 3).trans rfl) (fun hHeld => ?_)
  clear hK K
  refine qA3 (a' := ?_) ?_ ?_
  rotate_left
  ·show Act.put _ (some 39) _=_
   simp only [Act.put,qs1,qs2,qs3,qAZ,qAb]
   rfl
  refine one_ (i:=2) (N:=some 40) #[qT,qT,qT,qT,qT,qT,qT,qF,qF] rfl rfl (by kernel_rfl) (by decide) (fun K hK => ?_)
  refine Kd.qBO (Kd.int .u8) (w0:=w0) w0.heap.size (by rfl) (.tmp 38) (.tmp 39) 44 5 (.int .u8 0) 1 rfl Try.underlying44 info5 rfl (by decide) (by omega) v b 5 [.int .u8 5] (fun k_=>True∧k_ ≠ gb) (fun _=>False) rfl rfl rfl (fun _ h=>h.elim) ?aF ?aO ?aB ?aS ?aL ?_
  (case aF=>exact fun k_ hk=>⟨trivial,Kd.freshB BK.out k_ hk⟩)
  (case aO=>exact HO.out)
  (case aB=>exact HB.out)
  (case aS=>exact HB.out.size)
  (case aL=>have:=HL.out;omega)
  intro v2 w2 ho2 hb2 hg2 hat2
  have BK2:=qAA.mk (qA1 BK.out hg2 (Kd.R_away HO.out (fun _ hk=>hk.2)))
  have FR2:=qAA.mk (qAU.Fr.trans FR.out (qAU.Fr.qCN HO.out hg2))
  have HO2:=qAA.mk ho2
  have HB2:=qAA.mk hb2
  clear ho2 hb2 hg2 hat2
  refine hK.out _ _ ((qAB BK2.out 3).trans rfl) (fun hHeld => ?_)
  clear hK K
  refine qA3 (a' := ?_) ?_ ?_
  rotate_left
  ·show Act.put _ (some 40) _=_
   simp only [Act.put,qs1,qs2,qs3,qAZ,qAb]
   rfl
  refine one_ (i:=7) (N:=some 45) #[qT,qT,qT,qT,qT,qT,qT,qT,qF] rfl rfl (by kernel_rfl) (by decide) (fun K hK => ?_)
  obtain ⟨A2,c2,e2⟩:=Kd.qA0 HO2.out
  subst e2
  refine qBZ Try.func46 (by kernel_rfl) rfl #[.slice A2 (b ++ [5]).length c2,.int .u64 (IntKind.u64.wrap (f3.length:Int))] (by rfl) rfl rfl (by (try simp only [List.map_toArray,List.map_cons,List.map_nil]);first | done | rfl) ?_
  refine (qAt.calls k A2 c2 (b ++ [5]) (IntKind.u64.wrap (f3.length:Int)) b3 w2 (Kd.R_reads' HO2.out).2.2 (Kd.R_reads' HO2.out).2.1 HP.out).mono ?_
  rintro e w3 ⟨v3,rfl,ho3,hb3⟩
  refine ⟨_,rfl, ?_⟩
  have HO3:=qAA.mk (Kd.qB6 ho3 HB2.out.size)
  have HB3:=qAA.mk (qBP HB2.out HB2.out.size hb3)
  have FR3:=qAA.mk (qAU.Fr.trans FR2.out (qAU.Fr.of_below hb3))
  have BK3:=qAA.mk (qAX BK2.out hb3)
  clear ho3 hb3
  refine hK.out _ _ ((qAB BK3.out 3).trans rfl) (fun hHeld => ?_)
  clear hK K
  refine qA3 (a' := ?_) ?_ ?_
  rotate_left
  ·show Act.put _ (some 45) _=_
   simp only [Act.put,qs1,qs2,qs3,qAZ,qAb]
   rfl
  refine pU 8 0 ?_
  refine qBL (by kernel_rfl) ?_
  generalize (b ++ [5]).length=nb
  have hz3:w3.cell? ⟨gb,3,none⟩=some (.slice A3 f3.length c3):=(qAB BK3.out 3).trans rfl
  have hy3:=qAC BK3.out 3
  clear hz0 hy0 hz1 hy1
  try go_wp2
  clear HO1 HB1 FR1 BK1 BK HO HB FR HO2 HB2 FR2 BK2 HO0 HB0 HP HL
  go_loopg [0,6,49] k (fun kq v0 v6 v49 w'=>∃ (bq:List Int) (i:Int),v49=.int .i64 i∧qAA (qAU.la kq bq f3 i=some r)∧qAA (kq≤k)∧qAA (w'.heap[gb]?=some (.cells #[.int .i64 4,.int .i64 f1,.string f2,.slice A3 f3.length c3,.slice A4 f4.length c4] 34 (0,0)))∧qAA (Kd.R (Kd.int .u8) 5 w' w0.heap.size (fun _=>True) v0 bq)∧qAA (Below w0.heap.size w0 w')∧qAA (qAU.Fr w w'))
  case atStart=>exact ⟨b3,0,rfl,H,⟨Nat.le_refl _⟩,BK3,⟨Kd.qBi HO3.out (fun _ _=>trivial)⟩,HB3,FR3⟩
  case round =>
   clear H BK3 HO3 HB3 FR3 hz3 hy3
   obtain ⟨bq,i,rfl,HA,HK1,BK,HO,HB,FR⟩:=hrel
   cases gk with
   | zero=>exact absurd HA.out (by simp [qAU.la])
   | succ k1 =>
    have H:=HA.out
    clear HA
    simp only [qAU.la] at H
    by_cases c:i < (f3.length:Int)
    ·rw [if_pos c] at H
     have cb:decide (i < (f3.length:Int))=true:=decide_eq_true c
     by_cases p:0≤i
     ·rw [if_pos p] at H
      have pb:decide (0≤i)=true:=decide_eq_true p
      obtain ⟨ad,A3x,c3x,A4x,c4x,ead,hx0,hx1,hx2,hx3,hx4,hl3,hi3,hl4,hi4⟩:=at_T34 HR3.out i p c
      cases ead
      have HI3:=qAA.mk hi3
      have HI4:=qAA.mk hi4
      have HL3:=qAA.mk hl3
      have HL4:=qAA.mk hl4
      clear hi3 hi4 hl3 hl4
      replace hx0:=(HB.out.cell (qs4 w0 _ hx0)).trans hx0
      replace hx1:=(HB.out.cell (qs4 w0 _ hx1)).trans hx1
      replace hx2:=(HB.out.cell (qs4 w0 _ hx2)).trans hx2
      replace hx3:=(HB.out.cell (qs4 w0 _ hx3)).trans hx3
      replace hx4:=(HB.out.cell (qs4 w0 _ hx4)).trans hx4
      generalize qAR f3 i=x at *
      obtain ⟨b4,HW,H⟩:=Option.bind_eq_some_iff.mp H
      have HW:=qAA.mk HW
      have H':=qAA.mk H
      clear H
      go_wp2_with (go_at_call 81;refine (ih k1 (by have:=HK1.out;omega) u0 bq x.f0 x.f1 x.f2 A3x c3x x.f3 A4x c4x x.f4 b4 _ ?s0 ?s1 HI3.out HL3.out HI4.out HL4.out HW.out).mono ?_;(case s0=>exact Kd.qBW HO.out _);(case s1=>exact HB.out.alloc HB.out.size _);rintro e w4 ⟨v4,rfl,ho4⟩;have HO4:=qAA.mk ho4.own;have HB4:=qAA.mk ho4.bel;have FR4:=qAA.mk (qAU.Fr.trans (qAU.Fr.trans FR.out (qAU.Fr.of_below (qAE (Below.refl _ _) _))) ho4.fr);have BK4:=qAA.mk (ho4.fr _ _ (qAP BK.out _));clear ho4)
      go_roundg k1
      case measure=>have:=HK1.out;omega
      case rel=>exact ⟨b4,wrap64 (i+1),(by first | rfl | (congr 1;unfold wrap64;omega)),H',⟨by have:=HK1.out;omega⟩,BK4,HO4,HB4,FR4⟩
     ·rw [if_neg p] at H
      exact absurd H (by simp)
    ·rw [if_neg c] at H
     have cb:decide (i < (f3.length:Int))=false:=decide_eq_false c
     obtain rfl:=Option.some.inj H
     go_wp2
     go_ret
     exact ⟨_,rfl,⟨HO.out,HB.out,FR.out⟩⟩
 rw [if_neg k4] at h
 have k4b:(f0 == 4)=false:=by simpa using k4
 by_cases k5:f0=5
 ·subst k5
  rw [if_pos rfl] at h
  obtain ⟨b2,h2,h⟩:=Option.bind_eq_some_iff.mp h
  obtain ⟨hl,rfl⟩:=qAU.app_some h2
  obtain ⟨b3,h3,h⟩:=Option.bind_eq_some_iff.mp h
  have HL:=qAA.mk hl
  have HP:=qAA.mk h3
  have H:=qAA.mk h
  clear h h2 h3 hl k1b k2b k3b k4b
  go_enter Try.func81,Try.ntmps81
  go_wp2_with (first | ((with_reducible refine qAl (N:=3) rfl ?_);refine qAg ?hg (N:=3) ?hd (cs:=#[.int .i64 5,.int .i64 f1,.string f2,.slice A3 f3.length c3,.slice A4 f4.length c4]) (t:=34) ?hr ?_;(case hd=>rfl);(case hg=>rfl);(case hr=>first | (go_simp;done) | (go_simp;rfl));intro gb hg w1 hbox hb1;have BK1:=qAA.mk hbox;have HO1:=qAA.mk (Kd.R_types (Kd.qAp HO0.out hb1) hbox (by decide));have HB1:=qAA.mk (qBP HB0.out HB0.out.size hb1);have FR1:=qAA.mk (qAU.Fr.of_below hb1);have hz0:w1.cell? ⟨gb,0,none⟩=some (.int .i64 5):=(qAB BK1.out 0).trans rfl;have hy0:=qAC BK1.out 0;have hz1:w1.cell? ⟨gb,1,none⟩=some (.int .i64 f1):=(qAB BK1.out 1).trans rfl;have hy1:=qAC BK1.out 1;clear hb1 hbox hg))
  refine qAz (n:=9) (S:=fun w'=>w'.cell? ⟨gb,3,none⟩=some (.slice A3 f3.length c3)) (ds:=[]) #[qF,qF,qF,qF,qF,qF,qF,qF,qF] (by kernel_rfl) rfl rfl ((qAB BK1.out 3).trans rfl) (fun hHeld => ?_)
  generalize hwd:w1.drew=wd at hHeld ⊢
  have HO:=qAA.mk (hwd▸Kd.qBB HO1.out)
  have HB:=qAA.mk (hwd▸(qAK HB1.out))
  have BK:=qAA.mk (hwd▸qAL BK1.out)
  have FR:=qAA.mk (hwd▸qAU.Fr.drew FR1.out)
  clear hwd
  refine pU 0 60 ?_
  refine pU 3 63 ?_
  refine tK 4 64 hHeld ?_
  refine pU 5 65 ?_
  refine pU 6 66 ?_
  refine one_ (i:=1) (N:=some 61) #[qT,qT,qF,qT,qT,qT,qT,qF,qF] rfl rfl (by kernel_rfl) (by decide) (fun K hK => ?_)
  refine qCL (w1 := ?_) (v := ?_) (by rfl) rfl ?_ ?_
  rotate_left 2
  ·go_simp
   constructor
   ·rfl
   ·rfl
  refine hK.out _ _ ((qAB (qAP BK.out _) 3).trans rfl) (fun hHeld => ?_)
  clear hK K
  refine qA3 (a' := ?_) ?_ ?_
  rotate_left
  ·show Act.put _ (some 61) _=_
   simp only [Act.put,qs1,qs2,qs3,qAZ,qAb]
   rfl
  refine one_ (i:=2) (N:=some 62) #[qT,qT,qT,qT,qT,qT,qT,qF,qF] rfl rfl (by kernel_rfl) (by decide) (fun K hK => ?_)
  refine Kd.qBO (Kd.int .u8) (w0:=w0) w0.heap.size (by rfl) (.tmp 60) (.tmp 61) 44 5 (.int .u8 0) 1 rfl Try.underlying44 info5 rfl (by decide) (by omega) v b 6 [.int .u8 6] (fun k_=>True∧k_ ≠ gb) (fun _=>False) rfl rfl rfl (fun _ h=>h.elim) ?aF ?aO ?aB ?aS ?aL ?_
  (case aF=>exact fun k_ hk=>⟨trivial,Kd.freshB BK.out k_ hk⟩)
  (case aO=>exact HO.out)
  (case aB=>exact HB.out)
  (case aS=>exact HB.out.size)
  (case aL=>have:=HL.out;omega)
  intro v2 w2 ho2 hb2 hg2 hat2
  have BK2:=qAA.mk (qA1 BK.out hg2 (Kd.R_away HO.out (fun _ hk=>hk.2)))
  have FR2:=qAA.mk (qAU.Fr.trans FR.out (qAU.Fr.qCN HO.out hg2))
  have HO2:=qAA.mk ho2
  have HB2:=qAA.mk hb2
  clear ho2 hb2 hg2 hat2
  refine hK.out _ _ ((qAB BK2.out 3).trans rfl) (fun hHeld => ?_)
  clear hK K
  refine qA3 (a' := ?_) ?_ ?_
  rotate_left
  ·show Act.put _ (some 62) _=_
   simp only [Act.put,qs1,qs2,qs3,qAZ,qAb]
   rfl
  refine one_ (i:=7) (N:=some 67) #[qT,qT,qT,qT,qT,qT,qT,qT,qF] rfl rfl (by kernel_rfl) (by decide) (fun K hK => ?_)
  obtain ⟨A2,c2,e2⟩:=Kd.qA0 HO2.out
  subst e2
  refine qBZ Try.func46 (by kernel_rfl) rfl #[.slice A2 (b ++ [6]).length c2,.int .u64 (IntKind.u64.wrap (f3.length:Int))] (by rfl) rfl rfl (by (try simp only [List.map_toArray,List.map_cons,List.map_nil]);first | done | rfl) ?_
  refine (qAt.calls k A2 c2 (b ++ [6]) (IntKind.u64.wrap (f3.length:Int)) b3 w2 (Kd.R_reads' HO2.out).2.2 (Kd.R_reads' HO2.out).2.1 HP.out).mono ?_
  rintro e w3 ⟨v3,rfl,ho3,hb3⟩
  refine ⟨_,rfl, ?_⟩
  have HO3:=qAA.mk (Kd.qB6 ho3 HB2.out.size)
  have HB3:=qAA.mk (qBP HB2.out HB2.out.size hb3)
  have FR3:=qAA.mk (qAU.Fr.trans FR2.out (qAU.Fr.of_below hb3))
  have BK3:=qAA.mk (qAX BK2.out hb3)
  clear ho3 hb3
  refine hK.out _ _ ((qAB BK3.out 3).trans rfl) (fun hHeld => ?_)
  clear hK K
  refine qA3 (a' := ?_) ?_ ?_
  rotate_left
  ·show Act.put _ (some 67) _=_
   simp only [Act.put,qs1,qs2,qs3,qAZ,qAb]
   rfl
  refine pU 8 0 ?_
  refine qBL (by kernel_rfl) ?_
  generalize (b ++ [6]).length=nb
  have hz3:w3.cell? ⟨gb,3,none⟩=some (.slice A3 f3.length c3):=(qAB BK3.out 3).trans rfl
  have hy3:=qAC BK3.out 3
  clear hz0 hy0 hz1 hy1
  try go_wp2
  clear HO1 HB1 FR1 BK1 BK HO HB FR HO2 HB2 FR2 BK2 HO0 HB0 HP HL
  go_loopg [0,7,8,71] k (fun kq v0 v7 v8 v71 w'=>∃ (bq:List Int) (i:Int),v71=.int .i64 i∧qAA (qAU.lr kq bq f3 f4 i=some r)∧qAA (kq≤k)∧qAA (w'.heap[gb]?=some (.cells #[.int .i64 5,.int .i64 f1,.string f2,.slice A3 f3.length c3,.slice A4 f4.length c4] 34 (0,0)))∧qAA (Kd.R (Kd.int .u8) 5 w' w0.heap.size (fun _=>True) v0 bq)∧qAA (Below w0.heap.size w0 w')∧qAA (qAU.Fr w w'))
  case atStart=>exact ⟨b3,0,rfl,H,⟨Nat.le_refl _⟩,BK3,⟨Kd.qBi HO3.out (fun _ _=>trivial)⟩,HB3,FR3⟩
  case round =>
   clear H BK3 HO3 HB3 FR3 hz3 hy3
   obtain ⟨bq,i,rfl,HA,HK1,BK,HO,HB,FR⟩:=hrel
   cases gk with
   | zero=>exact absurd HA.out (by simp [qAU.lr])
   | succ k1 =>
    have H:=HA.out
    clear HA
    simp only [qAU.lr] at H
    by_cases c:i < (f3.length:Int)
    ·rw [if_pos c] at H
     have cb:decide (i < (f3.length:Int))=true:=decide_eq_true c
     by_cases p:0≤i
     ·rw [if_pos p] at H
      have pb:decide (0≤i)=true:=decide_eq_true p
      obtain ⟨ad,A3x,c3x,A4x,c4x,ead,hx0,hx1,hx2,hx3,hx4,hl3,hi3,hl4,hi4⟩:=at_T34 HR3.out i p c
      cases ead
      have HI3:=qAA.mk hi3
      have HI4:=qAA.mk hi4
      have HL3:=qAA.mk hl3
      have HL4:=qAA.mk hl4
      clear hi3 hi4 hl3 hl4
      replace hx0:=(HB.out.cell (qs4 w0 _ hx0)).trans hx0
      replace hx1:=(HB.out.cell (qs4 w0 _ hx1)).trans hx1
      replace hx2:=(HB.out.cell (qs4 w0 _ hx2)).trans hx2
      replace hx3:=(HB.out.cell (qs4 w0 _ hx3)).trans hx3
      replace hx4:=(HB.out.cell (qs4 w0 _ hx4)).trans hx4
      generalize qAR f3 i=x at *
      by_cases q:i < (f4.length:Int)
      ·rw [if_pos q] at H
       have qb:decide (i < (f4.length:Int))=true:=decide_eq_true q
       obtain ⟨b3,hp,H⟩:=Option.bind_eq_some_iff.mp H
       have HP:=qAA.mk hp
       clear hp
       obtain ⟨b4,HW,H⟩:=Option.bind_eq_some_iff.mp H
       have HW:=qAA.mk HW
       have H':=qAA.mk H
       clear H
       obtain ⟨ad4,ea4,hk⟩:=Kd.qBH HR4.out i p q
       cases ea4
       generalize rdOf ByteArray.empty f4 i=ki at *
       go_wp2
       refine qAU.named wr _ ?_
       intro w1 gx hgx hbx hb1
       have BX1:=qAA.mk hbx
       have BK1:=qAA.mk (qAX BK.out hb1)
       have HO1:=qAA.mk (Kd.qAp HO.out hb1)
       have HB1:=qAA.mk (qBP HB.out HB.out.size hb1)
       have FR1:=qAA.mk (qAU.Fr.trans FR.out (qAU.Fr.of_below hb1))
       clear hbx hb1
       subst hgx
       generalize wr.heap.size=gx at *
       clear BK HO HB FR
       refine qAz (n:=10) (S:=fun w'=>w'.cell? ⟨gb,4,none⟩=some (.slice (some ad4) f4.length c4)∧w'.cell? (ad4.add i.toNat)=some (.string ki)∧w'.cell? ⟨gx,0,none⟩=some (.int .i64 x.f0)∧w'.cell? ⟨gx,1,none⟩=some (.int .i64 x.f1)∧w'.cell? ⟨gx,2,none⟩=some (.string x.f2)∧w'.cell? ⟨gx,3,none⟩=some (.slice A3x x.f3.length c3x)∧w'.cell? ⟨gx,4,none⟩=some (.slice A4x x.f4.length c4x)) (ds:=[]) #[qF,qF,qF,qF,qF,qF,qF,qF,qF,qF] (by kernel_rfl) rfl rfl ⟨(qAB BK1.out 4).trans rfl,(HB1.out.cell (qs4 w0 _ hk)).trans hk,(qAB BX1.out 0).trans rfl,(qAB BX1.out 1).trans rfl,(qAB BX1.out 2).trans rfl,(qAB BX1.out 3).trans rfl,(qAB BX1.out 4).trans rfl⟩ (fun hHeld => ?_)
       generalize hwd:w1.drew=wd at hHeld ⊢
       have HO:=qAA.mk (hwd▸Kd.qBB HO1.out)
       have HB:=qAA.mk (hwd▸(qAK HB1.out))
       have BK:=qAA.mk (hwd▸qAL BK1.out)
       have BX:=qAA.mk (hwd▸qAL BX1.out)
       have FR:=qAA.mk (hwd▸qAU.Fr.drew FR1.out)
       clear hwd
       refine pU 0 76 ?_
       refine pU 1 77 ?_
       refine pU 3 79 ?_
       refine tK 2 78 hHeld ?_
       refine pU 4 80 ?_
       refine tK 5 81 hHeld ?_
       refine tK 7 83 hHeld ?_
       refine one_ (i:=6) (N:=some 82) #[qT,qT,qT,qT,qT,qT,qT,qT,qF,qF] rfl rfl (by kernel_rfl) (by decide) (fun K hK => ?_)
       obtain ⟨A2,c2,e2⟩:=Kd.qA0 HO.out
       subst e2
       refine qBZ Try.func48 (by kernel_rfl) rfl #[.slice A2 bq.length c2,.string ki] (by rfl) rfl rfl (by (try simp only [List.map_toArray,List.map_cons,List.map_nil]);first | done | rfl) ?_
       refine (qBT.calls k1 A2 c2 bq ki b3 wd (Kd.R_reads' HO.out).2.2 (Kd.R_reads' HO.out).2.1 HP.out).mono ?_
       rintro e w3 ⟨v3,rfl,ho3,hb3⟩
       refine ⟨_,rfl, ?_⟩
       have HO3:=qAA.mk (Kd.qB6 ho3 HB.out.size)
       have HB3:=qAA.mk (qBP HB.out HB.out.size hb3)
       have FR3:=qAA.mk (qAU.Fr.trans FR.out (qAU.Fr.of_below hb3))
       have BK3:=qAA.mk (qAX BK.out hb3)
       have BX3:=qAA.mk (qAX BX.out hb3)
       clear ho3 hb3
       refine hK.out _ _ ⟨(qAB BK3.out 4).trans rfl,(HB3.out.cell (qs4 w0 _ hk)).trans hk,(qAB BX3.out 0).trans rfl,(qAB BX3.out 1).trans rfl,(qAB BX3.out 2).trans rfl,(qAB BX3.out 3).trans rfl,(qAB BX3.out 4).trans rfl⟩ (fun hHeld => ?_)
       clear hK K
       refine qA3 (a' := ?_) ?_ ?_
       rotate_left
       ·show Act.put _ (some 82) _=_
        simp only [Act.put,qs1,qs2,qs3,qAZ,qAb]
        rfl
       refine one_ (i:=8) (N:=some 84) #[qT,qT,qT,qT,qT,qT,qT,qT,qT,qF] rfl rfl (by kernel_rfl) (by decide) (fun K hK => ?_)
       refine qBZ Try.func81 (by kernel_rfl) rfl #[v3,.agg #[.int .i64 x.f0,.int .i64 x.f1,.string x.f2,.slice A3x x.f3.length c3x,.slice A4x x.f4.length c4x]] (by rfl) rfl rfl (by (try simp only [List.map_toArray,List.map_cons,List.map_nil]);first | done | rfl) ?_
       refine (ih k1 (by have:=HK1.out;omega) v3 b3 x.f0 x.f1 x.f2 A3x c3x x.f3 A4x c4x x.f4 b4 w3 HO3.out HB3.out HI3.out HL3.out HI4.out HL4.out HW.out).mono ?_
       rintro e w4 ⟨v4,rfl,ho4⟩
       refine ⟨_,rfl, ?_⟩
       have HO4:=qAA.mk ho4.own
       have HB4:=qAA.mk ho4.bel
       have FR4:=qAA.mk (qAU.Fr.trans FR3.out ho4.fr)
       have BK4:=qAA.mk (ho4.fr _ _ BK3.out)
       have BX4:=qAA.mk (ho4.fr _ _ BX3.out)
       clear ho4
       refine hK.out _ _ ⟨(qAB BK4.out 4).trans rfl,(HB4.out.cell (qs4 w0 _ hk)).trans hk,(qAB BX4.out 0).trans rfl,(qAB BX4.out 1).trans rfl,(qAB BX4.out 2).trans rfl,(qAB BX4.out 3).trans rfl,(qAB BX4.out 4).trans rfl⟩ (fun hHeld => ?_)
       clear hK K
       refine qA3 (a' := ?_) ?_ ?_
       rotate_left
       ·show Act.put _ (some 84) _=_
        simp only [Act.put,qs1,qs2,qs3,qAZ,qAb]
        rfl
       refine pU 9 0 ?_
       refine qBL (by kernel_rfl) ?_
       try go_wp2
       go_roundg k1
       case measure=>have:=HK1.out;omega
       case rel=>exact ⟨b4,wrap64 (i+1),(by first | rfl | (congr 1;unfold wrap64;omega)),H',⟨by have:=HK1.out;omega⟩,BK4,HO4,HB4,FR4⟩
      ·rw [if_neg q] at H
       exact absurd H (by simp)
     ·rw [if_neg p] at H
      exact absurd H (by simp)
    ·rw [if_neg c] at H
     have cb:decide (i < (f3.length:Int))=false:=decide_eq_false c
     obtain rfl:=Option.some.inj H
     go_wp2
     go_ret
     exact ⟨_,rfl,⟨HO.out,HB.out,FR.out⟩⟩
 rw [if_neg k5] at h
 have k5b:(f0 == 5)=false:=by simpa using k5
 obtain ⟨hl,rfl⟩:=qAU.app_some h
 have HL:=qAA.mk hl
 clear h hl k1 k2 k3 k4 k5
 go_enter Try.func81,Try.ntmps81
 go_wp2_with (first | ((with_reducible refine qAl (N:=3) rfl ?_);refine qAg ?hg (N:=3) ?hd (cs:=#[.int .i64 f0,.int .i64 f1,.string f2,.slice A3 f3.length c3,.slice A4 f4.length c4]) (t:=34) ?hr ?_;(case hd=>rfl);(case hg=>rfl);(case hr=>first | (go_simp;done) | (go_simp;rfl));intro gb hg w1 hbox hb1;have BK1:=qAA.mk hbox;have HO1:=qAA.mk (Kd.R_types (Kd.qAp HO0.out hb1) hbox (by decide));have HB1:=qAA.mk (qBP HB0.out HB0.out.size hb1);have FR1:=qAA.mk (qAU.Fr.of_below hb1);have hz0:w1.cell? ⟨gb,0,none⟩=some (.int .i64 f0):=(qAB BK1.out 0).trans rfl;have hy0:=qAC BK1.out 0;have hz1:w1.cell? ⟨gb,1,none⟩=some (.int .i64 f1):=(qAB BK1.out 1).trans rfl;have hy1:=qAC BK1.out 1;clear hb1 hbox hg) | (at_builtin;refine Kd.qCY (Kd.int .u8) (w0:=w0) w0.heap.size rfl (.tmp 87) (.tmp 88) 44 5 (.int .u8 0) 1 rfl Try.underlying44 info5 rfl (by decide) (by omega) v b (0) [.int .u8 (0)] (fun k_=>True∧k_ ≠ gb) (fun _=>False) rfl rfl rfl (fun _ h=>h.elim) ?aF ?aO ?aB ?aS ?aL ?_;(case aF=>exact fun k_ hk=>⟨trivial,Kd.freshB BK1.out k_ hk⟩);(case aO=>exact HO1.out);(case aB=>exact HB1.out);(case aS=>exact HB1.out.size);(case aL=>have:=HL.out;omega);intro v2 w2 ho2 hb2 hg2 hat2;have HO2:=qAA.mk ho2;have HB2:=qAA.mk hb2;have FR2:=qAA.mk (qAU.Fr.trans FR1.out (qAU.Fr.qCN HO1.out hg2));clear ho2 hb2 hg2 hat2))
 all_goals go_ret
 all_goals exact ⟨v2,rfl,⟨Kd.qBi HO2.out (fun _ _=>trivial),HB2.out,FR2.out⟩⟩
end Go.Proofs.Ytdommiicjpjfpaa.X
