import Derived.Test.YtnkbobblnhaclaaZWireCodes3
import Derived.Test.YtnkbobblnhaclaaZWireCodes27
import Derived.Test.YtnkbobblnhaclaaZWireCodes28
import Derived.Test.YtnkbobblnhaclaaZWireCodes26
import Derived.Test.YtnkbobblnhaclaaZWireCodes8
set_option linter.unusedVariables false
set_option linter.unusedSimpArgs false
namespace Go.Proofs.Ytnkbobblnhaclaa.X
open Go.RowKit Go.Proofs.YtnkbobblnhaclaaW.PrintWords Go.Proofs.YtnkbobblnhaclaaW.PrintLast Go.Proofs.YtnkbobblnhaclaaW.PrintMore Go.Proofs.YtnkbobblnhaclaaW
attribute [local go_sem] qBF qBE qBX qBW qA6 qA5 qBJ qBI
def qAQ.app:=qAP.app
mutual
def qAQ.w:Nat→List Int→Int→Int→ByteArray→List (S25)→List ByteArray→Option (List Int)
 | 0,_,_,_,_,_,_=>none
 | k+1,b,f0,f1,f2,f3,f4 =>
  if f0=0 then qAQ.app b 0
  else if f0=1 then qAQ.app b (IntKind.u8.wrap (wrap64 (1+f1)))
  else if f0=2 then (qAQ.app b 3).bind fun b=>qAu.f k b f1
  else if f0=3 then (qAQ.app b 4).bind fun b=>qAp.f k b f2
  else if f0=4 then (qAQ.app b 5).bind fun b=>(qAS.f k b (IntKind.u64.wrap (f3.length:Int))).bind fun b=>qAQ.l k b f0 f3 f4 0
  else if f0=5 then (qAQ.app b 6).bind fun b=>(qAS.f k b (IntKind.u64.wrap (f3.length:Int))).bind fun b=>qAQ.l k b f0 f3 f4 0
  else qAQ.l k b f0 f3 f4 0
def qAQ.l:Nat→List Int→Int→List (S25)→List ByteArray→Int→Option (List Int)
 | 0,_,_,_,_,_=>none
 | k+1,b,f0,f3,f4,i =>
  if i < (f3.length:Int) then
   if 0≤i then
   if f0=5 then
    if i < (f4.length:Int) then
    (qAp.f k b (rdOf ByteArray.empty f4 i)).bind fun b=>(qAQ.w k b (qAU f3 i).f0 (qAU f3 i).f1 (qAU f3 i).f2 (qAU f3 i).f3 (qAU f3 i).f4).bind fun b=>qAQ.l k b f0 f3 f4 (wrap64 (i+1))
    else none
   else (qAQ.w k b (qAU f3 i).f0 (qAU f3 i).f1 (qAU f3 i).f2 (qAU f3 i).f3 (qAU f3 i).f4).bind fun b=>qAQ.l k b f0 f3 f4 (wrap64 (i+1))
   else none
  else some b
end
def qAQ.f:=qAQ.w
set_option maxHeartbeats 16000000 in
set_option maxRecDepth 100000 in
theorem qAQ.wcalls (w0:World) (k:Nat) :
  ∀ (v:Value) (b:List Int) (f0 f1:Int) (f2:ByteArray) (A3:Option Addr) (c3:Nat) (f3:List S25) (A4:Option Addr) (c4:Nat) (f4:List ByteArray) (r:List Int) (w:World)
   (ho:Kd.R (Kd.int .u8) 5 w w0.heap.size (fun _=>True) v b) (hb:Below w0.heap.size w0 w)
   (hr3:Kd.C k25 w0 A3 f3.length f3) (hc3:f3.length≤c3) (hr4:Kd.C Kd.string w0 A4 f4.length f4) (hc4:f4.length≤c4)
   (h:qAQ.w k b f0 f1 f2 f3 f4=some r),
  Calls Try.prog 35 #[v,.agg #[.int .i64 f0,.int .i64 f1,.string f2,.slice A3 f3.length c3,.slice A4 f4.length c4]] w
   fun e w'=>∃ v':Value,e=.returned v'∧qAP.Out w0 w w' v' r:=by
 induction k using Nat.strongRecOn with
 | _ k ih =>
 intro v b f0 f1 f2 A3 c3 f3 A4 c4 f4 r w ho hb hr3 hc3 hr4 hc4 h
 cases k with
 | zero=>exact absurd h (by simp [qAQ.w])
 | succ k =>
 simp only [qAQ.w] at h
 have HO0:=qAA.mk ho
 have HB0:=qAA.mk hb
 have HR3:=qAA.mk hr3
 have HC3:=qAA.mk hc3
 have HR4:=qAA.mk hr4
 have HC4:=qAA.mk hc4
 have hu25:=Try.underlying25
 have info5:(Try.prog.info? 5).map (fun i=>(i.zero,i.size,i.bytes))=some (some (.int .u8 0),1,1):=by kernel_rfl
 clear ho hb hr3 hc3 hr4 hc4
 by_cases k0:f0=0
 ·subst k0
  rw [if_pos rfl] at h
  obtain ⟨hl,rfl⟩:=qAP.qB1 h
  have HL:=qAA.mk hl
  clear h hl
  go_enter Try.func35,Try.ntmps35
  go_wp2_with (first | ((with_reducible refine qAj (N:=3) rfl ?_);refine qAf ?hg (N:=3) ?hd (cs:=#[.int .i64 0,.int .i64 f1,.string f2,.slice A3 f3.length c3,.slice A4 f4.length c4]) (t:=25) ?hr ?_;(case hd=>rfl);(case hg=>rfl);(case hr=>first | (go_simp;done) | (go_simp;rfl));intro gb hg w1 hbox hb1;have BK1:=qAA.mk hbox;have HO1:=qAA.mk (Kd.qBn (Kd.qBb HO0.out hb1) hbox (by decide));have HB1:=qAA.mk (qAw HB0.out HB0.out.size hb1);have FR1:=qAA.mk (qAP.Fr.of_below hb1);have hz0:w1.cell? ⟨gb,0,none⟩=some (.int .i64 0):=(qAB BK1.out 0).trans rfl;have hy0:=qAC BK1.out 0;have hz1:w1.cell? ⟨gb,1,none⟩=some (.int .i64 f1):=(qAB BK1.out 1).trans rfl;have hy1:=qAC BK1.out 1;clear hb1 hbox hg) | (at_builtin;refine Kd.qCD (Kd.int .u8) (w0:=w0) w0.heap.size rfl (.tmp 10) (.tmp 11) 26 5 (.int .u8 0) 1 rfl Try.underlying26 info5 rfl (by decide) (by omega) v b (0) [.int .u8 (0)] (fun k_=>True∧k_ ≠ gb) (fun _=>False) rfl rfl rfl (fun _ h=>h.elim) ?aF ?aO ?aB ?aS ?aL ?_;(case aF=>exact fun k_ hk=>⟨trivial,Kd.qCI BK1.out k_ hk⟩);(case aO=>exact HO1.out);(case aB=>exact HB1.out);(case aS=>exact HB1.out.size);(case aL=>have:=HL.out;omega);intro v2 w2 ho2 hb2 hg2 hat2;have HO2:=qAA.mk ho2;have HB2:=qAA.mk hb2;have FR2:=qAA.mk (qAP.Fr.trans FR1.out (qAP.Fr.qBs HO1.out hg2));clear ho2 hb2 hg2 hat2))
  all_goals go_ret
  all_goals exact ⟨v2,rfl,⟨Kd.qA9 HO2.out (fun _ _=>trivial),HB2.out,FR2.out⟩⟩
 rw [if_neg k0] at h
 have k0b:(f0 == 0)=false:=by simpa using k0
 by_cases k1:f0=1
 ·subst k1
  rw [if_pos rfl] at h
  obtain ⟨hl,rfl⟩:=qAP.qB1 h
  have HL:=qAA.mk hl
  clear h hl k0b
  go_enter Try.func35,Try.ntmps35
  go_wp2_with (first | ((with_reducible refine qAj (N:=3) rfl ?_);refine qAf ?hg (N:=3) ?hd (cs:=#[.int .i64 1,.int .i64 f1,.string f2,.slice A3 f3.length c3,.slice A4 f4.length c4]) (t:=25) ?hr ?_;(case hd=>rfl);(case hg=>rfl);(case hr=>first | (go_simp;done) | (go_simp;rfl));intro gb hg w1 hbox hb1;have BK1:=qAA.mk hbox;have HO1:=qAA.mk (Kd.qBn (Kd.qBb HO0.out hb1) hbox (by decide));have HB1:=qAA.mk (qAw HB0.out HB0.out.size hb1);have FR1:=qAA.mk (qAP.Fr.of_below hb1);have hz0:w1.cell? ⟨gb,0,none⟩=some (.int .i64 1):=(qAB BK1.out 0).trans rfl;have hy0:=qAC BK1.out 0;have hz1:w1.cell? ⟨gb,1,none⟩=some (.int .i64 f1):=(qAB BK1.out 1).trans rfl;have hy1:=qAC BK1.out 1;clear hb1 hbox hg) | (at_builtin;refine Kd.qCD (Kd.int .u8) (w0:=w0) w0.heap.size rfl (.tmp 15) (.tmp 20) 26 5 (.int .u8 0) 1 rfl Try.underlying26 info5 rfl (by decide) (by omega) v b (IntKind.u8.wrap (wrap64 (1+f1))) [.int .u8 (IntKind.u8.wrap (wrap64 (1+f1)))] (fun k_=>True∧k_ ≠ gb) (fun _=>False) rfl rfl rfl (fun _ h=>h.elim) ?aF ?aO ?aB ?aS ?aL ?_;(case aF=>exact fun k_ hk=>⟨trivial,Kd.qCI BK1.out k_ hk⟩);(case aO=>exact HO1.out);(case aB=>exact HB1.out);(case aS=>exact HB1.out.size);(case aL=>have:=HL.out;omega);intro v2 w2 ho2 hb2 hg2 hat2;have HO2:=qAA.mk ho2;have HB2:=qAA.mk hb2;have FR2:=qAA.mk (qAP.Fr.trans FR1.out (qAP.Fr.qBs HO1.out hg2));clear ho2 hb2 hg2 hat2))
  all_goals go_ret
  all_goals exact ⟨v2,rfl,⟨Kd.qA9 HO2.out (fun _ _=>trivial),HB2.out,FR2.out⟩⟩
 rw [if_neg k1] at h
 have k1b:(f0 == 1)=false:=by simpa using k1
 by_cases k2:f0=2
 ·subst k2
  rw [if_pos rfl] at h
  obtain ⟨b2,h2,h⟩:=Option.bind_eq_some_iff.mp h
  obtain ⟨hl,rfl⟩:=qAP.qB1 h2
  have HL:=qAA.mk hl
  have HP:=qAA.mk h
  clear h h2 hl k0b k1b
  generalize hb3:r=b3 at *
  clear hb3
  go_enter Try.func35,Try.ntmps35
  go_wp2_with (first | ((with_reducible refine qAj (N:=3) rfl ?_);refine qAf ?hg (N:=3) ?hd (cs:=#[.int .i64 2,.int .i64 f1,.string f2,.slice A3 f3.length c3,.slice A4 f4.length c4]) (t:=25) ?hr ?_;(case hd=>rfl);(case hg=>rfl);(case hr=>first | (go_simp;done) | (go_simp;rfl));intro gb hg w1 hbox hb1;have BK1:=qAA.mk hbox;have HO1:=qAA.mk (Kd.qBn (Kd.qBb HO0.out hb1) hbox (by decide));have HB1:=qAA.mk (qAw HB0.out HB0.out.size hb1);have FR1:=qAA.mk (qAP.Fr.of_below hb1);have hz0:w1.cell? ⟨gb,0,none⟩=some (.int .i64 2):=(qAB BK1.out 0).trans rfl;have hy0:=qAC BK1.out 0;have hz1:w1.cell? ⟨gb,1,none⟩=some (.int .i64 f1):=(qAB BK1.out 1).trans rfl;have hy1:=qAC BK1.out 1;clear hb1 hbox hg))
  refine qBd (n:=7) (S:=fun w'=>w'.cell? ⟨gb,1,none⟩=some (.int .i64 f1)) (ds:=[]) #[qF,qF,qF,qF,qF,qF,qF] (by kernel_rfl) rfl rfl ((qAB BK1.out 1).trans rfl) (fun hHeld => ?_)
  generalize hwd:w1.drew=wd at hHeld ⊢
  have HO:=qAA.mk (hwd▸Kd.qBC HO1.out)
  have HB:=qAA.mk (hwd▸(qAc HB1.out))
  have BK:=qAA.mk (hwd▸qAM BK1.out)
  have FR:=qAA.mk (hwd▸qAP.Fr.drew FR1.out)
  clear hwd
  refine qAd (i:=0) (N:=some 24) (v := ?_) (a' := ?_) #[qT,qF,qF,qF,qF,qF,qF] rfl rfl (by kernel_rfl) (fun _ _ _ h=>h) (Or.inl ⟨by rfl, ?_⟩) ?_ ?_
  rotate_left
  ·intro w'
   go_simp
   with_reducible rfl
  rotate_left
  ·simp only [Act.put,qs1,qs2,qs3,qAR,qAT]
   rfl
  refine qAd (i:=3) (N:=some 27) (v := ?_) (a' := ?_) #[qT,qF,qF,qT,qF,qF,qF] rfl rfl (by kernel_rfl) (fun _ _ _ h=>h) (Or.inl ⟨by rfl, ?_⟩) ?_ ?_
  rotate_left
  ·intro w'
   go_simp
   with_reducible rfl
  rotate_left
  ·simp only [Act.put,qs1,qs2,qs3,qAR,qAT]
   rfl
  refine qBP (i:=4) (N:=some 28) (v := ?_) (a' := ?_) #[qT,qF,qF,qT,qT,qF,qF] rfl rfl (by kernel_rfl) (fun _ _ _ h=>h) (Or.inl ⟨by rfl, ?_⟩) hHeld ?_ ?_
  rotate_left
  ·intro w' s0
   go_simp
   with_reducible rfl
  rotate_left
  ·simp only [Act.put,qs1,qs2,qs3,qAR,qAT]
   rfl
  refine one_ (i:=1) (N:=some 25) #[qT,qT,qF,qT,qT,qF,qF] rfl rfl (by kernel_rfl) (by decide) (fun K hK => ?_)
  refine qCB (w1 := ?_) (v := ?_) (by rfl) rfl ?_ ?_
  rotate_left 2
  ·go_simp
   constructor
   ·rfl
   ·rfl
  refine hK.out _ _ ((qAB (qAK BK.out _) 1).trans rfl) (fun hHeld => ?_)
  clear hK K
  refine qBS (a' := ?_) ?_ ?_
  rotate_left
  ·show Act.put _ (some 25) _=_
   simp only [Act.put,qs1,qs2,qs3,qAR,qAT]
   rfl
  refine one_ (i:=2) (N:=some 26) #[qT,qT,qT,qT,qT,qF,qF] rfl rfl (by kernel_rfl) (by decide) (fun K hK => ?_)
  refine Kd.qBK (Kd.int .u8) (w0:=w0) w0.heap.size (by rfl) (.tmp 24) (.tmp 25) 26 5 (.int .u8 0) 1 rfl Try.underlying26 info5 rfl (by decide) (by omega) v b 3 [.int .u8 3] (fun k_=>True∧k_ ≠ gb) (fun _=>False) rfl rfl rfl (fun _ h=>h.elim) ?aF ?aO ?aB ?aS ?aL ?_
  (case aF=>exact fun k_ hk=>⟨trivial,Kd.qCI BK.out k_ hk⟩)
  (case aO=>exact HO.out)
  (case aB=>exact HB.out)
  (case aS=>exact HB.out.size)
  (case aL=>have:=HL.out;omega)
  intro v2 w2 ho2 hb2 hg2 hat2
  have BK2:=qAA.mk (qAz BK.out hg2 (Kd.R_away HO.out (fun _ hk=>hk.2)))
  have FR2:=qAA.mk (qAP.Fr.trans FR.out (qAP.Fr.qBs HO.out hg2))
  have HO2:=qAA.mk ho2
  have HB2:=qAA.mk hb2
  clear ho2 hb2 hg2 hat2
  refine hK.out _ _ ((qAB BK2.out 1).trans rfl) (fun hHeld => ?_)
  clear hK K
  refine qBS (a' := ?_) ?_ ?_
  rotate_left
  ·show Act.put _ (some 26) _=_
   simp only [Act.put,qs1,qs2,qs3,qAR,qAT]
   rfl
  refine one_ (i:=5) (N:=some 29) #[qT,qT,qT,qT,qT,qT,qF] rfl rfl (by kernel_rfl) (by decide) (fun K hK => ?_)
  obtain ⟨A2,c2,e2⟩:=Kd.qA4 HO2.out
  subst e2
  refine qB2 Try.func47 (by kernel_rfl) rfl #[.slice A2 (b ++ [3]).length c2,.int .i64 f1] (by rfl) rfl rfl (by (try simp only [List.map_toArray,List.map_cons,List.map_nil]);first | done | rfl) ?_
  refine (qAu.calls k A2 c2 (b ++ [3]) f1 b3 w2 (Kd.R_reads' HO2.out).2.2 (Kd.R_reads' HO2.out).2.1 HP.out).mono ?_
  rintro e w3 ⟨v3,rfl,ho3,hb3⟩
  refine ⟨_,rfl, ?_⟩
  have HO3:=qAA.mk (Kd.qBk ho3 HB2.out.size)
  have HB3:=qAA.mk (qAw HB2.out HB2.out.size hb3)
  have FR3:=qAA.mk (qAP.Fr.trans FR2.out (qAP.Fr.of_below hb3))
  have BK3:=qAA.mk (qAW BK2.out hb3)
  clear ho3 hb3
  refine hK.out _ _ ((qAB BK3.out 1).trans rfl) (fun hHeld => ?_)
  clear hK K
  refine qBS (a' := ?_) ?_ ?_
  rotate_left
  ·show Act.put _ (some 29) _=_
   simp only [Act.put,qs1,qs2,qs3,qAR,qAT]
   rfl
  refine qAd (i:=6) (N:=some 4) (v := ?_) (a' := ?_) #[qT,qT,qT,qT,qT,qT,qT] rfl rfl (by kernel_rfl) (fun _ _ _ h=>h) (Or.inl ⟨by rfl, ?_⟩) ?_ ?_
  rotate_left
  ·intro w'
   go_simp
   with_reducible rfl
  rotate_left
  ·simp only [Act.put,qs1,qs2,qs3,qAR,qAT]
   rfl
  refine qBu (by kernel_rfl) ?_
  try go_wp2
  all_goals go_ret
  all_goals exact ⟨v3,rfl,⟨Kd.qA9 HO3.out (fun _ _=>trivial),HB3.out,FR3.out⟩⟩
 rw [if_neg k2] at h
 have k2b:(f0 == 2)=false:=by simpa using k2
 by_cases k3:f0=3
 ·subst k3
  rw [if_pos rfl] at h
  obtain ⟨b2,h2,h⟩:=Option.bind_eq_some_iff.mp h
  obtain ⟨hl,rfl⟩:=qAP.qB1 h2
  have HL:=qAA.mk hl
  have HP:=qAA.mk h
  clear h h2 hl k0b k1b k2b
  generalize hb3:r=b3 at *
  clear hb3
  go_enter Try.func35,Try.ntmps35
  go_wp2_with (first | ((with_reducible refine qAj (N:=3) rfl ?_);refine qAf ?hg (N:=3) ?hd (cs:=#[.int .i64 3,.int .i64 f1,.string f2,.slice A3 f3.length c3,.slice A4 f4.length c4]) (t:=25) ?hr ?_;(case hd=>rfl);(case hg=>rfl);(case hr=>first | (go_simp;done) | (go_simp;rfl));intro gb hg w1 hbox hb1;have BK1:=qAA.mk hbox;have HO1:=qAA.mk (Kd.qBn (Kd.qBb HO0.out hb1) hbox (by decide));have HB1:=qAA.mk (qAw HB0.out HB0.out.size hb1);have FR1:=qAA.mk (qAP.Fr.of_below hb1);have hz0:w1.cell? ⟨gb,0,none⟩=some (.int .i64 3):=(qAB BK1.out 0).trans rfl;have hy0:=qAC BK1.out 0;have hz1:w1.cell? ⟨gb,1,none⟩=some (.int .i64 f1):=(qAB BK1.out 1).trans rfl;have hy1:=qAC BK1.out 1;clear hb1 hbox hg))
  refine qBd (n:=7) (S:=fun w'=>w'.cell? ⟨gb,2,none⟩=some (.string f2)) (ds:=[]) #[qF,qF,qF,qF,qF,qF,qF] (by kernel_rfl) rfl rfl ((qAB BK1.out 2).trans rfl) (fun hHeld => ?_)
  generalize hwd:w1.drew=wd at hHeld ⊢
  have HO:=qAA.mk (hwd▸Kd.qBC HO1.out)
  have HB:=qAA.mk (hwd▸(qAc HB1.out))
  have BK:=qAA.mk (hwd▸qAM BK1.out)
  have FR:=qAA.mk (hwd▸qAP.Fr.drew FR1.out)
  clear hwd
  refine qAd (i:=0) (N:=some 32) (v := ?_) (a' := ?_) #[qT,qF,qF,qF,qF,qF,qF] rfl rfl (by kernel_rfl) (fun _ _ _ h=>h) (Or.inl ⟨by rfl, ?_⟩) ?_ ?_
  rotate_left
  ·intro w'
   go_simp
   with_reducible rfl
  rotate_left
  ·simp only [Act.put,qs1,qs2,qs3,qAR,qAT]
   rfl
  refine qAd (i:=3) (N:=some 35) (v := ?_) (a' := ?_) #[qT,qF,qF,qT,qF,qF,qF] rfl rfl (by kernel_rfl) (fun _ _ _ h=>h) (Or.inl ⟨by rfl, ?_⟩) ?_ ?_
  rotate_left
  ·intro w'
   go_simp
   with_reducible rfl
  rotate_left
  ·simp only [Act.put,qs1,qs2,qs3,qAR,qAT]
   rfl
  refine qBP (i:=4) (N:=some 36) (v := ?_) (a' := ?_) #[qT,qF,qF,qT,qT,qF,qF] rfl rfl (by kernel_rfl) (fun _ _ _ h=>h) (Or.inl ⟨by rfl, ?_⟩) hHeld ?_ ?_
  rotate_left
  ·intro w' s0
   go_simp
   with_reducible rfl
  rotate_left
  ·simp only [Act.put,qs1,qs2,qs3,qAR,qAT]
   rfl
  refine one_ (i:=1) (N:=some 33) #[qT,qT,qF,qT,qT,qF,qF] rfl rfl (by kernel_rfl) (by decide) (fun K hK => ?_)
  refine qCB (w1 := ?_) (v := ?_) (by rfl) rfl ?_ ?_
  rotate_left 2
  ·go_simp
   constructor
   ·rfl
   ·rfl
  refine hK.out _ _ ((qAB (qAK BK.out _) 2).trans rfl) (fun hHeld => ?_)
  clear hK K
  refine qBS (a' := ?_) ?_ ?_
  rotate_left
  ·show Act.put _ (some 33) _=_
   simp only [Act.put,qs1,qs2,qs3,qAR,qAT]
   rfl
  refine one_ (i:=2) (N:=some 34) #[qT,qT,qT,qT,qT,qF,qF] rfl rfl (by kernel_rfl) (by decide) (fun K hK => ?_)
  refine Kd.qBK (Kd.int .u8) (w0:=w0) w0.heap.size (by rfl) (.tmp 32) (.tmp 33) 26 5 (.int .u8 0) 1 rfl Try.underlying26 info5 rfl (by decide) (by omega) v b 4 [.int .u8 4] (fun k_=>True∧k_ ≠ gb) (fun _=>False) rfl rfl rfl (fun _ h=>h.elim) ?aF ?aO ?aB ?aS ?aL ?_
  (case aF=>exact fun k_ hk=>⟨trivial,Kd.qCI BK.out k_ hk⟩)
  (case aO=>exact HO.out)
  (case aB=>exact HB.out)
  (case aS=>exact HB.out.size)
  (case aL=>have:=HL.out;omega)
  intro v2 w2 ho2 hb2 hg2 hat2
  have BK2:=qAA.mk (qAz BK.out hg2 (Kd.R_away HO.out (fun _ hk=>hk.2)))
  have FR2:=qAA.mk (qAP.Fr.trans FR.out (qAP.Fr.qBs HO.out hg2))
  have HO2:=qAA.mk ho2
  have HB2:=qAA.mk hb2
  clear ho2 hb2 hg2 hat2
  refine hK.out _ _ ((qAB BK2.out 2).trans rfl) (fun hHeld => ?_)
  clear hK K
  refine qBS (a' := ?_) ?_ ?_
  rotate_left
  ·show Act.put _ (some 34) _=_
   simp only [Act.put,qs1,qs2,qs3,qAR,qAT]
   rfl
  refine one_ (i:=5) (N:=some 37) #[qT,qT,qT,qT,qT,qT,qF] rfl rfl (by kernel_rfl) (by decide) (fun K hK => ?_)
  obtain ⟨A2,c2,e2⟩:=Kd.qA4 HO2.out
  subst e2
  refine qB2 Try.func48 (by kernel_rfl) rfl #[.slice A2 (b ++ [4]).length c2,.string f2] (by rfl) rfl rfl (by (try simp only [List.map_toArray,List.map_cons,List.map_nil]);first | done | rfl) ?_
  refine (qAp.calls k A2 c2 (b ++ [4]) f2 b3 w2 (Kd.R_reads' HO2.out).2.2 (Kd.R_reads' HO2.out).2.1 HP.out).mono ?_
  rintro e w3 ⟨v3,rfl,ho3,hb3⟩
  refine ⟨_,rfl, ?_⟩
  have HO3:=qAA.mk (Kd.qBk ho3 HB2.out.size)
  have HB3:=qAA.mk (qAw HB2.out HB2.out.size hb3)
  have FR3:=qAA.mk (qAP.Fr.trans FR2.out (qAP.Fr.of_below hb3))
  have BK3:=qAA.mk (qAW BK2.out hb3)
  clear ho3 hb3
  refine hK.out _ _ ((qAB BK3.out 2).trans rfl) (fun hHeld => ?_)
  clear hK K
  refine qBS (a' := ?_) ?_ ?_
  rotate_left
  ·show Act.put _ (some 37) _=_
   simp only [Act.put,qs1,qs2,qs3,qAR,qAT]
   rfl
  refine qAd (i:=6) (N:=some 4) (v := ?_) (a' := ?_) #[qT,qT,qT,qT,qT,qT,qT] rfl rfl (by kernel_rfl) (fun _ _ _ h=>h) (Or.inl ⟨by rfl, ?_⟩) ?_ ?_
  rotate_left
  ·intro w'
   go_simp
   with_reducible rfl
  rotate_left
  ·simp only [Act.put,qs1,qs2,qs3,qAR,qAT]
   rfl
  refine qBu (by kernel_rfl) ?_
  try go_wp2
  all_goals go_ret
  all_goals exact ⟨v3,rfl,⟨Kd.qA9 HO3.out (fun _ _=>trivial),HB3.out,FR3.out⟩⟩
 rw [if_neg k3] at h
 have k3b:(f0 == 3)=false:=by simpa using k3
 by_cases k4:f0=4
 ·subst k4
  rw [if_pos rfl] at h
  obtain ⟨b2,h2,h⟩:=Option.bind_eq_some_iff.mp h
  obtain ⟨hl,rfl⟩:=qAP.qB1 h2
  obtain ⟨b3,h3,h⟩:=Option.bind_eq_some_iff.mp h
  have HL:=qAA.mk hl
  have HP:=qAA.mk h3
  have H:=qAA.mk h
  clear h h2 h3 hl k0b k1b k2b k3b
  go_enter Try.func35,Try.ntmps35
  go_wp2_with (first | ((with_reducible refine qAj (N:=3) rfl ?_);refine qAf ?hg (N:=3) ?hd (cs:=#[.int .i64 4,.int .i64 f1,.string f2,.slice A3 f3.length c3,.slice A4 f4.length c4]) (t:=25) ?hr ?_;(case hd=>rfl);(case hg=>rfl);(case hr=>first | (go_simp;done) | (go_simp;rfl));intro gb hg w1 hbox hb1;have BK1:=qAA.mk hbox;have HO1:=qAA.mk (Kd.qBn (Kd.qBb HO0.out hb1) hbox (by decide));have HB1:=qAA.mk (qAw HB0.out HB0.out.size hb1);have FR1:=qAA.mk (qAP.Fr.of_below hb1);have hz0:w1.cell? ⟨gb,0,none⟩=some (.int .i64 4):=(qAB BK1.out 0).trans rfl;have hy0:=qAC BK1.out 0;have hz1:w1.cell? ⟨gb,1,none⟩=some (.int .i64 f1):=(qAB BK1.out 1).trans rfl;have hy1:=qAC BK1.out 1;clear hb1 hbox hg))
  refine qBd (n:=9) (S:=fun w'=>w'.cell? ⟨gb,3,none⟩=some (.slice A3 f3.length c3)) (ds:=[]) #[qF,qF,qF,qF,qF,qF,qF,qF,qF] (by kernel_rfl) rfl rfl ((qAB BK1.out 3).trans rfl) (fun hHeld => ?_)
  generalize hwd:w1.drew=wd at hHeld ⊢
  have HO:=qAA.mk (hwd▸Kd.qBC HO1.out)
  have HB:=qAA.mk (hwd▸(qAc HB1.out))
  have BK:=qAA.mk (hwd▸qAM BK1.out)
  have FR:=qAA.mk (hwd▸qAP.Fr.drew FR1.out)
  clear hwd
  refine qAd (i:=0) (N:=some 40) (v := ?_) (a' := ?_) #[qT,qF,qF,qF,qF,qF,qF,qF,qF] rfl rfl (by kernel_rfl) (fun _ _ _ h=>h) (Or.inl ⟨by rfl, ?_⟩) ?_ ?_
  rotate_left
  ·intro w'
   go_simp
   with_reducible rfl
  rotate_left
  ·simp only [Act.put,qs1,qs2,qs3,qAR,qAT]
   rfl
  refine qAd (i:=3) (N:=some 43) (v := ?_) (a' := ?_) #[qT,qF,qF,qT,qF,qF,qF,qF,qF] rfl rfl (by kernel_rfl) (fun _ _ _ h=>h) (Or.inl ⟨by rfl, ?_⟩) ?_ ?_
  rotate_left
  ·intro w'
   go_simp
   with_reducible rfl
  rotate_left
  ·simp only [Act.put,qs1,qs2,qs3,qAR,qAT]
   rfl
  refine qBP (i:=4) (N:=some 44) (v := ?_) (a' := ?_) #[qT,qF,qF,qT,qT,qF,qF,qF,qF] rfl rfl (by kernel_rfl) (fun _ _ _ h=>h) (Or.inl ⟨by rfl, ?_⟩) hHeld ?_ ?_
  rotate_left
  ·intro w' s0
   go_simp
   with_reducible rfl
  rotate_left
  ·simp only [Act.put,qs1,qs2,qs3,qAR,qAT]
   rfl
  refine qAd (i:=5) (N:=some 45) (v := ?_) (a' := ?_) #[qT,qF,qF,qT,qT,qT,qF,qF,qF] rfl rfl (by kernel_rfl) (fun _ _ _ h=>h) (Or.inl ⟨by rfl, ?_⟩) ?_ ?_
  rotate_left
  ·intro w'
   go_simp
   with_reducible rfl
  rotate_left
  ·simp only [Act.put,qs1,qs2,qs3,qAR,qAT]
   rfl
  refine qAd (i:=6) (N:=some 46) (v := ?_) (a' := ?_) #[qT,qF,qF,qT,qT,qT,qT,qF,qF] rfl rfl (by kernel_rfl) (fun _ _ _ h=>h) (Or.inl ⟨by rfl, ?_⟩) ?_ ?_
  rotate_left
  ·intro w'
   go_simp
   with_reducible rfl
  rotate_left
  ·simp only [Act.put,qs1,qs2,qs3,qAR,qAT]
   rfl
  refine one_ (i:=1) (N:=some 41) #[qT,qT,qF,qT,qT,qT,qT,qF,qF] rfl rfl (by kernel_rfl) (by decide) (fun K hK => ?_)
  refine qCB (w1 := ?_) (v := ?_) (by rfl) rfl ?_ ?_
  rotate_left 2
  ·go_simp
   constructor
   ·rfl
   ·rfl
  refine hK.out _ _ ((qAB (qAK BK.out _) 3).trans rfl) (fun hHeld => ?_)
  clear hK K
  refine qBS (a' := ?_) ?_ ?_
  rotate_left
  ·show Act.put _ (some 41) _=_
   simp only [Act.put,qs1,qs2,qs3,qAR,qAT]
   rfl
  refine one_ (i:=2) (N:=some 42) #[qT,qT,qT,qT,qT,qT,qT,qF,qF] rfl rfl (by kernel_rfl) (by decide) (fun K hK => ?_)
  refine Kd.qBK (Kd.int .u8) (w0:=w0) w0.heap.size (by rfl) (.tmp 40) (.tmp 41) 26 5 (.int .u8 0) 1 rfl Try.underlying26 info5 rfl (by decide) (by omega) v b 5 [.int .u8 5] (fun k_=>True∧k_ ≠ gb) (fun _=>False) rfl rfl rfl (fun _ h=>h.elim) ?aF ?aO ?aB ?aS ?aL ?_
  (case aF=>exact fun k_ hk=>⟨trivial,Kd.qCI BK.out k_ hk⟩)
  (case aO=>exact HO.out)
  (case aB=>exact HB.out)
  (case aS=>exact HB.out.size)
  (case aL=>have:=HL.out;omega)
  intro v2 w2 ho2 hb2 hg2 hat2
  have BK2:=qAA.mk (qAz BK.out hg2 (Kd.R_away HO.out (fun _ hk=>hk.2)))
  have FR2:=qAA.mk (qAP.Fr.trans FR.out (qAP.Fr.qBs HO.out hg2))
  have HO2:=qAA.mk ho2
  have HB2:=qAA.mk hb2
  clear ho2 hb2 hg2 hat2
  refine hK.out _ _ ((qAB BK2.out 3).trans rfl) (fun hHeld => ?_)
  clear hK K
  refine qBS (a' := ?_) ?_ ?_
  rotate_left
  ·show Act.put _ (some 42) _=_
   simp only [Act.put,qs1,qs2,qs3,qAR,qAT]
   rfl
  refine one_ (i:=7) (N:=some 47) #[qT,qT,qT,qT,qT,qT,qT,qT,qF] rfl rfl (by kernel_rfl) (by decide) (fun K hK => ?_)
  obtain ⟨A2,c2,e2⟩:=Kd.qA4 HO2.out
  subst e2
  refine qB2 Try.func49 (by kernel_rfl) rfl #[.slice A2 (b ++ [5]).length c2,.int .u64 (IntKind.u64.wrap (f3.length:Int))] (by rfl) rfl rfl (by (try simp only [List.map_toArray,List.map_cons,List.map_nil]);first | done | rfl) ?_
  refine (qAS.calls k A2 c2 (b ++ [5]) (IntKind.u64.wrap (f3.length:Int)) b3 w2 (Kd.R_reads' HO2.out).2.2 (Kd.R_reads' HO2.out).2.1 HP.out).mono ?_
  rintro e w3 ⟨v3,rfl,ho3,hb3⟩
  refine ⟨_,rfl, ?_⟩
  have HO3:=qAA.mk (Kd.qBk ho3 HB2.out.size)
  have HB3:=qAA.mk (qAw HB2.out HB2.out.size hb3)
  have FR3:=qAA.mk (qAP.Fr.trans FR2.out (qAP.Fr.of_below hb3))
  have BK3:=qAA.mk (qAW BK2.out hb3)
  clear ho3 hb3
  refine hK.out _ _ ((qAB BK3.out 3).trans rfl) (fun hHeld => ?_)
  clear hK K
  refine qBS (a' := ?_) ?_ ?_
  rotate_left
  ·show Act.put _ (some 47) _=_
   simp only [Act.put,qs1,qs2,qs3,qAR,qAT]
   rfl
  refine qAd (i:=8) (N:=some 0) (v := ?_) (a' := ?_) #[qT,qT,qT,qT,qT,qT,qT,qT,qT] rfl rfl (by kernel_rfl) (fun _ _ _ h=>h) (Or.inl ⟨by rfl, ?_⟩) ?_ ?_
  rotate_left
  ·intro w'
   go_simp
   with_reducible rfl
  rotate_left
  ·simp only [Act.put,qs1,qs2,qs3,qAR,qAT]
   rfl
  refine qBu (by kernel_rfl) ?_
  generalize (b ++ [5]).length=nb
  clear hz0 hy0 hz1 hy1
  try go_wp2
  clear HO1 HB1 FR1 BK1 BK HO HB FR HO2 HB2 FR2 BK2 HO0 HB0 HP HL
  go_loopg [0,5] k (fun kq v0 v5 w'=>∃ (bq:List Int) (i:Int),v5=.int .i64 i∧qAA (qAQ.l kq bq 4 f3 f4 i=some r)∧qAA (kq≤k)∧qAA (w'.heap[gb]?=some (.cells #[.int .i64 4,.int .i64 f1,.string f2,.slice A3 f3.length c3,.slice A4 f4.length c4] 25 (0,0)))∧qAA (Kd.R (Kd.int .u8) 5 w' w0.heap.size (fun _=>True) v0 bq)∧qAA (Below w0.heap.size w0 w')∧qAA (qAP.Fr w w'))
  case atStart=>exact ⟨_,0,rfl,H,⟨Nat.le_refl _⟩,BK3,⟨Kd.qA9 HO3.out (fun _ _=>trivial)⟩,HB3,FR3⟩
  case round =>
   clear H BK3 HO3 HB3 FR3
   obtain ⟨bq,i,rfl,HA,HK1,BK,HO,HB,FR⟩:=hrel
   cases gk with
   | zero=>exact absurd HA.out (by simp [qAQ.l])
   | succ k1 =>
    have H:=HA.out
    clear HA
    simp only [qAQ.l] at H
    have hz0:wr.cell? ⟨gb,0,none⟩=some (.int .i64 4):=(qAB BK.out 0).trans rfl;have hy0:=qAC BK.out 0;have hz3:wr.cell? ⟨gb,3,none⟩=some (.slice A3 f3.length c3):=(qAB BK.out 3).trans rfl;have hy3:=qAC BK.out 3;have hz4:wr.cell? ⟨gb,4,none⟩=some (.slice A4 f4.length c4):=(qAB BK.out 4).trans rfl;have hy4:=qAC BK.out 4
    by_cases c:i < (f3.length:Int)
    ·rw [if_pos c] at H
     have cb:decide (i < (f3.length:Int))=true:=decide_eq_true c
     by_cases p:0≤i
     ·rw [if_pos p] at H
      have pb:decide (0≤i)=true:=decide_eq_true p
      rw [if_neg (by omega)] at H
      obtain ⟨ad,A3x,c3x,A4x,c4x,ead,hx0,hx1,hx2,hx3,hx4,hl3,hi3,hl4,hi4⟩:=qCL HR3.out i p c
      cases ead
      have HI3:=qAA.mk hi3
      have HI4:=qAA.mk hi4
      have HL3:=qAA.mk hl3
      have HL4:=qAA.mk hl4
      clear hi3 hi4 hl3 hl4
      generalize qAU f3 i=x at *
      have HX0:=qAA.mk hx0
      have HX1:=qAA.mk hx1
      have HX2:=qAA.mk hx2
      have HX3:=qAA.mk hx3
      have HX4:=qAA.mk hx4
      clear hx0 hx1 hx2 hx3 hx4
      have hx0:=(HB.out.cell (qs4 w0 _ HX0.out)).trans HX0.out;have hx1:=(HB.out.cell (qs4 w0 _ HX1.out)).trans HX1.out;have hx2:=(HB.out.cell (qs4 w0 _ HX2.out)).trans HX2.out;have hx3:=(HB.out.cell (qs4 w0 _ HX3.out)).trans HX3.out;have hx4:=(HB.out.cell (qs4 w0 _ HX4.out)).trans HX4.out
      obtain ⟨b4,HW,H⟩:=Option.bind_eq_some_iff.mp H
      have HW:=qAA.mk HW
      have H':=qAA.mk H
      clear H
      obtain ⟨A2,c2,e2⟩:=Kd.qA4 HO.out
      subst e2
      go_wp2_with (go_at_call 35;refine (ih k1 (by have:=HK1.out;omega) (.slice A2 bq.length c2) bq x.f0 x.f1 x.f2 A3x c3x x.f3 A4x c4x x.f4 b4 _ HO.out HB.out HI3.out HL3.out HI4.out HL4.out HW.out).mono ?_;rintro e w4 ⟨v4,rfl,ho4⟩;have HO4:=qAA.mk ho4.own;have HB4:=qAA.mk ho4.bel;have FR4:=qAA.mk (qAP.Fr.trans FR.out ho4.fr);have BK4:=qAA.mk (ho4.fr _ _ BK.out);clear ho4)
      go_roundg k1
      case measure=>have:=HK1.out;omega
      case rel=>exact ⟨b4,wrap64 (i+1),(by first | rfl | (congr 1;unfold wrap64;omega)),H',⟨by have:=HK1.out;omega⟩,BK4,HO4,HB4,FR4⟩
     ·rw [if_neg p] at H
      exact absurd H (by simp)
    ·rw [if_neg c] at H
     have cb:decide (i < (f3.length:Int))=false:=decide_eq_false c
     obtain rfl:=Option.some.inj H
     go_wp2
     go_ret
     exact ⟨_,rfl,⟨HO.out,HB.out,FR.out⟩⟩
 rw [if_neg k4] at h
 have k4b:(f0 == 4)=false:=by simpa using k4
 by_cases k5:f0=5
 ·subst k5
  rw [if_pos rfl] at h
  obtain ⟨b2,h2,h⟩:=Option.bind_eq_some_iff.mp h
  obtain ⟨hl,rfl⟩:=qAP.qB1 h2
  obtain ⟨b3,h3,h⟩:=Option.bind_eq_some_iff.mp h
  have HL:=qAA.mk hl
  have HP:=qAA.mk h3
  have H:=qAA.mk h
  clear h h2 h3 hl k0b k1b k2b k3b k4b
  go_enter Try.func35,Try.ntmps35
  go_wp2_with (first | ((with_reducible refine qAj (N:=3) rfl ?_);refine qAf ?hg (N:=3) ?hd (cs:=#[.int .i64 5,.int .i64 f1,.string f2,.slice A3 f3.length c3,.slice A4 f4.length c4]) (t:=25) ?hr ?_;(case hd=>rfl);(case hg=>rfl);(case hr=>first | (go_simp;done) | (go_simp;rfl));intro gb hg w1 hbox hb1;have BK1:=qAA.mk hbox;have HO1:=qAA.mk (Kd.qBn (Kd.qBb HO0.out hb1) hbox (by decide));have HB1:=qAA.mk (qAw HB0.out HB0.out.size hb1);have FR1:=qAA.mk (qAP.Fr.of_below hb1);have hz0:w1.cell? ⟨gb,0,none⟩=some (.int .i64 5):=(qAB BK1.out 0).trans rfl;have hy0:=qAC BK1.out 0;have hz1:w1.cell? ⟨gb,1,none⟩=some (.int .i64 f1):=(qAB BK1.out 1).trans rfl;have hy1:=qAC BK1.out 1;clear hb1 hbox hg))
  refine qBd (n:=9) (S:=fun w'=>w'.cell? ⟨gb,3,none⟩=some (.slice A3 f3.length c3)) (ds:=[]) #[qF,qF,qF,qF,qF,qF,qF,qF,qF] (by kernel_rfl) rfl rfl ((qAB BK1.out 3).trans rfl) (fun hHeld => ?_)
  generalize hwd:w1.drew=wd at hHeld ⊢
  have HO:=qAA.mk (hwd▸Kd.qBC HO1.out)
  have HB:=qAA.mk (hwd▸(qAc HB1.out))
  have BK:=qAA.mk (hwd▸qAM BK1.out)
  have FR:=qAA.mk (hwd▸qAP.Fr.drew FR1.out)
  clear hwd
  refine qAd (i:=0) (N:=some 50) (v := ?_) (a' := ?_) #[qT,qF,qF,qF,qF,qF,qF,qF,qF] rfl rfl (by kernel_rfl) (fun _ _ _ h=>h) (Or.inl ⟨by rfl, ?_⟩) ?_ ?_
  rotate_left
  ·intro w'
   go_simp
   with_reducible rfl
  rotate_left
  ·simp only [Act.put,qs1,qs2,qs3,qAR,qAT]
   rfl
  refine qAd (i:=3) (N:=some 53) (v := ?_) (a' := ?_) #[qT,qF,qF,qT,qF,qF,qF,qF,qF] rfl rfl (by kernel_rfl) (fun _ _ _ h=>h) (Or.inl ⟨by rfl, ?_⟩) ?_ ?_
  rotate_left
  ·intro w'
   go_simp
   with_reducible rfl
  rotate_left
  ·simp only [Act.put,qs1,qs2,qs3,qAR,qAT]
   rfl
  refine qBP (i:=4) (N:=some 54) (v := ?_) (a' := ?_) #[qT,qF,qF,qT,qT,qF,qF,qF,qF] rfl rfl (by kernel_rfl) (fun _ _ _ h=>h) (Or.inl ⟨by rfl, ?_⟩) hHeld ?_ ?_
  rotate_left
  ·intro w' s0
   go_simp
   with_reducible rfl
  rotate_left
  ·simp only [Act.put,qs1,qs2,qs3,qAR,qAT]
   rfl
  refine qAd (i:=5) (N:=some 55) (v := ?_) (a' := ?_) #[qT,qF,qF,qT,qT,qT,qF,qF,qF] rfl rfl (by kernel_rfl) (fun _ _ _ h=>h) (Or.inl ⟨by rfl, ?_⟩) ?_ ?_
  rotate_left
  ·intro w'
   go_simp
   with_reducible rfl
  rotate_left
  ·simp only [Act.put,qs1,qs2,qs3,qAR,qAT]
   rfl
  refine qAd (i:=6) (N:=some 56) (v := ?_) (a' := ?_) #[qT,qF,qF,qT,qT,qT,qT,qF,qF] rfl rfl (by kernel_rfl) (fun _ _ _ h=>h) (Or.inl ⟨by rfl, ?_⟩) ?_ ?_
  rotate_left
  ·intro w'
   go_simp
   with_reducible rfl
  rotate_left
  ·simp only [Act.put,qs1,qs2,qs3,qAR,qAT]
   rfl
  refine one_ (i:=1) (N:=some 51) #[qT,qT,qF,qT,qT,qT,qT,qF,qF] rfl rfl (by kernel_rfl) (by decide) (fun K hK => ?_)
  refine qCB (w1 := ?_) (v := ?_) (by rfl) rfl ?_ ?_
  rotate_left 2
  ·go_simp
   constructor
   ·rfl
   ·rfl
  refine hK.out _ _ ((qAB (qAK BK.out _) 3).trans rfl) (fun hHeld => ?_)
  clear hK K
  refine qBS (a' := ?_) ?_ ?_
  rotate_left
  ·show Act.put _ (some 51) _=_
   simp only [Act.put,qs1,qs2,qs3,qAR,qAT]
   rfl
  refine one_ (i:=2) (N:=some 52) #[qT,qT,qT,qT,qT,qT,qT,qF,qF] rfl rfl (by kernel_rfl) (by decide) (fun K hK => ?_)
  refine Kd.qBK (Kd.int .u8) (w0:=w0) w0.heap.size (by rfl) (.tmp 50) (.tmp 51) 26 5 (.int .u8 0) 1 rfl Try.underlying26 info5 rfl (by decide) (by omega) v b 6 [.int .u8 6] (fun k_=>True∧k_ ≠ gb) (fun _=>False) rfl rfl rfl (fun _ h=>h.elim) ?aF ?aO ?aB ?aS ?aL ?_
  (case aF=>exact fun k_ hk=>⟨trivial,Kd.qCI BK.out k_ hk⟩)
  (case aO=>exact HO.out)
  (case aB=>exact HB.out)
  (case aS=>exact HB.out.size)
  (case aL=>have:=HL.out;omega)
  intro v2 w2 ho2 hb2 hg2 hat2
  have BK2:=qAA.mk (qAz BK.out hg2 (Kd.R_away HO.out (fun _ hk=>hk.2)))
  have FR2:=qAA.mk (qAP.Fr.trans FR.out (qAP.Fr.qBs HO.out hg2))
  have HO2:=qAA.mk ho2
  have HB2:=qAA.mk hb2
  clear ho2 hb2 hg2 hat2
  refine hK.out _ _ ((qAB BK2.out 3).trans rfl) (fun hHeld => ?_)
  clear hK K
  refine qBS (a' := ?_) ?_ ?_
  rotate_left
  ·show Act.put _ (some 52) _=_
   simp only [Act.put,qs1,qs2,qs3,qAR,qAT]
   rfl
  refine one_ (i:=7) (N:=some 57) #[qT,qT,qT,qT,qT,qT,qT,qT,qF] rfl rfl (by kernel_rfl) (by decide) (fun K hK => ?_)
  obtain ⟨A2,c2,e2⟩:=Kd.qA4 HO2.out
  subst e2
  refine qB2 Try.func49 (by kernel_rfl) rfl #[.slice A2 (b ++ [6]).length c2,.int .u64 (IntKind.u64.wrap (f3.length:Int))] (by rfl) rfl rfl (by (try simp only [List.map_toArray,List.map_cons,List.map_nil]);first | done | rfl) ?_
  refine (qAS.calls k A2 c2 (b ++ [6]) (IntKind.u64.wrap (f3.length:Int)) b3 w2 (Kd.R_reads' HO2.out).2.2 (Kd.R_reads' HO2.out).2.1 HP.out).mono ?_
  rintro e w3 ⟨v3,rfl,ho3,hb3⟩
  refine ⟨_,rfl, ?_⟩
  have HO3:=qAA.mk (Kd.qBk ho3 HB2.out.size)
  have HB3:=qAA.mk (qAw HB2.out HB2.out.size hb3)
  have FR3:=qAA.mk (qAP.Fr.trans FR2.out (qAP.Fr.of_below hb3))
  have BK3:=qAA.mk (qAW BK2.out hb3)
  clear ho3 hb3
  refine hK.out _ _ ((qAB BK3.out 3).trans rfl) (fun hHeld => ?_)
  clear hK K
  refine qBS (a' := ?_) ?_ ?_
  rotate_left
  ·show Act.put _ (some 57) _=_
   simp only [Act.put,qs1,qs2,qs3,qAR,qAT]
   rfl
  refine qAd (i:=8) (N:=some 0) (v := ?_) (a' := ?_) #[qT,qT,qT,qT,qT,qT,qT,qT,qT] rfl rfl (by kernel_rfl) (fun _ _ _ h=>h) (Or.inl ⟨by rfl, ?_⟩) ?_ ?_
  rotate_left
  ·intro w'
   go_simp
   with_reducible rfl
  rotate_left
  ·simp only [Act.put,qs1,qs2,qs3,qAR,qAT]
   rfl
  refine qBu (by kernel_rfl) ?_
  generalize (b ++ [6]).length=nb
  clear hz0 hy0 hz1 hy1
  try go_wp2
  clear HO1 HB1 FR1 BK1 BK HO HB FR HO2 HB2 FR2 BK2 HO0 HB0 HP HL
  go_loopg [0,5] k (fun kq v0 v5 w'=>∃ (bq:List Int) (i:Int),v5=.int .i64 i∧qAA (qAQ.l kq bq 5 f3 f4 i=some r)∧qAA (kq≤k)∧qAA (w'.heap[gb]?=some (.cells #[.int .i64 5,.int .i64 f1,.string f2,.slice A3 f3.length c3,.slice A4 f4.length c4] 25 (0,0)))∧qAA (Kd.R (Kd.int .u8) 5 w' w0.heap.size (fun _=>True) v0 bq)∧qAA (Below w0.heap.size w0 w')∧qAA (qAP.Fr w w'))
  case atStart=>exact ⟨_,0,rfl,H,⟨Nat.le_refl _⟩,BK3,⟨Kd.qA9 HO3.out (fun _ _=>trivial)⟩,HB3,FR3⟩
  case round =>
   clear H BK3 HO3 HB3 FR3
   obtain ⟨bq,i,rfl,HA,HK1,BK,HO,HB,FR⟩:=hrel
   cases gk with
   | zero=>exact absurd HA.out (by simp [qAQ.l])
   | succ k1 =>
    have H:=HA.out
    clear HA
    simp only [qAQ.l] at H
    have hz0:wr.cell? ⟨gb,0,none⟩=some (.int .i64 5):=(qAB BK.out 0).trans rfl;have hy0:=qAC BK.out 0;have hz3:wr.cell? ⟨gb,3,none⟩=some (.slice A3 f3.length c3):=(qAB BK.out 3).trans rfl;have hy3:=qAC BK.out 3;have hz4:wr.cell? ⟨gb,4,none⟩=some (.slice A4 f4.length c4):=(qAB BK.out 4).trans rfl;have hy4:=qAC BK.out 4
    by_cases c:i < (f3.length:Int)
    ·rw [if_pos c] at H
     have cb:decide (i < (f3.length:Int))=true:=decide_eq_true c
     by_cases p:0≤i
     ·rw [if_pos p] at H
      have pb:decide (0≤i)=true:=decide_eq_true p
      rw [if_pos trivial] at H
      obtain ⟨ad,A3x,c3x,A4x,c4x,ead,hx0,hx1,hx2,hx3,hx4,hl3,hi3,hl4,hi4⟩:=qCL HR3.out i p c
      cases ead
      have HI3:=qAA.mk hi3
      have HI4:=qAA.mk hi4
      have HL3:=qAA.mk hl3
      have HL4:=qAA.mk hl4
      clear hi3 hi4 hl3 hl4
      generalize qAU f3 i=x at *
      have HX0:=qAA.mk hx0
      have HX1:=qAA.mk hx1
      have HX2:=qAA.mk hx2
      have HX3:=qAA.mk hx3
      have HX4:=qAA.mk hx4
      clear hx0 hx1 hx2 hx3 hx4
      have hx0:=(HB.out.cell (qs4 w0 _ HX0.out)).trans HX0.out;have hx1:=(HB.out.cell (qs4 w0 _ HX1.out)).trans HX1.out;have hx2:=(HB.out.cell (qs4 w0 _ HX2.out)).trans HX2.out;have hx3:=(HB.out.cell (qs4 w0 _ HX3.out)).trans HX3.out;have hx4:=(HB.out.cell (qs4 w0 _ HX4.out)).trans HX4.out
      by_cases q:i < (f4.length:Int)
      case neg =>
       rw [if_neg q] at H
       exact absurd H (by simp)
      rw [if_pos q] at H
      have qb:decide (i < (f4.length:Int))=true:=decide_eq_true q
      obtain ⟨b3,hp,H2⟩:=Option.bind_eq_some_iff.mp H
      have HP:=qAA.mk hp
      clear hp H
      have H:=H2
      clear H2
      obtain ⟨ad4,ea4,hk⟩:=Kd.qBT HR4.out i p q
      cases ea4
      replace hk:=(HB.out.cell (qs4 w0 _ hk)).trans hk
      generalize rdOf ByteArray.empty f4 i=ki at *
      obtain ⟨b4,HW,H⟩:=Option.bind_eq_some_iff.mp H
      have HW:=qAA.mk HW
      have H':=qAA.mk H
      clear H
      obtain ⟨A2,c2,e2⟩:=Kd.qA4 HO.out
      subst e2
      go_wp2_with (first | (go_at_call 48;refine (qAp.calls k1 A2 c2 bq ki b3 wr (Kd.R_reads' HO.out).2.2 (Kd.R_reads' HO.out).2.1 HP.out).mono ?_;rintro e w3 ⟨v3,rfl,ho3,hb3⟩;clear HP hx0 hx1 hx2 hx3 hx4 hz0 hy0 hz3 hy3 hz4 hy4 hk;have HO3:=qAA.mk (Kd.qA9 (Kd.qBk ho3 HB.out.size) (fun _ _=>trivial));have HB3:=qAA.mk (qAw HB.out HB.out.size hb3);have FR3:=qAA.mk (qAP.Fr.trans FR.out (qAP.Fr.of_below hb3));have BK3:=qAA.mk (qAW BK.out hb3);clear ho3 hb3;have hx0:=(HB3.out.cell (qs4 w0 _ HX0.out)).trans HX0.out;have hx1:=(HB3.out.cell (qs4 w0 _ HX1.out)).trans HX1.out;have hx2:=(HB3.out.cell (qs4 w0 _ HX2.out)).trans HX2.out;have hx3:=(HB3.out.cell (qs4 w0 _ HX3.out)).trans HX3.out;have hx4:=(HB3.out.cell (qs4 w0 _ HX4.out)).trans HX4.out;have hz0:w3.cell? ⟨gb,0,none⟩=some (.int .i64 5):=(qAB BK3.out 0).trans rfl;have hy0:=qAC BK3.out 0;have hz3:w3.cell? ⟨gb,3,none⟩=some (.slice (some ad) f3.length c3):=(qAB BK3.out 3).trans rfl;have hy3:=qAC BK3.out 3;have hz4:w3.cell? ⟨gb,4,none⟩=some (.slice (some ad4) f4.length c4):=(qAB BK3.out 4).trans rfl;have hy4:=qAC BK3.out 4) | (go_at_call 35;refine (ih k1 (by have:=HK1.out;omega) v3 b3 x.f0 x.f1 x.f2 A3x c3x x.f3 A4x c4x x.f4 b4 _ HO3.out HB3.out HI3.out HL3.out HI4.out HL4.out HW.out).mono ?_;rintro e w4 ⟨v4,rfl,ho4⟩;have HO4:=qAA.mk ho4.own;have HB4:=qAA.mk ho4.bel;have FR4:=qAA.mk (qAP.Fr.trans FR3.out ho4.fr);have BK4:=qAA.mk (ho4.fr _ _ BK3.out);clear ho4))
      go_roundg k1
      case measure=>have:=HK1.out;omega
      case rel=>exact ⟨b4,wrap64 (i+1),(by first | rfl | (congr 1;unfold wrap64;omega)),H',⟨by have:=HK1.out;omega⟩,BK4,HO4,HB4,FR4⟩
     ·rw [if_neg p] at H
      exact absurd H (by simp)
    ·rw [if_neg c] at H
     have cb:decide (i < (f3.length:Int))=false:=decide_eq_false c
     obtain rfl:=Option.some.inj H
     go_wp2
     go_ret
     exact ⟨_,rfl,⟨HO.out,HB.out,FR.out⟩⟩
 rw [if_neg k5] at h
 have k5b:(f0 == 5)=false:=by simpa using k5
 have H:=qAA.mk h
 clear h k0 k1 k2 k3 k4
 have k5d:decide (f0=5)=false:=decide_eq_false k5
 go_enter Try.func35,Try.ntmps35
 go_wp2_with (first | ((with_reducible refine qAj (N:=3) rfl ?_);refine qAf ?hg (N:=3) ?hd (cs:=#[.int .i64 f0,.int .i64 f1,.string f2,.slice A3 f3.length c3,.slice A4 f4.length c4]) (t:=25) ?hr ?_;(case hd=>rfl);(case hg=>rfl);(case hr=>first | (go_simp;done) | (go_simp;rfl));intro gb hg w1 hbox hb1;have BK1:=qAA.mk hbox;have HO1:=qAA.mk (Kd.qBn (Kd.qBb HO0.out hb1) hbox (by decide));have HB1:=qAA.mk (qAw HB0.out HB0.out.size hb1);have FR1:=qAA.mk (qAP.Fr.of_below hb1);have hz0:w1.cell? ⟨gb,0,none⟩=some (.int .i64 f0):=(qAB BK1.out 0).trans rfl;have hy0:=qAC BK1.out 0;have hz1:w1.cell? ⟨gb,1,none⟩=some (.int .i64 f1):=(qAB BK1.out 1).trans rfl;have hy1:=qAC BK1.out 1;clear hb1 hbox hg))
 clear hz0 hy0 hz1 hy1
 clear HO0 HB0
 go_loopg [0,5] k (fun kq v0 v5 w'=>∃ (bq:List Int) (i:Int),v5=.int .i64 i∧qAA (qAQ.l kq bq f0 f3 f4 i=some r)∧qAA (kq≤k)∧qAA (w'.heap[gb]?=some (.cells #[.int .i64 f0,.int .i64 f1,.string f2,.slice A3 f3.length c3,.slice A4 f4.length c4] 25 (0,0)))∧qAA (Kd.R (Kd.int .u8) 5 w' w0.heap.size (fun _=>True) v0 bq)∧qAA (Below w0.heap.size w0 w')∧qAA (qAP.Fr w w'))
 case atStart=>exact ⟨_,0,rfl,H,⟨Nat.le_refl _⟩,BK1,⟨Kd.qA9 HO1.out (fun _ _=>trivial)⟩,HB1,FR1⟩
 case round =>
  clear H BK1 HO1 HB1 FR1
  obtain ⟨bq,i,rfl,HA,HK1,BK,HO,HB,FR⟩:=hrel
  cases gk with
  | zero=>exact absurd HA.out (by simp [qAQ.l])
  | succ k1 =>
   have H:=HA.out
   clear HA
   simp only [qAQ.l] at H
   have hz0:wr.cell? ⟨gb,0,none⟩=some (.int .i64 f0):=(qAB BK.out 0).trans rfl;have hy0:=qAC BK.out 0;have hz3:wr.cell? ⟨gb,3,none⟩=some (.slice A3 f3.length c3):=(qAB BK.out 3).trans rfl;have hy3:=qAC BK.out 3;have hz4:wr.cell? ⟨gb,4,none⟩=some (.slice A4 f4.length c4):=(qAB BK.out 4).trans rfl;have hy4:=qAC BK.out 4
   by_cases c:i < (f3.length:Int)
   ·rw [if_pos c] at H
    have cb:decide (i < (f3.length:Int))=true:=decide_eq_true c
    by_cases p:0≤i
    ·rw [if_pos p] at H
     have pb:decide (0≤i)=true:=decide_eq_true p
     rw [if_neg k5] at H
     obtain ⟨ad,A3x,c3x,A4x,c4x,ead,hx0,hx1,hx2,hx3,hx4,hl3,hi3,hl4,hi4⟩:=qCL HR3.out i p c
     cases ead
     have HI3:=qAA.mk hi3
     have HI4:=qAA.mk hi4
     have HL3:=qAA.mk hl3
     have HL4:=qAA.mk hl4
     clear hi3 hi4 hl3 hl4
     generalize qAU f3 i=x at *
     have HX0:=qAA.mk hx0
     have HX1:=qAA.mk hx1
     have HX2:=qAA.mk hx2
     have HX3:=qAA.mk hx3
     have HX4:=qAA.mk hx4
     clear hx0 hx1 hx2 hx3 hx4
     have hx0:=(HB.out.cell (qs4 w0 _ HX0.out)).trans HX0.out;have hx1:=(HB.out.cell (qs4 w0 _ HX1.out)).trans HX1.out;have hx2:=(HB.out.cell (qs4 w0 _ HX2.out)).trans HX2.out;have hx3:=(HB.out.cell (qs4 w0 _ HX3.out)).trans HX3.out;have hx4:=(HB.out.cell (qs4 w0 _ HX4.out)).trans HX4.out
     obtain ⟨b4,HW,H⟩:=Option.bind_eq_some_iff.mp H
     have HW:=qAA.mk HW
     have H':=qAA.mk H
     clear H
     obtain ⟨A2,c2,e2⟩:=Kd.qA4 HO.out
     subst e2
     go_wp2_with (go_at_call 35;refine (ih k1 (by have:=HK1.out;omega) (.slice A2 bq.length c2) bq x.f0 x.f1 x.f2 A3x c3x x.f3 A4x c4x x.f4 b4 _ HO.out HB.out HI3.out HL3.out HI4.out HL4.out HW.out).mono ?_;rintro e w4 ⟨v4,rfl,ho4⟩;have HO4:=qAA.mk ho4.own;have HB4:=qAA.mk ho4.bel;have FR4:=qAA.mk (qAP.Fr.trans FR.out ho4.fr);have BK4:=qAA.mk (ho4.fr _ _ BK.out);clear ho4)
     go_roundg k1
     case measure=>have:=HK1.out;omega
     case rel=>exact ⟨b4,wrap64 (i+1),(by first | rfl | (congr 1;unfold wrap64;omega)),H',⟨by have:=HK1.out;omega⟩,BK4,HO4,HB4,FR4⟩
    ·rw [if_neg p] at H
     exact absurd H (by simp)
   ·rw [if_neg c] at H
    have cb:decide (i < (f3.length:Int))=false:=decide_eq_false c
    obtain rfl:=Option.some.inj H
    go_wp2
    go_ret
    exact ⟨_,rfl,⟨HO.out,HB.out,FR.out⟩⟩
theorem qAQ.qBj:∀ k,(∀ y0 y1 y2 y3 y4 y5,LeO (qAQ.w k y0 y1 y2 y3 y4 y5) (qAQ.w (k+1) y0 y1 y2 y3 y4 y5))∧(∀ y0 y1 y2 y3 y4,LeO (qAQ.l k y0 y1 y2 y3 y4) (qAQ.l (k+1) y0 y1 y2 y3 y4)):=by
 intro k
 induction k with
 | zero=>exact ⟨fun _ _ _ _ _ _=>LeO.none _,fun _ _ _ _ _=>LeO.none _⟩
 | succ k ih =>
  obtain ⟨ih0,ih1⟩:=ih
  refine ⟨?_, ?_⟩
  ·intro y0 y1 y2 y3 y4 y5
   unfold qAQ.w
   repeat' first
   | (with_reducible exact ih0 _ _ _ _ _ _)
   | (with_reducible exact ih1 _ _ _ _ _)
   | (with_reducible exact qAu.mono _ _ _)
   | (with_reducible exact qAp.mono _ _ _)
   | (with_reducible exact qAS.mono _ _ _)
   | (with_reducible exact LeO.refl _)
   | (with_reducible exact LeO.none _)
   | (with_reducible refine LeO.ite ?_ ?_)
   | (with_reducible refine LeO.bind ?_ (fun _ => ?_))
  ·intro y0 y1 y2 y3 y4
   unfold qAQ.l
   repeat' first
   | (with_reducible exact ih0 _ _ _ _ _ _)
   | (with_reducible exact ih1 _ _ _ _ _)
   | (with_reducible exact qAu.mono _ _ _)
   | (with_reducible exact qAp.mono _ _ _)
   | (with_reducible exact qAS.mono _ _ _)
   | (with_reducible exact LeO.refl _)
   | (with_reducible exact LeO.none _)
   | (with_reducible refine LeO.ite ?_ ?_)
   | (with_reducible refine LeO.bind ?_ (fun _ => ?_))
theorem qAQ.mono:∀ a0 a1 a2 a3 a4 a5 k,LeO (qAQ.f k a0 a1 a2 a3 a4 a5) (qAQ.f (k+1) a0 a1 a2 a3 a4 a5):=fun a0 a1 a2 a3 a4 a5 k=>(qAQ.qBj k).1 a0 a1 a2 a3 a4 a5
end Go.Proofs.Ytnkbobblnhaclaa.X
