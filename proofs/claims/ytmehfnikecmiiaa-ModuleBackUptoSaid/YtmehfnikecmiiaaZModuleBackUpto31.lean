import Derived.Test.YtmehfnikecmiiaaZModuleBackUpto3
import Derived.Test.YtmehfnikecmiiaaZModuleBackUpto2
import Derived.Test.YtmehfnikecmiiaaZModuleBackUpto4
import Derived.WalkLawsBesides
import Derived.Laws.Pointers
import Derived.Shelf.Abstract
import Derived.Deep.DeepMust
import Derived.Deep.QuietTactic
import Derived.BigQuiet
import Derived.ChangeArms
import Derived.Test.YtmehfnikecmiiaaZModuleBackUpto30
import Derived.Laws.Rows
import Derived.Test.YtmehfnikecmiiaaZModuleBackUpto29
import Derived.Defers
import Derived.Recover
import Derived.Test.YtmehfnikecmiiaaZModuleBackUpto13
import Derived.Test.YtmehfnikecmiiaaZModuleBackUpto20
import Derived.Test.YtmehfnikecmiiaaZModuleBackUpto19
set_option linter.unusedVariables false
set_option linter.unusedSimpArgs false
namespace Go.Proofs.Ytmehfnikecmiiaa.X
open Go.RowKit Go.Proofs.YtmehfnikecmiiaaW.PrintWords Go.Proofs.YtmehfnikecmiiaaW.PrintLast Go.Proofs.YtmehfnikecmiiaaW.PrintMore Go.Proofs.YtmehfnikecmiiaaW
section
set_option maxHeartbeats 1000000
set_option maxRecDepth 100000
open Go.Proofs.Ytmehfnikecmiiaa Go.Proofs.Ytmehfnikecmiiaa.Pl
def mb.exBad (s:ByteArray) (m2:List S56):Prop:=¬ mb.isN s=true ∨ (0 < m2.length∧¬ Op.bytesLess (qAy m2 ((m2.length:Int) - 1)).f0.toList s.toList=true)
instance (s:ByteArray) (m2:List S56):Decidable (mb.exBad s m2):=by unfold mb.exBad;infer_instance
set_option maxHeartbeats 16000000 in
theorem mb.export58 {bs:List Int} (hb:Bytes bs) (hl:bs.length≤140737488351232) {w0 W:World} {g:Nat} {B:Option Addr} {cb:Nat} {a c d:Int} {v0 v1 v2:Value} {m0:List S48} {m1:List S52} {m2:List S56} (h:mb.RM w0 W g (fun k=>k ≠ g) B bs.length cb a c d v0 v1 v2 m0 m1 m2) (hC:(Kd.int .u8).C w0 B bs.length bs) (hcb:bs.length≤cb) (hn1:m1.length≤1000) (hn2:m2.length≤1000)
  {s:ByteArray} {a1 c1 d1 c2 d2 f a3 c3 d3 c4 d4:Int} (hs:s.size≤140737488351232)
  (q0:mb.txtF bs 20 a c d=(s,a1,c1,d1)) (q1:(if mb.exBad s m2 then (mb.flC c1 90,mb.flD c1 d1 a) else (c1,d1))=(c2,d2)) (q2:mb.numF bs 24 90 a1 c2 d2=(f,a3,c3,d3)) (q3:(if f ≥ (m1.length:Int) then (mb.flC c3 90,mb.flD c3 d3 a1) else (c3,d3))=(c4,d4)) :
  Calls Try.prog 58 #[.pointer (some ⟨g,0,none⟩)] W fun en W'=>en=.returned (.tuple #[])∧(∃ v,mb.RM w0 W' g (fun k=>k ≠ g) B bs.length cb a3 c4 d4 v0 v1 v m0 m1 (m2 ++ [⟨s,f⟩]))∧mb.FrS W W':=by
 have hu69:=Try.underlying69
 have hu56:=Try.underlying56
 have hu27:=Try.underlying27
 have hu25:=Try.underlying25
 have hu24:=Try.underlying24
 obtain ⟨A1,cc1,e1⟩:=Kd.qAZ h.r1
 subst e1
 obtain ⟨A2,cc2,e2⟩:=Kd.qAZ h.r2
 subst e2
 obtain ⟨n,hn⟩:∃ n,n=m2.length:=⟨_,rfl⟩
 obtain ⟨n1,hm⟩:∃ n,n=m1.length:=⟨_,rfl⟩
 have T0:=mb.text76 hb hl h hC hcb 20 (by omega)
 rw [q0] at T0
 dsimp only at T0
 rw [← hn,← hm] at h T0
 have H:=qAA.mk h
 have T0:=qAA.mk T0
 have N1:=qAA.mk (fun (W1:World) (ok:Nat→Prop) (v1 v2:Value) (k:mb.RM w0 W1 g ok B bs.length cb a1 c2 d2 v0 v1 v2 m0 m1 m2)=>mb.number60 hb hl k hC hcb 24 90 (by omega))
 rw [q2] at N1
 dsimp only at N1
 have HN:=qAA.mk hn;have HM:=qAA.mk hm
 have HN1:=qAA.mk hn1;have HN2:=qAA.mk hn2
 have ISN:=qAA.mk (fun (W1:World)=>mb.isname9 s hs W1)
 clear hb hl h hC hcb hn1 hn2 q0 q2 hs hn hm
 cases hi:mb.isN s with
 | false =>
  rw [hi] at ISN
  rw [if_pos (show mb.exBad s m2 from Or.inl (by rw [hi];decide))] at q1
  injection q1 with e1 e2
  subst e1;subst e2
  clear hi
  by_cases hbig:f ≥ (n1:Int)
  case pos =>
   rw [if_pos (by rw [← HM.out];exact hbig)] at q3
   injection q3 with e1 e2
   subst e1;subst e2
   have d6:decide (f ≥ (n1:Int))=true:=decide_eq_true hbig
   have d7:decide ((n1:Int)≤f)=true:=decide_eq_true hbig
   clear hbig
   go_enter Try.func58,Try.ntmps58
   have z1:W.cell? ⟨g,1,none⟩=some (.int .i64 a):=(qAB H.out.blk 1).trans rfl
   go_wp2_with (first | (go_at_call 76;refine T0.out.mono ?_;rintro e_ w1 ⟨rfl,hr,hf⟩;have H1:=qAA.mk hr;have F1:=qAA.mk (mb.FrS.qBl hf H.out.blk);clear hr hf z1;have H2:=qAA.mk (H1.out.sharp.below (W1:=w1.alloc (.cells #[.string s,.int .i64 0] 56)) (qAH (Below.refl _ _) _));have F2:=qAA.mk (F1.out.trans (mb.FrS.of_below (qAH (Below.refl w1.heap.size w1) (.cells #[.string s,.int .i64 0] 56))));have XB2:=qAA.mk (show (w1.alloc (.cells #[.string s,.int .i64 0] 56)).heap[w1.heap.size]?=some (.cells #[.string s,.int .i64 0] 56 (0,0)) from by simpa using heap_alloc_new w1 _);have HGX:=qAA.mk (show g ≠ w1.heap.size from by have:=qAX H1.out.blk;omega);have HGE:=qAA.mk (show w0.heap.size≤w1.heap.size from H1.out.bel.size);have z6:(w1.alloc (.cells #[.string s,.int .i64 0] 56)).cell? ⟨g,6,none⟩=some (.slice A2 n cc2):=(qAB H2.out.blk 6).trans rfl))
   clear z6
   generalize w1.alloc (.cells #[.string s,.int .i64 0] 56)=w2 at *
   generalize w1.heap.size=gx at *
   refine qAn (n:=23) (S:=fun w'=>w'.cell? ⟨gx,0,none⟩=some (.string s)) (ds:=[]) #[qF,qF,qF,qF,qF,qF,qF,qF,qF,qF,qF,qF,qF,qF,qF,qF,qF,qF,qF,qF,qF,qF,qF] (by kernel_rfl) rfl rfl ((qAB (qAJ XB2.out) 0).trans rfl) (fun hHeld => ?_)
   generalize hwd:w2.drew=wd at hHeld ⊢
   have Hd:=qAA.mk (hwd▸H2.out.below (qAM (Below.refl _ _)))
   have Fd:=qAA.mk (show mb.FrS W wd from hwd▸mb.FrS.trans F2.out (mb.FrS.of_below (qAM (Below.refl _ _))))
   have XBd:=qAA.mk (hwd▸qAJ XB2.out)
   clear hwd H2 F2 XB2
   refine pU 0 18 ?_
   refine tK 1 19 hHeld ?_
   refine one_ (i:=2) (N:=some 20) #[qT,qT,qT,qF,qF,qF,qF,qF,qF,qF,qF,qF,qF,qF,qF,qF,qF,qF,qF,qF,qF,qF,qF] rfl rfl (by kernel_rfl) (by decide) (fun K hK => ?_)
   refine qBJ Try.func9 (by kernel_rfl) rfl #[.string s] (by rfl) rfl rfl (by (try simp only [List.map_toArray,List.map_cons,List.map_nil]);first | done | rfl) ?_
   refine (ISN.out wd).mono ?_
   rintro e w3 ⟨rfl,hb⟩
   refine ⟨_,rfl, ?_⟩
   have H3:=qAA.mk (Hd.out.below hb)
   have XB3:=qAA.mk (qAL XBd.out hb)
   have F3:=qAA.mk (Fd.out.trans (mb.FrS.of_below hb))
   clear hb
   refine hK.out _ _ ((qAB XB3.out 0).trans rfl) (fun hHeld => ?_)
   clear hK K
   refine qAi (a' := ?_) ?_ ?_
   rotate_left
   ·show Act.put _ (some 20) _=_
    simp only [Act.put,qs1,qs2,qs3,qAR,qAT]
    rfl
   refine pU 3 21 ?_
   refine pU 4 22 ?_
   refine pN 5 23 ?_
   refine pN 6 24 ?_
   refine pN 7 25 ?_
   refine pN 8 26 ?_
   refine pN 9 27 ?_
   refine pN 10 28 ?_
   refine pN 11 29 ?_
   refine pN 12 30 ?_
   refine pN 13 31 ?_
   refine pN 14 32 ?_
   refine pN 15 33 ?_
   refine pN 16 34 ?_
   refine pN 17 35 ?_
   refine pN 18 36 ?_
   refine pN 19 37 ?_
   refine pN 20 38 ?_
   refine pN 21 39 ?_
   refine pU 22 40 ?_
   refine qA6 (by kernel_rfl) ?_
   have tkf:=qAA.mk True.intro
   go_wp2_with (first | (go_at_call 61;clear tkf;refine (mb.qB2 H3.out 90 a).mono ?_;rintro e_ w4 ⟨rfl,hr,hf⟩;have H4:=qAA.mk hr;have XB4:=qAA.mk (hf.2 gx (qAX XB3.out) HGX.out.symm |>.trans XB3.out);have F4:=qAA.mk (F3.out.trans (mb.FrS.qBl hf H3.out.blk));clear hr hf;have z1:=(qAB H4.out.blk 1).trans rfl) | (go_at_call 60;refine (N1.out _ _ _ _ H4.out).mono ?_;rintro e_ w5 ⟨rfl,hr,hf⟩;have H5:=qAA.mk hr;have XB5:=qAA.mk (hf.2 gx (qAX XB4.out) HGX.out.symm |>.trans XB4.out);have F5:=qAA.mk (F4.out.trans (mb.FrS.qBl hf H4.out.blk));clear hr hf z1;have x_:=(qAB XB5.out 1).trans rfl;have xf_:=qAC XB5.out 1))
   have H6:=qAA.mk (H5.out.far gx 1 (fun k hk=>Nat.ne_of_lt hk.2) HGX.out HGE.out (.int .i64 f))
   have XB6:=qAA.mk (show (w5.setCell ⟨gx,1,none⟩ (.int .i64 f)).heap[gx]?=some (.cells #[.string s,.int .i64 f] 56 (0,0)) from qAx XB5.out 1 _ rfl)
   have F6:=qAA.mk (mb.FrS.trans F5.out (mb.FrS.setX (u:=.int .i64 f) (j:=1) XB5.out))
   clear x_ xf_
   generalize w5.setCell ⟨gx,1,none⟩ (.int .i64 f)=w6 at *
   refine qAn (n:=9) (S:=fun w'=>w'.cell? ⟨gx,1,none⟩=some (.int .i64 f)∧w'.cell? ⟨g,5,none⟩=some (.slice A1 n1 cc1)) (ds:=[]) #[qF,qF,qF,qF,qF,qF,qF,qF,qF] (by kernel_rfl) rfl rfl ⟨(qAB (qAJ XB6.out) 1).trans rfl,(qAB (show w6.drew.heap[g]?=_ from H6.out.blk) 5).trans rfl⟩ (fun hHeld => ?_)
   generalize hwd:w6.drew=w7 at hHeld ⊢
   have H7:=qAA.mk (hwd▸H6.out.below (qAM (Below.refl _ _)))
   have F7:=qAA.mk (show mb.FrS W w7 from hwd▸mb.FrS.trans F6.out (mb.FrS.of_below (qAM (Below.refl _ _))))
   have XB7:=qAA.mk (hwd▸qAJ XB6.out)
   clear hwd
   refine pU 0 51 ?_
   refine pU 2 53 ?_
   refine pU 3 54 ?_
   refine pU 4 55 ?_
   refine pU 5 56 ?_
   refine tK 1 52 hHeld ?_
   refine tK 6 57 hHeld ?_
   refine pU 7 58 ?_
   refine pU 8 59 ?_
   refine qA6 (by kernel_rfl) ?_
   go_wp2_with (first | (go_at_call 61;refine (mb.qB2 H7.out 90 a1).mono ?_;rintro e_ w8 ⟨rfl,hr,hf⟩;have H8:=qAA.mk hr.weak;have XB8:=qAA.mk (hf.2 gx (qAX XB7.out) HGX.out.symm |>.trans XB7.out);have F8:=qAA.mk (F7.out.trans (mb.FrS.qBl hf H7.out.blk));clear hr hf))
   refine qAn (n:=13) (S:=fun w'=>w'.cell? ⟨g,6,none⟩=some (.slice A2 n cc2)∧w'.cell? ⟨gx,0,none⟩=some (.string s)∧w'.cell? ⟨gx,1,none⟩=some (.int .i64 f)) (ds:=[8,12]) #[qF,qF,qF,qF,qF,qF,qF,qF,qF,qF,qF,qF,qF] (by kernel_rfl) rfl rfl ⟨(qAB (show w8.drew.heap[g]?=_ from H8.out.blk) 6).trans rfl,(qAB (qAJ XB8.out) 0).trans rfl,(qAB (qAJ XB8.out) 1).trans rfl⟩ (fun hHeld => ?_)
   generalize hwd:w8.drew=we at hHeld ⊢
   have He:=qAA.mk (hwd▸H8.out.below (qAM (Below.refl _ _)))
   have Fe:=qAA.mk (show mb.FrS W we from hwd▸mb.FrS.trans F8.out (mb.FrS.of_below (qAM (Below.refl _ _))))
   have XBe:=qAA.mk (hwd▸qAJ XB8.out)
   clear hwd
   refine pU 0 63 ?_
   refine pU 1 64 ?_
   refine pU 2 65 ?_
   refine pU 3 66 ?_
   refine pU 4 67 ?_
   refine tK 5 68 hHeld ?_
   refine tK 6 69 hHeld ?_
   refine one_ (i:=7) (N:=some 70) #[qT,qT,qT,qT,qT,qT,qT,qT,qF,qF,qF,qF,qF] rfl rfl (by kernel_rfl) (by decide) (fun K hK => ?_)
   refine qBO (w1 := ?_) (v := ?_) (by rfl) rfl ?_ ?_
   rotate_left 2
   ·go_simp
    constructor
    ·rfl
    ·rfl
   refine hK.out _ _ ⟨(qAB (show (we.alloc _).heap[g]?=_ from qAK He.out.blk _) 6).trans rfl,(qAB (qAK XBe.out _) 0).trans rfl,(qAB (qAK XBe.out _) 1).trans rfl⟩ (fun hHeld => ?_)
   clear hK K
   refine qAi (a' := ?_) ?_ ?_
   rotate_left
   ·show Act.put _ (some 70) _=_
    simp only [Act.put,qs1,qs2,qs3,qAR,qAT]
    rfl
   refine qCD (i:=8) (N:=some 71) #[qT,qT,qT,qT,qT,qT,qT,qT,qT,qF,qF,qF,qF] rfl rfl (by kernel_rfl) (by decide) (fun K hK => ?_)
   refine Kd.qAq k56 (w0:=w0) w0.heap.size (by rfl) (.tmp 68) (.tmp 70) 25 56 (.agg #[.string ⟨#[]⟩,.int .i64 0]) 24 rfl Try.underlying25 info56 rfl (by decide) (by omega) (.slice A2 n cc2) m2 ⟨s,f⟩ [.string s,.int .i64 f] (fun k=>k ≠ g) (fun _=>False) rfl rfl ?aM (fun _ q=>q.elim) ?aN ?aO ?aB ?aS ?aL ?_
   (case aM=>exact k56_mkM _ _ _ _)
   (case aN=>exact fun k hk=>by have:=qAX He.out.blk;omega)
   (case aO=>exact He.out.r2)
   (case aB=>exact He.out.bel)
   (case aS=>exact He.out.bel.size)
   (case aL=>have:=HN2.out;omega)
   intro v11 w11 hr hbl hg hat
   obtain ⟨A11,c11,e11⟩:=Kd.qAZ hr
   subst e11
   rw [show (m2 ++ [(⟨s,f⟩:S56)]).length=m2.length+1 from by simp] at hr
   have G11:=qAA.mk (qAg He.out.blk hg (Kd.qCF He.out.r2 (fun _ hk=>hk)))
   have H11:=qAA.mk (fun (u:Value) (hu:u=.slice A11 (m2.length+1) c11)=>show mb.RM w0 (w11.setCell ⟨g,6,none⟩ u) g (fun k=>k ≠ g) B bs.length cb a3 _ _ v0 _ u m0 m1 (m2 ++ [⟨s,f⟩]) from ⟨qAx G11.out 6 _ rfl,Kd.qBL (mb.qBC He.out.r0 He.out.r2 hg (by decide)) (p:=⟨g,6,none⟩) (fun k hk=>hk) _,Kd.qBL (mb.qBC He.out.r1 He.out.r2 hg (by decide)) (p:=⟨g,6,none⟩) (fun k hk=>hk) _,Kd.qBL (hu▸hr) (p:=⟨g,6,none⟩) (fun k hk=>hk) _,qAQ hbl He.out.ge,He.out.ge,fun k hk=>hk⟩)
   have F11:=qAA.mk (Fe.out.trans (mb.FrS.grown hg (mb.own_t He.out.r2 (by decide))))
   have s5:=(qAB G11.out 6).trans rfl
   have s5f:=qAC G11.out 6
   clear hr hbl hg hat
   refine hK.out _ _ ?_
   clear hK K
   refine qAi (a' := ?_) ?_ ?_
   rotate_left
   ·show Act.put _ (some 71) _=_
    simp only [Act.put,qs1,qs2,qs3,qAR,qAT]
    rfl
   refine pU 9 72 ?_
   refine pU 10 73 ?_
   refine pU 11 74 ?_
   refine qCD (i:=12) (N:=none) #[qT,qT,qT,qT,qT,qT,qT,qT,qT,qT,qT,qT,qT] rfl rfl (by kernel_rfl) (by decide) (fun K hK => ?_)
   refine qCH (w1 := ?_) (by rfl) rfl ?_ ?_
   rotate_left
   ·go_simp
    rfl
   clear s5 s5f
   have H12:=qAA.mk (H11.out _ rfl)
   have F12:=qAA.mk (mb.FrS.trans F11.out (mb.FrS.setX (u:=.slice A11 (m2.length+1) c11) (j:=6) G11.out))
   refine hK.out _ _ ?_
   clear hK K
   refine qA6 (by kernel_rfl) ?_
   first | go_end0 | ((try simp only [Exit.inBlock,Exit.then]);refine bodyPost_ret (results_none rfl _ _ _) rfl ?_)
   exact ⟨rfl,⟨_,by have h_:=H12.out;rw [HM.out] at h_;exact h_⟩,F12.out⟩
  case neg =>
   rw [if_neg (by rw [← HM.out];exact hbig)] at q3
   injection q3 with e1 e2
   subst e1;subst e2
   have d6:decide (f ≥ (n1:Int))=false:=decide_eq_false hbig
   have d7:decide ((n1:Int)≤f)=false:=decide_eq_false hbig
   clear hbig
   go_enter Try.func58,Try.ntmps58
   have z1:W.cell? ⟨g,1,none⟩=some (.int .i64 a):=(qAB H.out.blk 1).trans rfl
   go_wp2_with (first | (go_at_call 76;refine T0.out.mono ?_;rintro e_ w1 ⟨rfl,hr,hf⟩;have H1:=qAA.mk hr;have F1:=qAA.mk (mb.FrS.qBl hf H.out.blk);clear hr hf z1;have H2:=qAA.mk (H1.out.sharp.below (W1:=w1.alloc (.cells #[.string s,.int .i64 0] 56)) (qAH (Below.refl _ _) _));have F2:=qAA.mk (F1.out.trans (mb.FrS.of_below (qAH (Below.refl w1.heap.size w1) (.cells #[.string s,.int .i64 0] 56))));have XB2:=qAA.mk (show (w1.alloc (.cells #[.string s,.int .i64 0] 56)).heap[w1.heap.size]?=some (.cells #[.string s,.int .i64 0] 56 (0,0)) from by simpa using heap_alloc_new w1 _);have HGX:=qAA.mk (show g ≠ w1.heap.size from by have:=qAX H1.out.blk;omega);have HGE:=qAA.mk (show w0.heap.size≤w1.heap.size from H1.out.bel.size);have z6:(w1.alloc (.cells #[.string s,.int .i64 0] 56)).cell? ⟨g,6,none⟩=some (.slice A2 n cc2):=(qAB H2.out.blk 6).trans rfl))
   clear z6
   generalize w1.alloc (.cells #[.string s,.int .i64 0] 56)=w2 at *
   generalize w1.heap.size=gx at *
   refine qAn (n:=23) (S:=fun w'=>w'.cell? ⟨gx,0,none⟩=some (.string s)) (ds:=[]) #[qF,qF,qF,qF,qF,qF,qF,qF,qF,qF,qF,qF,qF,qF,qF,qF,qF,qF,qF,qF,qF,qF,qF] (by kernel_rfl) rfl rfl ((qAB (qAJ XB2.out) 0).trans rfl) (fun hHeld => ?_)
   generalize hwd:w2.drew=wd at hHeld ⊢
   have Hd:=qAA.mk (hwd▸H2.out.below (qAM (Below.refl _ _)))
   have Fd:=qAA.mk (show mb.FrS W wd from hwd▸mb.FrS.trans F2.out (mb.FrS.of_below (qAM (Below.refl _ _))))
   have XBd:=qAA.mk (hwd▸qAJ XB2.out)
   clear hwd H2 F2 XB2
   refine pU 0 18 ?_
   refine tK 1 19 hHeld ?_
   refine one_ (i:=2) (N:=some 20) #[qT,qT,qT,qF,qF,qF,qF,qF,qF,qF,qF,qF,qF,qF,qF,qF,qF,qF,qF,qF,qF,qF,qF] rfl rfl (by kernel_rfl) (by decide) (fun K hK => ?_)
   refine qBJ Try.func9 (by kernel_rfl) rfl #[.string s] (by rfl) rfl rfl (by (try simp only [List.map_toArray,List.map_cons,List.map_nil]);first | done | rfl) ?_
   refine (ISN.out wd).mono ?_
   rintro e w3 ⟨rfl,hb⟩
   refine ⟨_,rfl, ?_⟩
   have H3:=qAA.mk (Hd.out.below hb)
   have XB3:=qAA.mk (qAL XBd.out hb)
   have F3:=qAA.mk (Fd.out.trans (mb.FrS.of_below hb))
   clear hb
   refine hK.out _ _ ((qAB XB3.out 0).trans rfl) (fun hHeld => ?_)
   clear hK K
   refine qAi (a' := ?_) ?_ ?_
   rotate_left
   ·show Act.put _ (some 20) _=_
    simp only [Act.put,qs1,qs2,qs3,qAR,qAT]
    rfl
   refine pU 3 21 ?_
   refine pU 4 22 ?_
   refine pN 5 23 ?_
   refine pN 6 24 ?_
   refine pN 7 25 ?_
   refine pN 8 26 ?_
   refine pN 9 27 ?_
   refine pN 10 28 ?_
   refine pN 11 29 ?_
   refine pN 12 30 ?_
   refine pN 13 31 ?_
   refine pN 14 32 ?_
   refine pN 15 33 ?_
   refine pN 16 34 ?_
   refine pN 17 35 ?_
   refine pN 18 36 ?_
   refine pN 19 37 ?_
   refine pN 20 38 ?_
   refine pN 21 39 ?_
   refine pU 22 40 ?_
   refine qA6 (by kernel_rfl) ?_
   have tkf:=qAA.mk True.intro
   go_wp2_with (first | (go_at_call 61;clear tkf;refine (mb.qB2 H3.out 90 a).mono ?_;rintro e_ w4 ⟨rfl,hr,hf⟩;have H4:=qAA.mk hr;have XB4:=qAA.mk (hf.2 gx (qAX XB3.out) HGX.out.symm |>.trans XB3.out);have F4:=qAA.mk (F3.out.trans (mb.FrS.qBl hf H3.out.blk));clear hr hf;have z1:=(qAB H4.out.blk 1).trans rfl) | (go_at_call 60;refine (N1.out _ _ _ _ H4.out).mono ?_;rintro e_ w5 ⟨rfl,hr,hf⟩;have H5:=qAA.mk hr;have XB5:=qAA.mk (hf.2 gx (qAX XB4.out) HGX.out.symm |>.trans XB4.out);have F5:=qAA.mk (F4.out.trans (mb.FrS.qBl hf H4.out.blk));clear hr hf z1;have x_:=(qAB XB5.out 1).trans rfl;have xf_:=qAC XB5.out 1))
   have H6:=qAA.mk (H5.out.far gx 1 (fun k hk=>Nat.ne_of_lt hk.2) HGX.out HGE.out (.int .i64 f))
   have XB6:=qAA.mk (show (w5.setCell ⟨gx,1,none⟩ (.int .i64 f)).heap[gx]?=some (.cells #[.string s,.int .i64 f] 56 (0,0)) from qAx XB5.out 1 _ rfl)
   have F6:=qAA.mk (mb.FrS.trans F5.out (mb.FrS.setX (u:=.int .i64 f) (j:=1) XB5.out))
   clear x_ xf_
   generalize w5.setCell ⟨gx,1,none⟩ (.int .i64 f)=w6 at *
   refine qAn (n:=9) (S:=fun w'=>w'.cell? ⟨gx,1,none⟩=some (.int .i64 f)∧w'.cell? ⟨g,5,none⟩=some (.slice A1 n1 cc1)) (ds:=[]) #[qF,qF,qF,qF,qF,qF,qF,qF,qF] (by kernel_rfl) rfl rfl ⟨(qAB (qAJ XB6.out) 1).trans rfl,(qAB (show w6.drew.heap[g]?=_ from H6.out.blk) 5).trans rfl⟩ (fun hHeld => ?_)
   generalize hwd:w6.drew=w7 at hHeld ⊢
   have H7:=qAA.mk (hwd▸H6.out.below (qAM (Below.refl _ _)))
   have F7:=qAA.mk (show mb.FrS W w7 from hwd▸mb.FrS.trans F6.out (mb.FrS.of_below (qAM (Below.refl _ _))))
   have XB7:=qAA.mk (hwd▸qAJ XB6.out)
   clear hwd
   refine pU 0 51 ?_
   refine pU 2 53 ?_
   refine pU 3 54 ?_
   refine pU 4 55 ?_
   refine pU 5 56 ?_
   refine tK 1 52 hHeld ?_
   refine tK 6 57 hHeld ?_
   refine pU 7 58 ?_
   refine pU 8 59 ?_
   refine qA6 (by kernel_rfl) ?_
   go_wp2
   have H8:=qAA.mk H7.out.weak
   have XB8:=XB7
   have F8:=F7
   clear H7 XB7 F7
   obtain ⟨w8,hw8⟩:∃ w8,w8=w7:=⟨_,rfl⟩
   rw [← hw8] at H8 XB8 F8 ⊢
   clear hw8
   refine qAn (n:=13) (S:=fun w'=>w'.cell? ⟨g,6,none⟩=some (.slice A2 n cc2)∧w'.cell? ⟨gx,0,none⟩=some (.string s)∧w'.cell? ⟨gx,1,none⟩=some (.int .i64 f)) (ds:=[8,12]) #[qF,qF,qF,qF,qF,qF,qF,qF,qF,qF,qF,qF,qF] (by kernel_rfl) rfl rfl ⟨(qAB (show w8.drew.heap[g]?=_ from H8.out.blk) 6).trans rfl,(qAB (qAJ XB8.out) 0).trans rfl,(qAB (qAJ XB8.out) 1).trans rfl⟩ (fun hHeld => ?_)
   generalize hwd:w8.drew=we at hHeld ⊢
   have He:=qAA.mk (hwd▸H8.out.below (qAM (Below.refl _ _)))
   have Fe:=qAA.mk (show mb.FrS W we from hwd▸mb.FrS.trans F8.out (mb.FrS.of_below (qAM (Below.refl _ _))))
   have XBe:=qAA.mk (hwd▸qAJ XB8.out)
   clear hwd
   refine pU 0 63 ?_
   refine pU 1 64 ?_
   refine pU 2 65 ?_
   refine pU 3 66 ?_
   refine pU 4 67 ?_
   refine tK 5 68 hHeld ?_
   refine tK 6 69 hHeld ?_
   refine one_ (i:=7) (N:=some 70) #[qT,qT,qT,qT,qT,qT,qT,qT,qF,qF,qF,qF,qF] rfl rfl (by kernel_rfl) (by decide) (fun K hK => ?_)
   refine qBO (w1 := ?_) (v := ?_) (by rfl) rfl ?_ ?_
   rotate_left 2
   ·go_simp
    constructor
    ·rfl
    ·rfl
   refine hK.out _ _ ⟨(qAB (show (we.alloc _).heap[g]?=_ from qAK He.out.blk _) 6).trans rfl,(qAB (qAK XBe.out _) 0).trans rfl,(qAB (qAK XBe.out _) 1).trans rfl⟩ (fun hHeld => ?_)
   clear hK K
   refine qAi (a' := ?_) ?_ ?_
   rotate_left
   ·show Act.put _ (some 70) _=_
    simp only [Act.put,qs1,qs2,qs3,qAR,qAT]
    rfl
   refine qCD (i:=8) (N:=some 71) #[qT,qT,qT,qT,qT,qT,qT,qT,qT,qF,qF,qF,qF] rfl rfl (by kernel_rfl) (by decide) (fun K hK => ?_)
   refine Kd.qAq k56 (w0:=w0) w0.heap.size (by rfl) (.tmp 68) (.tmp 70) 25 56 (.agg #[.string ⟨#[]⟩,.int .i64 0]) 24 rfl Try.underlying25 info56 rfl (by decide) (by omega) (.slice A2 n cc2) m2 ⟨s,f⟩ [.string s,.int .i64 f] (fun k=>k ≠ g) (fun _=>False) rfl rfl ?aM (fun _ q=>q.elim) ?aN ?aO ?aB ?aS ?aL ?_
   (case aM=>exact k56_mkM _ _ _ _)
   (case aN=>exact fun k hk=>by have:=qAX He.out.blk;omega)
   (case aO=>exact He.out.r2)
   (case aB=>exact He.out.bel)
   (case aS=>exact He.out.bel.size)
   (case aL=>have:=HN2.out;omega)
   intro v11 w11 hr hbl hg hat
   obtain ⟨A11,c11,e11⟩:=Kd.qAZ hr
   subst e11
   rw [show (m2 ++ [(⟨s,f⟩:S56)]).length=m2.length+1 from by simp] at hr
   have G11:=qAA.mk (qAg He.out.blk hg (Kd.qCF He.out.r2 (fun _ hk=>hk)))
   have H11:=qAA.mk (fun (u:Value) (hu:u=.slice A11 (m2.length+1) c11)=>show mb.RM w0 (w11.setCell ⟨g,6,none⟩ u) g (fun k=>k ≠ g) B bs.length cb a3 _ _ v0 _ u m0 m1 (m2 ++ [⟨s,f⟩]) from ⟨qAx G11.out 6 _ rfl,Kd.qBL (mb.qBC He.out.r0 He.out.r2 hg (by decide)) (p:=⟨g,6,none⟩) (fun k hk=>hk) _,Kd.qBL (mb.qBC He.out.r1 He.out.r2 hg (by decide)) (p:=⟨g,6,none⟩) (fun k hk=>hk) _,Kd.qBL (hu▸hr) (p:=⟨g,6,none⟩) (fun k hk=>hk) _,qAQ hbl He.out.ge,He.out.ge,fun k hk=>hk⟩)
   have F11:=qAA.mk (Fe.out.trans (mb.FrS.grown hg (mb.own_t He.out.r2 (by decide))))
   have s5:=(qAB G11.out 6).trans rfl
   have s5f:=qAC G11.out 6
   clear hr hbl hg hat
   refine hK.out _ _ ?_
   clear hK K
   refine qAi (a' := ?_) ?_ ?_
   rotate_left
   ·show Act.put _ (some 71) _=_
    simp only [Act.put,qs1,qs2,qs3,qAR,qAT]
    rfl
   refine pU 9 72 ?_
   refine pU 10 73 ?_
   refine pU 11 74 ?_
   refine qCD (i:=12) (N:=none) #[qT,qT,qT,qT,qT,qT,qT,qT,qT,qT,qT,qT,qT] rfl rfl (by kernel_rfl) (by decide) (fun K hK => ?_)
   refine qCH (w1 := ?_) (by rfl) rfl ?_ ?_
   rotate_left
   ·go_simp
    rfl
   clear s5 s5f
   have H12:=qAA.mk (H11.out _ rfl)
   have F12:=qAA.mk (mb.FrS.trans F11.out (mb.FrS.setX (u:=.slice A11 (m2.length+1) c11) (j:=6) G11.out))
   refine hK.out _ _ ?_
   clear hK K
   refine qA6 (by kernel_rfl) ?_
   first | go_end0 | ((try simp only [Exit.inBlock,Exit.then]);refine bodyPost_ret (results_none rfl _ _ _) rfl ?_)
   exact ⟨rfl,⟨_,by have h_:=H12.out;rw [HM.out] at h_;exact h_⟩,F12.out⟩
 | true =>
  rw [hi] at ISN
  rcases Nat.eq_zero_or_pos n with hn0 | hn0
  ·rw [if_neg (show ¬ mb.exBad s m2 from by
    have:=HN.out
    rintro (q | ⟨q,_⟩)
    ·exact q hi
    ·omega)] at q1
   injection q1 with e1 e2
   subst e1;subst e2
   subst hn0
   clear hi
   by_cases hbig:f ≥ (n1:Int)
   case pos =>
    rw [if_pos (by rw [← HM.out];exact hbig)] at q3
    injection q3 with e1 e2
    subst e1;subst e2
    have d6:decide (f ≥ (n1:Int))=true:=decide_eq_true hbig
    have d7:decide ((n1:Int)≤f)=true:=decide_eq_true hbig
    clear hbig
    go_enter Try.func58,Try.ntmps58
    have z1:W.cell? ⟨g,1,none⟩=some (.int .i64 a):=(qAB H.out.blk 1).trans rfl
    go_wp2_with (first | (go_at_call 76;refine T0.out.mono ?_;rintro e_ w1 ⟨rfl,hr,hf⟩;have H1:=qAA.mk hr;have F1:=qAA.mk (mb.FrS.qBl hf H.out.blk);clear hr hf z1;have H2:=qAA.mk (H1.out.sharp.below (W1:=w1.alloc (.cells #[.string s,.int .i64 0] 56)) (qAH (Below.refl _ _) _));have F2:=qAA.mk (F1.out.trans (mb.FrS.of_below (qAH (Below.refl w1.heap.size w1) (.cells #[.string s,.int .i64 0] 56))));have XB2:=qAA.mk (show (w1.alloc (.cells #[.string s,.int .i64 0] 56)).heap[w1.heap.size]?=some (.cells #[.string s,.int .i64 0] 56 (0,0)) from by simpa using heap_alloc_new w1 _);have HGX:=qAA.mk (show g ≠ w1.heap.size from by have:=qAX H1.out.blk;omega);have HGE:=qAA.mk (show w0.heap.size≤w1.heap.size from H1.out.bel.size);have z6:(w1.alloc (.cells #[.string s,.int .i64 0] 56)).cell? ⟨g,6,none⟩=some (.slice A2 0 cc2):=(qAB H2.out.blk 6).trans rfl))
    clear z6
    generalize w1.alloc (.cells #[.string s,.int .i64 0] 56)=w2 at *
    generalize w1.heap.size=gx at *
    refine qAn (n:=23) (S:=fun w'=>w'.cell? ⟨gx,0,none⟩=some (.string s)) (ds:=[]) #[qF,qF,qF,qF,qF,qF,qF,qF,qF,qF,qF,qF,qF,qF,qF,qF,qF,qF,qF,qF,qF,qF,qF] (by kernel_rfl) rfl rfl ((qAB (qAJ XB2.out) 0).trans rfl) (fun hHeld => ?_)
    generalize hwd:w2.drew=wd at hHeld ⊢
    have Hd:=qAA.mk (hwd▸H2.out.below (qAM (Below.refl _ _)))
    have Fd:=qAA.mk (show mb.FrS W wd from hwd▸mb.FrS.trans F2.out (mb.FrS.of_below (qAM (Below.refl _ _))))
    have XBd:=qAA.mk (hwd▸qAJ XB2.out)
    clear hwd H2 F2 XB2
    refine pU 0 18 ?_
    refine tK 1 19 hHeld ?_
    refine one_ (i:=2) (N:=some 20) #[qT,qT,qT,qF,qF,qF,qF,qF,qF,qF,qF,qF,qF,qF,qF,qF,qF,qF,qF,qF,qF,qF,qF] rfl rfl (by kernel_rfl) (by decide) (fun K hK => ?_)
    refine qBJ Try.func9 (by kernel_rfl) rfl #[.string s] (by rfl) rfl rfl (by (try simp only [List.map_toArray,List.map_cons,List.map_nil]);first | done | rfl) ?_
    refine (ISN.out wd).mono ?_
    rintro e w3 ⟨rfl,hb⟩
    refine ⟨_,rfl, ?_⟩
    have H3:=qAA.mk (Hd.out.below hb)
    have XB3:=qAA.mk (qAL XBd.out hb)
    have F3:=qAA.mk (Fd.out.trans (mb.FrS.of_below hb))
    clear hb
    refine hK.out _ _ ((qAB XB3.out 0).trans rfl) (fun hHeld => ?_)
    clear hK K
    refine qAi (a' := ?_) ?_ ?_
    rotate_left
    ·show Act.put _ (some 20) _=_
     simp only [Act.put,qs1,qs2,qs3,qAR,qAT]
     rfl
    refine pU 3 21 ?_
    refine pU 4 22 ?_
    refine pU 5 23 ?_
    refine pU 6 24 ?_
    refine pU 7 25 ?_
    refine pN 8 26 ?_
    refine pN 9 27 ?_
    refine pN 10 28 ?_
    refine pN 11 29 ?_
    refine pN 12 30 ?_
    refine pN 13 31 ?_
    refine pN 14 32 ?_
    refine pN 15 33 ?_
    refine pN 16 34 ?_
    refine pN 17 35 ?_
    refine pN 18 36 ?_
    refine pN 19 37 ?_
    refine pN 20 38 ?_
    refine pU 21 39 ?_
    refine pU 22 40 ?_
    refine qA6 (by kernel_rfl) ?_
    have z1:w3.cell? ⟨g,1,none⟩=some (.int .i64 a1):=(qAB H3.out.blk 1).trans rfl
    go_wp2_with (first | (go_at_call 60;refine (N1.out _ _ _ _ H3.out).mono ?_;rintro e_ w5 ⟨rfl,hr,hf⟩;have H5:=qAA.mk hr;have XB5:=qAA.mk (hf.2 gx (qAX XB3.out) HGX.out.symm |>.trans XB3.out);have F5:=qAA.mk (F3.out.trans (mb.FrS.qBl hf H3.out.blk));clear hr hf z1;have x_:=(qAB XB5.out 1).trans rfl;have xf_:=qAC XB5.out 1))
    have H6:=qAA.mk (H5.out.far gx 1 (fun k hk=>Nat.ne_of_lt hk.2) HGX.out HGE.out (.int .i64 f))
    have XB6:=qAA.mk (show (w5.setCell ⟨gx,1,none⟩ (.int .i64 f)).heap[gx]?=some (.cells #[.string s,.int .i64 f] 56 (0,0)) from qAx XB5.out 1 _ rfl)
    have F6:=qAA.mk (mb.FrS.trans F5.out (mb.FrS.setX (u:=.int .i64 f) (j:=1) XB5.out))
    clear x_ xf_
    generalize w5.setCell ⟨gx,1,none⟩ (.int .i64 f)=w6 at *
    refine qAn (n:=9) (S:=fun w'=>w'.cell? ⟨gx,1,none⟩=some (.int .i64 f)∧w'.cell? ⟨g,5,none⟩=some (.slice A1 n1 cc1)) (ds:=[]) #[qF,qF,qF,qF,qF,qF,qF,qF,qF] (by kernel_rfl) rfl rfl ⟨(qAB (qAJ XB6.out) 1).trans rfl,(qAB (show w6.drew.heap[g]?=_ from H6.out.blk) 5).trans rfl⟩ (fun hHeld => ?_)
    generalize hwd:w6.drew=w7 at hHeld ⊢
    have H7:=qAA.mk (hwd▸H6.out.below (qAM (Below.refl _ _)))
    have F7:=qAA.mk (show mb.FrS W w7 from hwd▸mb.FrS.trans F6.out (mb.FrS.of_below (qAM (Below.refl _ _))))
    have XB7:=qAA.mk (hwd▸qAJ XB6.out)
    clear hwd
    refine pU 0 51 ?_
    refine pU 2 53 ?_
    refine pU 3 54 ?_
    refine pU 4 55 ?_
    refine pU 5 56 ?_
    refine tK 1 52 hHeld ?_
    refine tK 6 57 hHeld ?_
    refine pU 7 58 ?_
    refine pU 8 59 ?_
    refine qA6 (by kernel_rfl) ?_
    go_wp2_with (first | (go_at_call 61;refine (mb.qB2 H7.out 90 a1).mono ?_;rintro e_ w8 ⟨rfl,hr,hf⟩;have H8:=qAA.mk hr.weak;have XB8:=qAA.mk (hf.2 gx (qAX XB7.out) HGX.out.symm |>.trans XB7.out);have F8:=qAA.mk (F7.out.trans (mb.FrS.qBl hf H7.out.blk));clear hr hf))
    refine qAn (n:=13) (S:=fun w'=>w'.cell? ⟨g,6,none⟩=some (.slice A2 0 cc2)∧w'.cell? ⟨gx,0,none⟩=some (.string s)∧w'.cell? ⟨gx,1,none⟩=some (.int .i64 f)) (ds:=[8,12]) #[qF,qF,qF,qF,qF,qF,qF,qF,qF,qF,qF,qF,qF] (by kernel_rfl) rfl rfl ⟨(qAB (show w8.drew.heap[g]?=_ from H8.out.blk) 6).trans rfl,(qAB (qAJ XB8.out) 0).trans rfl,(qAB (qAJ XB8.out) 1).trans rfl⟩ (fun hHeld => ?_)
    generalize hwd:w8.drew=we at hHeld ⊢
    have He:=qAA.mk (hwd▸H8.out.below (qAM (Below.refl _ _)))
    have Fe:=qAA.mk (show mb.FrS W we from hwd▸mb.FrS.trans F8.out (mb.FrS.of_below (qAM (Below.refl _ _))))
    have XBe:=qAA.mk (hwd▸qAJ XB8.out)
    clear hwd
    refine pU 0 63 ?_
    refine pU 1 64 ?_
    refine pU 2 65 ?_
    refine pU 3 66 ?_
    refine pU 4 67 ?_
    refine tK 5 68 hHeld ?_
    refine tK 6 69 hHeld ?_
    refine one_ (i:=7) (N:=some 70) #[qT,qT,qT,qT,qT,qT,qT,qT,qF,qF,qF,qF,qF] rfl rfl (by kernel_rfl) (by decide) (fun K hK => ?_)
    refine qBO (w1 := ?_) (v := ?_) (by rfl) rfl ?_ ?_
    rotate_left 2
    ·go_simp
     constructor
     ·rfl
     ·rfl
    refine hK.out _ _ ⟨(qAB (show (we.alloc _).heap[g]?=_ from qAK He.out.blk _) 6).trans rfl,(qAB (qAK XBe.out _) 0).trans rfl,(qAB (qAK XBe.out _) 1).trans rfl⟩ (fun hHeld => ?_)
    clear hK K
    refine qAi (a' := ?_) ?_ ?_
    rotate_left
    ·show Act.put _ (some 70) _=_
     simp only [Act.put,qs1,qs2,qs3,qAR,qAT]
     rfl
    refine qCD (i:=8) (N:=some 71) #[qT,qT,qT,qT,qT,qT,qT,qT,qT,qF,qF,qF,qF] rfl rfl (by kernel_rfl) (by decide) (fun K hK => ?_)
    refine Kd.qAq k56 (w0:=w0) w0.heap.size (by rfl) (.tmp 68) (.tmp 70) 25 56 (.agg #[.string ⟨#[]⟩,.int .i64 0]) 24 rfl Try.underlying25 info56 rfl (by decide) (by omega) (.slice A2 0 cc2) m2 ⟨s,f⟩ [.string s,.int .i64 f] (fun k=>k ≠ g) (fun _=>False) rfl rfl ?aM (fun _ q=>q.elim) ?aN ?aO ?aB ?aS ?aL ?_
    (case aM=>exact k56_mkM _ _ _ _)
    (case aN=>exact fun k hk=>by have:=qAX He.out.blk;omega)
    (case aO=>exact He.out.r2)
    (case aB=>exact He.out.bel)
    (case aS=>exact He.out.bel.size)
    (case aL=>have:=HN2.out;omega)
    intro v11 w11 hr hbl hg hat
    obtain ⟨A11,c11,e11⟩:=Kd.qAZ hr
    subst e11
    rw [show (m2 ++ [(⟨s,f⟩:S56)]).length=m2.length+1 from by simp] at hr
    have G11:=qAA.mk (qAg He.out.blk hg (Kd.qCF He.out.r2 (fun _ hk=>hk)))
    have H11:=qAA.mk (fun (u:Value) (hu:u=.slice A11 (m2.length+1) c11)=>show mb.RM w0 (w11.setCell ⟨g,6,none⟩ u) g (fun k=>k ≠ g) B bs.length cb a3 _ _ v0 _ u m0 m1 (m2 ++ [⟨s,f⟩]) from ⟨qAx G11.out 6 _ rfl,Kd.qBL (mb.qBC He.out.r0 He.out.r2 hg (by decide)) (p:=⟨g,6,none⟩) (fun k hk=>hk) _,Kd.qBL (mb.qBC He.out.r1 He.out.r2 hg (by decide)) (p:=⟨g,6,none⟩) (fun k hk=>hk) _,Kd.qBL (hu▸hr) (p:=⟨g,6,none⟩) (fun k hk=>hk) _,qAQ hbl He.out.ge,He.out.ge,fun k hk=>hk⟩)
    have F11:=qAA.mk (Fe.out.trans (mb.FrS.grown hg (mb.own_t He.out.r2 (by decide))))
    have s5:=(qAB G11.out 6).trans rfl
    have s5f:=qAC G11.out 6
    clear hr hbl hg hat
    refine hK.out _ _ ?_
    clear hK K
    refine qAi (a' := ?_) ?_ ?_
    rotate_left
    ·show Act.put _ (some 71) _=_
     simp only [Act.put,qs1,qs2,qs3,qAR,qAT]
     rfl
    refine pU 9 72 ?_
    refine pU 10 73 ?_
    refine pU 11 74 ?_
    refine qCD (i:=12) (N:=none) #[qT,qT,qT,qT,qT,qT,qT,qT,qT,qT,qT,qT,qT] rfl rfl (by kernel_rfl) (by decide) (fun K hK => ?_)
    refine qCH (w1 := ?_) (by rfl) rfl ?_ ?_
    rotate_left
    ·go_simp
     rfl
    clear s5 s5f
    have H12:=qAA.mk (H11.out _ rfl)
    have F12:=qAA.mk (mb.FrS.trans F11.out (mb.FrS.setX (u:=.slice A11 (m2.length+1) c11) (j:=6) G11.out))
    refine hK.out _ _ ?_
    clear hK K
    refine qA6 (by kernel_rfl) ?_
    first | go_end0 | ((try simp only [Exit.inBlock,Exit.then]);refine bodyPost_ret (results_none rfl _ _ _) rfl ?_)
    exact ⟨rfl,⟨_,by have h_:=H12.out;rw [HM.out] at h_;exact h_⟩,F12.out⟩
   case neg =>
    rw [if_neg (by rw [← HM.out];exact hbig)] at q3
    injection q3 with e1 e2
    subst e1;subst e2
    have d6:decide (f ≥ (n1:Int))=false:=decide_eq_false hbig
    have d7:decide ((n1:Int)≤f)=false:=decide_eq_false hbig
    clear hbig
    go_enter Try.func58,Try.ntmps58
    have z1:W.cell? ⟨g,1,none⟩=some (.int .i64 a):=(qAB H.out.blk 1).trans rfl
    go_wp2_with (first | (go_at_call 76;refine T0.out.mono ?_;rintro e_ w1 ⟨rfl,hr,hf⟩;have H1:=qAA.mk hr;have F1:=qAA.mk (mb.FrS.qBl hf H.out.blk);clear hr hf z1;have H2:=qAA.mk (H1.out.sharp.below (W1:=w1.alloc (.cells #[.string s,.int .i64 0] 56)) (qAH (Below.refl _ _) _));have F2:=qAA.mk (F1.out.trans (mb.FrS.of_below (qAH (Below.refl w1.heap.size w1) (.cells #[.string s,.int .i64 0] 56))));have XB2:=qAA.mk (show (w1.alloc (.cells #[.string s,.int .i64 0] 56)).heap[w1.heap.size]?=some (.cells #[.string s,.int .i64 0] 56 (0,0)) from by simpa using heap_alloc_new w1 _);have HGX:=qAA.mk (show g ≠ w1.heap.size from by have:=qAX H1.out.blk;omega);have HGE:=qAA.mk (show w0.heap.size≤w1.heap.size from H1.out.bel.size);have z6:(w1.alloc (.cells #[.string s,.int .i64 0] 56)).cell? ⟨g,6,none⟩=some (.slice A2 0 cc2):=(qAB H2.out.blk 6).trans rfl))
    clear z6
    generalize w1.alloc (.cells #[.string s,.int .i64 0] 56)=w2 at *
    generalize w1.heap.size=gx at *
    refine qAn (n:=23) (S:=fun w'=>w'.cell? ⟨gx,0,none⟩=some (.string s)) (ds:=[]) #[qF,qF,qF,qF,qF,qF,qF,qF,qF,qF,qF,qF,qF,qF,qF,qF,qF,qF,qF,qF,qF,qF,qF] (by kernel_rfl) rfl rfl ((qAB (qAJ XB2.out) 0).trans rfl) (fun hHeld => ?_)
    generalize hwd:w2.drew=wd at hHeld ⊢
    have Hd:=qAA.mk (hwd▸H2.out.below (qAM (Below.refl _ _)))
    have Fd:=qAA.mk (show mb.FrS W wd from hwd▸mb.FrS.trans F2.out (mb.FrS.of_below (qAM (Below.refl _ _))))
    have XBd:=qAA.mk (hwd▸qAJ XB2.out)
    clear hwd H2 F2 XB2
    refine pU 0 18 ?_
    refine tK 1 19 hHeld ?_
    refine one_ (i:=2) (N:=some 20) #[qT,qT,qT,qF,qF,qF,qF,qF,qF,qF,qF,qF,qF,qF,qF,qF,qF,qF,qF,qF,qF,qF,qF] rfl rfl (by kernel_rfl) (by decide) (fun K hK => ?_)
    refine qBJ Try.func9 (by kernel_rfl) rfl #[.string s] (by rfl) rfl rfl (by (try simp only [List.map_toArray,List.map_cons,List.map_nil]);first | done | rfl) ?_
    refine (ISN.out wd).mono ?_
    rintro e w3 ⟨rfl,hb⟩
    refine ⟨_,rfl, ?_⟩
    have H3:=qAA.mk (Hd.out.below hb)
    have XB3:=qAA.mk (qAL XBd.out hb)
    have F3:=qAA.mk (Fd.out.trans (mb.FrS.of_below hb))
    clear hb
    refine hK.out _ _ ((qAB XB3.out 0).trans rfl) (fun hHeld => ?_)
    clear hK K
    refine qAi (a' := ?_) ?_ ?_
    rotate_left
    ·show Act.put _ (some 20) _=_
     simp only [Act.put,qs1,qs2,qs3,qAR,qAT]
     rfl
    refine pU 3 21 ?_
    refine pU 4 22 ?_
    refine pU 5 23 ?_
    refine pU 6 24 ?_
    refine pU 7 25 ?_
    refine pN 8 26 ?_
    refine pN 9 27 ?_
    refine pN 10 28 ?_
    refine pN 11 29 ?_
    refine pN 12 30 ?_
    refine pN 13 31 ?_
    refine pN 14 32 ?_
    refine pN 15 33 ?_
    refine pN 16 34 ?_
    refine pN 17 35 ?_
    refine pN 18 36 ?_
    refine pN 19 37 ?_
    refine pN 20 38 ?_
    refine pU 21 39 ?_
    refine pU 22 40 ?_
    refine qA6 (by kernel_rfl) ?_
    have z1:w3.cell? ⟨g,1,none⟩=some (.int .i64 a1):=(qAB H3.out.blk 1).trans rfl
    go_wp2_with (first | (go_at_call 60;refine (N1.out _ _ _ _ H3.out).mono ?_;rintro e_ w5 ⟨rfl,hr,hf⟩;have H5:=qAA.mk hr;have XB5:=qAA.mk (hf.2 gx (qAX XB3.out) HGX.out.symm |>.trans XB3.out);have F5:=qAA.mk (F3.out.trans (mb.FrS.qBl hf H3.out.blk));clear hr hf z1;have x_:=(qAB XB5.out 1).trans rfl;have xf_:=qAC XB5.out 1))
    have H6:=qAA.mk (H5.out.far gx 1 (fun k hk=>Nat.ne_of_lt hk.2) HGX.out HGE.out (.int .i64 f))
    have XB6:=qAA.mk (show (w5.setCell ⟨gx,1,none⟩ (.int .i64 f)).heap[gx]?=some (.cells #[.string s,.int .i64 f] 56 (0,0)) from qAx XB5.out 1 _ rfl)
    have F6:=qAA.mk (mb.FrS.trans F5.out (mb.FrS.setX (u:=.int .i64 f) (j:=1) XB5.out))
    clear x_ xf_
    generalize w5.setCell ⟨gx,1,none⟩ (.int .i64 f)=w6 at *
    refine qAn (n:=9) (S:=fun w'=>w'.cell? ⟨gx,1,none⟩=some (.int .i64 f)∧w'.cell? ⟨g,5,none⟩=some (.slice A1 n1 cc1)) (ds:=[]) #[qF,qF,qF,qF,qF,qF,qF,qF,qF] (by kernel_rfl) rfl rfl ⟨(qAB (qAJ XB6.out) 1).trans rfl,(qAB (show w6.drew.heap[g]?=_ from H6.out.blk) 5).trans rfl⟩ (fun hHeld => ?_)
    generalize hwd:w6.drew=w7 at hHeld ⊢
    have H7:=qAA.mk (hwd▸H6.out.below (qAM (Below.refl _ _)))
    have F7:=qAA.mk (show mb.FrS W w7 from hwd▸mb.FrS.trans F6.out (mb.FrS.of_below (qAM (Below.refl _ _))))
    have XB7:=qAA.mk (hwd▸qAJ XB6.out)
    clear hwd
    refine pU 0 51 ?_
    refine pU 2 53 ?_
    refine pU 3 54 ?_
    refine pU 4 55 ?_
    refine pU 5 56 ?_
    refine tK 1 52 hHeld ?_
    refine tK 6 57 hHeld ?_
    refine pU 7 58 ?_
    refine pU 8 59 ?_
    refine qA6 (by kernel_rfl) ?_
    go_wp2
    have H8:=qAA.mk H7.out.weak
    have XB8:=XB7
    have F8:=F7
    clear H7 XB7 F7
    obtain ⟨w8,hw8⟩:∃ w8,w8=w7:=⟨_,rfl⟩
    rw [← hw8] at H8 XB8 F8 ⊢
    clear hw8
    refine qAn (n:=13) (S:=fun w'=>w'.cell? ⟨g,6,none⟩=some (.slice A2 0 cc2)∧w'.cell? ⟨gx,0,none⟩=some (.string s)∧w'.cell? ⟨gx,1,none⟩=some (.int .i64 f)) (ds:=[8,12]) #[qF,qF,qF,qF,qF,qF,qF,qF,qF,qF,qF,qF,qF] (by kernel_rfl) rfl rfl ⟨(qAB (show w8.drew.heap[g]?=_ from H8.out.blk) 6).trans rfl,(qAB (qAJ XB8.out) 0).trans rfl,(qAB (qAJ XB8.out) 1).trans rfl⟩ (fun hHeld => ?_)
    generalize hwd:w8.drew=we at hHeld ⊢
    have He:=qAA.mk (hwd▸H8.out.below (qAM (Below.refl _ _)))
    have Fe:=qAA.mk (show mb.FrS W we from hwd▸mb.FrS.trans F8.out (mb.FrS.of_below (qAM (Below.refl _ _))))
    have XBe:=qAA.mk (hwd▸qAJ XB8.out)
    clear hwd
    refine pU 0 63 ?_
    refine pU 1 64 ?_
    refine pU 2 65 ?_
    refine pU 3 66 ?_
    refine pU 4 67 ?_
    refine tK 5 68 hHeld ?_
    refine tK 6 69 hHeld ?_
    refine one_ (i:=7) (N:=some 70) #[qT,qT,qT,qT,qT,qT,qT,qT,qF,qF,qF,qF,qF] rfl rfl (by kernel_rfl) (by decide) (fun K hK => ?_)
    refine qBO (w1 := ?_) (v := ?_) (by rfl) rfl ?_ ?_
    rotate_left 2
    ·go_simp
     constructor
     ·rfl
     ·rfl
    refine hK.out _ _ ⟨(qAB (show (we.alloc _).heap[g]?=_ from qAK He.out.blk _) 6).trans rfl,(qAB (qAK XBe.out _) 0).trans rfl,(qAB (qAK XBe.out _) 1).trans rfl⟩ (fun hHeld => ?_)
    clear hK K
    refine qAi (a' := ?_) ?_ ?_
    rotate_left
    ·show Act.put _ (some 70) _=_
     simp only [Act.put,qs1,qs2,qs3,qAR,qAT]
     rfl
    refine qCD (i:=8) (N:=some 71) #[qT,qT,qT,qT,qT,qT,qT,qT,qT,qF,qF,qF,qF] rfl rfl (by kernel_rfl) (by decide) (fun K hK => ?_)
    refine Kd.qAq k56 (w0:=w0) w0.heap.size (by rfl) (.tmp 68) (.tmp 70) 25 56 (.agg #[.string ⟨#[]⟩,.int .i64 0]) 24 rfl Try.underlying25 info56 rfl (by decide) (by omega) (.slice A2 0 cc2) m2 ⟨s,f⟩ [.string s,.int .i64 f] (fun k=>k ≠ g) (fun _=>False) rfl rfl ?aM (fun _ q=>q.elim) ?aN ?aO ?aB ?aS ?aL ?_
    (case aM=>exact k56_mkM _ _ _ _)
    (case aN=>exact fun k hk=>by have:=qAX He.out.blk;omega)
    (case aO=>exact He.out.r2)
    (case aB=>exact He.out.bel)
    (case aS=>exact He.out.bel.size)
    (case aL=>have:=HN2.out;omega)
    intro v11 w11 hr hbl hg hat
    obtain ⟨A11,c11,e11⟩:=Kd.qAZ hr
    subst e11
    rw [show (m2 ++ [(⟨s,f⟩:S56)]).length=m2.length+1 from by simp] at hr
    have G11:=qAA.mk (qAg He.out.blk hg (Kd.qCF He.out.r2 (fun _ hk=>hk)))
    have H11:=qAA.mk (fun (u:Value) (hu:u=.slice A11 (m2.length+1) c11)=>show mb.RM w0 (w11.setCell ⟨g,6,none⟩ u) g (fun k=>k ≠ g) B bs.length cb a3 _ _ v0 _ u m0 m1 (m2 ++ [⟨s,f⟩]) from ⟨qAx G11.out 6 _ rfl,Kd.qBL (mb.qBC He.out.r0 He.out.r2 hg (by decide)) (p:=⟨g,6,none⟩) (fun k hk=>hk) _,Kd.qBL (mb.qBC He.out.r1 He.out.r2 hg (by decide)) (p:=⟨g,6,none⟩) (fun k hk=>hk) _,Kd.qBL (hu▸hr) (p:=⟨g,6,none⟩) (fun k hk=>hk) _,qAQ hbl He.out.ge,He.out.ge,fun k hk=>hk⟩)
    have F11:=qAA.mk (Fe.out.trans (mb.FrS.grown hg (mb.own_t He.out.r2 (by decide))))
    have s5:=(qAB G11.out 6).trans rfl
    have s5f:=qAC G11.out 6
    clear hr hbl hg hat
    refine hK.out _ _ ?_
    clear hK K
    refine qAi (a' := ?_) ?_ ?_
    rotate_left
    ·show Act.put _ (some 71) _=_
     simp only [Act.put,qs1,qs2,qs3,qAR,qAT]
     rfl
    refine pU 9 72 ?_
    refine pU 10 73 ?_
    refine pU 11 74 ?_
    refine qCD (i:=12) (N:=none) #[qT,qT,qT,qT,qT,qT,qT,qT,qT,qT,qT,qT,qT] rfl rfl (by kernel_rfl) (by decide) (fun K hK => ?_)
    refine qCH (w1 := ?_) (by rfl) rfl ?_ ?_
    rotate_left
    ·go_simp
     rfl
    clear s5 s5f
    have H12:=qAA.mk (H11.out _ rfl)
    have F12:=qAA.mk (mb.FrS.trans F11.out (mb.FrS.setX (u:=.slice A11 (m2.length+1) c11) (j:=6) G11.out))
    refine hK.out _ _ ?_
    clear hK K
    refine qA6 (by kernel_rfl) ?_
    first | go_end0 | ((try simp only [Exit.inBlock,Exit.then]);refine bodyPost_ret (results_none rfl _ _ _) rfl ?_)
    exact ⟨rfl,⟨_,by have h_:=H12.out;rw [HM.out] at h_;exact h_⟩,F12.out⟩
  obtain ⟨k,rfl⟩:∃ k,n=k+1:=⟨n - 1,by omega⟩
  have hkl:(k:Int)=(m2.length:Int) - 1:=by have:=HN.out;omega
  have hk0:(0:Int)≤(k:Int):=by omega
  have hk1:wrap64 (((k+1:Nat):Int) - 1)=(k:Int):=by have:=HN.out;have:=HN2.out;unfold wrap64;omega
  have hk5:wrap64 (k:Int)=(k:Int):=by have:=HN.out;have:=HN2.out;unfold wrap64;omega
  have hk6:IntKind.i64.wrap (k:Int)=(k:Int):=(qAR _).trans hk5
  have hk2:(((k+1:Nat):Int)) > 0:=by omega
  have hk3:decide ((((k+1:Nat):Int)) > 0)=true:=decide_eq_true hk2
  have hk4:(k:Int) < ((k+1:Nat):Int):=by omega
  have hk8:(k:Int) < (k:Int)+1:=by omega
  have hk9:((k:Int) < (k:Int)+1)=True:=eq_true hk8
  have hk7:0 < m2.length:=by have:=HN.out;omega
  have HAT:=qAA.mk (fun (W1:World) (hC:k56.C W1 A2 m2.length m2)=>at_T56 hC (k:Int) (by omega) (by have:=HN.out;omega))
  have hq:mb.exBad s m2 ↔ ¬ Op.bytesLess (qAy m2 (k:Int)).f0.toList s.toList=true:=by
   unfold mb.exBad
   rw [← hkl]
   exact ⟨fun q=>by
     rcases q with q | q;· exact absurd hi q
     ·exact q.2,fun q=>Or.inr ⟨hk7,q⟩⟩
  generalize qAy m2 (k:Int)=y at HAT hq
  clear hkl hn0 hi hk7
  cases p3:Op.bytesLess y.f0.toList s.toList with
  | false =>
   rw [if_pos (hq.2 (by rw [p3];decide))] at q1
   injection q1 with e1 e2
   subst e1;subst e2
   clear hq
   by_cases hbig:f ≥ (n1:Int)
   case pos =>
    rw [if_pos (by rw [← HM.out];exact hbig)] at q3
    injection q3 with e1 e2
    subst e1;subst e2
    have d6:decide (f ≥ (n1:Int))=true:=decide_eq_true hbig
    have d7:decide ((n1:Int)≤f)=true:=decide_eq_true hbig
    clear hbig
    go_enter Try.func58,Try.ntmps58
    have z1:W.cell? ⟨g,1,none⟩=some (.int .i64 a):=(qAB H.out.blk 1).trans rfl
    go_wp2_with (first | (go_at_call 76;refine T0.out.mono ?_;rintro e_ w1 ⟨rfl,hr,hf⟩;have H1:=qAA.mk hr;have F1:=qAA.mk (mb.FrS.qBl hf H.out.blk);clear hr hf z1;have H2:=qAA.mk (H1.out.sharp.below (W1:=w1.alloc (.cells #[.string s,.int .i64 0] 56)) (qAH (Below.refl _ _) _));have F2:=qAA.mk (F1.out.trans (mb.FrS.of_below (qAH (Below.refl w1.heap.size w1) (.cells #[.string s,.int .i64 0] 56))));have XB2:=qAA.mk (show (w1.alloc (.cells #[.string s,.int .i64 0] 56)).heap[w1.heap.size]?=some (.cells #[.string s,.int .i64 0] 56 (0,0)) from by simpa using heap_alloc_new w1 _);have HGX:=qAA.mk (show g ≠ w1.heap.size from by have:=qAX H1.out.blk;omega);have HGE:=qAA.mk (show w0.heap.size≤w1.heap.size from H1.out.bel.size);have z6:(w1.alloc (.cells #[.string s,.int .i64 0] 56)).cell? ⟨g,6,none⟩=some (.slice A2 (k+1) cc2):=(qAB H2.out.blk 6).trans rfl))
    clear z6
    generalize w1.alloc (.cells #[.string s,.int .i64 0] 56)=w2 at *
    generalize w1.heap.size=gx at *
    obtain ⟨ad,eA,h0,_⟩:=HAT.out w2.drew (Kd.R_reads' (Kd.qBo H2.out.r2)).2.2
    subst eA
    rw [Int.toNat_natCast] at h0
    refine qAn (n:=23) (S:=fun w'=>w'.cell? ⟨gx,0,none⟩=some (.string s)∧w'.cell? ⟨g,6,none⟩=some (.slice (some ad) (k+1) cc2)∧w'.cell? (ad.add (k * 2))=some (.string y.f0)) (ds:=[]) #[qF,qF,qF,qF,qF,qF,qF,qF,qF,qF,qF,qF,qF,qF,qF,qF,qF,qF,qF,qF,qF,qF,qF] (by kernel_rfl) rfl rfl ⟨(qAB (qAJ XB2.out) 0).trans rfl,(qAB (show w2.drew.heap[g]?=_ from H2.out.blk) 6).trans rfl,h0⟩ (fun hHeld => ?_)
    generalize hwd:w2.drew=wd at hHeld ⊢
    have h0d:=h0
    rw [hwd] at h0d
    have Hd:=qAA.mk (hwd▸H2.out.below (qAM (Below.refl _ _)))
    have Fd:=qAA.mk (show mb.FrS W wd from hwd▸mb.FrS.trans F2.out (mb.FrS.of_below (qAM (Below.refl _ _))))
    have XBd:=qAA.mk (hwd▸qAJ XB2.out)
    clear hwd H2 F2 XB2
    refine pU 0 18 ?_
    refine tK 1 19 hHeld ?_
    refine one_ (i:=2) (N:=some 20) #[qT,qT,qT,qF,qF,qF,qF,qF,qF,qF,qF,qF,qF,qF,qF,qF,qF,qF,qF,qF,qF,qF,qF] rfl rfl (by kernel_rfl) (by decide) (fun K hK => ?_)
    refine qBJ Try.func9 (by kernel_rfl) rfl #[.string s] (by rfl) rfl rfl (by (try simp only [List.map_toArray,List.map_cons,List.map_nil]);first | done | rfl) ?_
    refine (ISN.out wd).mono ?_
    rintro e w3 ⟨rfl,hb⟩
    refine ⟨_,rfl, ?_⟩
    have H3:=qAA.mk (Hd.out.below hb)
    have XB3:=qAA.mk (qAL XBd.out hb)
    have F3:=qAA.mk (Fd.out.trans (mb.FrS.of_below hb))
    have h0':=(hb.cell (qs4 _ _ h0d)).trans h0d
    clear hb
    refine hK.out _ _ ⟨(qAB XB3.out 0).trans rfl,(qAB H3.out.blk 6).trans rfl,h0'⟩ (fun hHeld => ?_)
    clear hK K
    refine qAi (a' := ?_) ?_ ?_
    rotate_left
    ·show Act.put _ (some 20) _=_
     simp only [Act.put,qs1,qs2,qs3,qAR,qAT]
     rfl
    refine pU 3 21 ?_
    refine pU 4 22 ?_
    refine pU 5 23 ?_
    refine pU 6 24 ?_
    refine pU 7 25 ?_
    refine pU 8 26 ?_
    refine pU 9 27 ?_
    refine pU 10 28 ?_
    refine pU 11 29 ?_
    refine pU 13 31 ?_
    refine pU 14 32 ?_
    refine pU 18 36 ?_
    refine tK 12 30 hHeld ?_
    refine pU 15 33 ?_
    refine pU 16 34 ?_
    refine tK 17 35 hHeld ?_
    refine tK 19 37 hHeld ?_
    refine pU 20 38 ?_
    refine pU 21 39 ?_
    refine pU 22 40 ?_
    refine qA6 (by kernel_rfl) ?_
    have tkf:=qAA.mk True.intro
    go_wp2_with (first | (go_at_call 61;clear tkf;refine (mb.qB2 H3.out 90 a).mono ?_;rintro e_ w4 ⟨rfl,hr,hf⟩;have H4:=qAA.mk hr;have XB4:=qAA.mk (hf.2 gx (qAX XB3.out) HGX.out.symm |>.trans XB3.out);have F4:=qAA.mk (F3.out.trans (mb.FrS.qBl hf H3.out.blk));clear hr hf;have z1:=(qAB H4.out.blk 1).trans rfl) | (go_at_call 60;refine (N1.out _ _ _ _ H4.out).mono ?_;rintro e_ w5 ⟨rfl,hr,hf⟩;have H5:=qAA.mk hr;have XB5:=qAA.mk (hf.2 gx (qAX XB4.out) HGX.out.symm |>.trans XB4.out);have F5:=qAA.mk (F4.out.trans (mb.FrS.qBl hf H4.out.blk));clear hr hf z1;have x_:=(qAB XB5.out 1).trans rfl;have xf_:=qAC XB5.out 1))
    have H6:=qAA.mk (H5.out.far gx 1 (fun k hk=>Nat.ne_of_lt hk.2) HGX.out HGE.out (.int .i64 f))
    have XB6:=qAA.mk (show (w5.setCell ⟨gx,1,none⟩ (.int .i64 f)).heap[gx]?=some (.cells #[.string s,.int .i64 f] 56 (0,0)) from qAx XB5.out 1 _ rfl)
    have F6:=qAA.mk (mb.FrS.trans F5.out (mb.FrS.setX (u:=.int .i64 f) (j:=1) XB5.out))
    clear x_ xf_
    generalize w5.setCell ⟨gx,1,none⟩ (.int .i64 f)=w6 at *
    refine qAn (n:=9) (S:=fun w'=>w'.cell? ⟨gx,1,none⟩=some (.int .i64 f)∧w'.cell? ⟨g,5,none⟩=some (.slice A1 n1 cc1)) (ds:=[]) #[qF,qF,qF,qF,qF,qF,qF,qF,qF] (by kernel_rfl) rfl rfl ⟨(qAB (qAJ XB6.out) 1).trans rfl,(qAB (show w6.drew.heap[g]?=_ from H6.out.blk) 5).trans rfl⟩ (fun hHeld => ?_)
    generalize hwd:w6.drew=w7 at hHeld ⊢
    have H7:=qAA.mk (hwd▸H6.out.below (qAM (Below.refl _ _)))
    have F7:=qAA.mk (show mb.FrS W w7 from hwd▸mb.FrS.trans F6.out (mb.FrS.of_below (qAM (Below.refl _ _))))
    have XB7:=qAA.mk (hwd▸qAJ XB6.out)
    clear hwd
    refine pU 0 51 ?_
    refine pU 2 53 ?_
    refine pU 3 54 ?_
    refine pU 4 55 ?_
    refine pU 5 56 ?_
    refine tK 1 52 hHeld ?_
    refine tK 6 57 hHeld ?_
    refine pU 7 58 ?_
    refine pU 8 59 ?_
    refine qA6 (by kernel_rfl) ?_
    go_wp2_with (first | (go_at_call 61;refine (mb.qB2 H7.out 90 a1).mono ?_;rintro e_ w8 ⟨rfl,hr,hf⟩;have H8:=qAA.mk hr.weak;have XB8:=qAA.mk (hf.2 gx (qAX XB7.out) HGX.out.symm |>.trans XB7.out);have F8:=qAA.mk (F7.out.trans (mb.FrS.qBl hf H7.out.blk));clear hr hf))
    refine qAn (n:=13) (S:=fun w'=>w'.cell? ⟨g,6,none⟩=some (.slice (some ad) (k+1) cc2)∧w'.cell? ⟨gx,0,none⟩=some (.string s)∧w'.cell? ⟨gx,1,none⟩=some (.int .i64 f)) (ds:=[8,12]) #[qF,qF,qF,qF,qF,qF,qF,qF,qF,qF,qF,qF,qF] (by kernel_rfl) rfl rfl ⟨(qAB (show w8.drew.heap[g]?=_ from H8.out.blk) 6).trans rfl,(qAB (qAJ XB8.out) 0).trans rfl,(qAB (qAJ XB8.out) 1).trans rfl⟩ (fun hHeld => ?_)
    generalize hwd:w8.drew=we at hHeld ⊢
    have He:=qAA.mk (hwd▸H8.out.below (qAM (Below.refl _ _)))
    have Fe:=qAA.mk (show mb.FrS W we from hwd▸mb.FrS.trans F8.out (mb.FrS.of_below (qAM (Below.refl _ _))))
    have XBe:=qAA.mk (hwd▸qAJ XB8.out)
    clear hwd
    refine pU 0 63 ?_
    refine pU 1 64 ?_
    refine pU 2 65 ?_
    refine pU 3 66 ?_
    refine pU 4 67 ?_
    refine tK 5 68 hHeld ?_
    refine tK 6 69 hHeld ?_
    refine one_ (i:=7) (N:=some 70) #[qT,qT,qT,qT,qT,qT,qT,qT,qF,qF,qF,qF,qF] rfl rfl (by kernel_rfl) (by decide) (fun K hK => ?_)
    refine qBO (w1 := ?_) (v := ?_) (by rfl) rfl ?_ ?_
    rotate_left 2
    ·go_simp
     constructor
     ·rfl
     ·rfl
    refine hK.out _ _ ⟨(qAB (show (we.alloc _).heap[g]?=_ from qAK He.out.blk _) 6).trans rfl,(qAB (qAK XBe.out _) 0).trans rfl,(qAB (qAK XBe.out _) 1).trans rfl⟩ (fun hHeld => ?_)
    clear hK K
    refine qAi (a' := ?_) ?_ ?_
    rotate_left
    ·show Act.put _ (some 70) _=_
     simp only [Act.put,qs1,qs2,qs3,qAR,qAT]
     rfl
    refine qCD (i:=8) (N:=some 71) #[qT,qT,qT,qT,qT,qT,qT,qT,qT,qF,qF,qF,qF] rfl rfl (by kernel_rfl) (by decide) (fun K hK => ?_)
    refine Kd.qAq k56 (w0:=w0) w0.heap.size (by rfl) (.tmp 68) (.tmp 70) 25 56 (.agg #[.string ⟨#[]⟩,.int .i64 0]) 24 rfl Try.underlying25 info56 rfl (by decide) (by omega) (.slice (some ad) (k+1) cc2) m2 ⟨s,f⟩ [.string s,.int .i64 f] (fun k=>k ≠ g) (fun _=>False) rfl rfl ?aM (fun _ q=>q.elim) ?aN ?aO ?aB ?aS ?aL ?_
    (case aM=>exact k56_mkM _ _ _ _)
    (case aN=>exact fun k hk=>by have:=qAX He.out.blk;omega)
    (case aO=>exact He.out.r2)
    (case aB=>exact He.out.bel)
    (case aS=>exact He.out.bel.size)
    (case aL=>have:=HN2.out;omega)
    intro v11 w11 hr hbl hg hat
    obtain ⟨A11,c11,e11⟩:=Kd.qAZ hr
    subst e11
    rw [show (m2 ++ [(⟨s,f⟩:S56)]).length=m2.length+1 from by simp] at hr
    have G11:=qAA.mk (qAg He.out.blk hg (Kd.qCF He.out.r2 (fun _ hk=>hk)))
    have H11:=qAA.mk (fun (u:Value) (hu:u=.slice A11 (m2.length+1) c11)=>show mb.RM w0 (w11.setCell ⟨g,6,none⟩ u) g (fun k=>k ≠ g) B bs.length cb a3 _ _ v0 _ u m0 m1 (m2 ++ [⟨s,f⟩]) from ⟨qAx G11.out 6 _ rfl,Kd.qBL (mb.qBC He.out.r0 He.out.r2 hg (by decide)) (p:=⟨g,6,none⟩) (fun k hk=>hk) _,Kd.qBL (mb.qBC He.out.r1 He.out.r2 hg (by decide)) (p:=⟨g,6,none⟩) (fun k hk=>hk) _,Kd.qBL (hu▸hr) (p:=⟨g,6,none⟩) (fun k hk=>hk) _,qAQ hbl He.out.ge,He.out.ge,fun k hk=>hk⟩)
    have F11:=qAA.mk (Fe.out.trans (mb.FrS.grown hg (mb.own_t He.out.r2 (by decide))))
    have s5:=(qAB G11.out 6).trans rfl
    have s5f:=qAC G11.out 6
    clear hr hbl hg hat
    refine hK.out _ _ ?_
    clear hK K
    refine qAi (a' := ?_) ?_ ?_
    rotate_left
    ·show Act.put _ (some 71) _=_
     simp only [Act.put,qs1,qs2,qs3,qAR,qAT]
     rfl
    refine pU 9 72 ?_
    refine pU 10 73 ?_
    refine pU 11 74 ?_
    refine qCD (i:=12) (N:=none) #[qT,qT,qT,qT,qT,qT,qT,qT,qT,qT,qT,qT,qT] rfl rfl (by kernel_rfl) (by decide) (fun K hK => ?_)
    refine qCH (w1 := ?_) (by rfl) rfl ?_ ?_
    rotate_left
    ·go_simp
     rfl
    clear s5 s5f
    have H12:=qAA.mk (H11.out _ rfl)
    have F12:=qAA.mk (mb.FrS.trans F11.out (mb.FrS.setX (u:=.slice A11 (m2.length+1) c11) (j:=6) G11.out))
    refine hK.out _ _ ?_
    clear hK K
    refine qA6 (by kernel_rfl) ?_
    first | go_end0 | ((try simp only [Exit.inBlock,Exit.then]);refine bodyPost_ret (results_none rfl _ _ _) rfl ?_)
    exact ⟨rfl,⟨_,by have h_:=H12.out;rw [HM.out] at h_;exact h_⟩,F12.out⟩
   case neg =>
    rw [if_neg (by rw [← HM.out];exact hbig)] at q3
    injection q3 with e1 e2
    subst e1;subst e2
    have d6:decide (f ≥ (n1:Int))=false:=decide_eq_false hbig
    have d7:decide ((n1:Int)≤f)=false:=decide_eq_false hbig
    clear hbig
    go_enter Try.func58,Try.ntmps58
    have z1:W.cell? ⟨g,1,none⟩=some (.int .i64 a):=(qAB H.out.blk 1).trans rfl
    go_wp2_with (first | (go_at_call 76;refine T0.out.mono ?_;rintro e_ w1 ⟨rfl,hr,hf⟩;have H1:=qAA.mk hr;have F1:=qAA.mk (mb.FrS.qBl hf H.out.blk);clear hr hf z1;have H2:=qAA.mk (H1.out.sharp.below (W1:=w1.alloc (.cells #[.string s,.int .i64 0] 56)) (qAH (Below.refl _ _) _));have F2:=qAA.mk (F1.out.trans (mb.FrS.of_below (qAH (Below.refl w1.heap.size w1) (.cells #[.string s,.int .i64 0] 56))));have XB2:=qAA.mk (show (w1.alloc (.cells #[.string s,.int .i64 0] 56)).heap[w1.heap.size]?=some (.cells #[.string s,.int .i64 0] 56 (0,0)) from by simpa using heap_alloc_new w1 _);have HGX:=qAA.mk (show g ≠ w1.heap.size from by have:=qAX H1.out.blk;omega);have HGE:=qAA.mk (show w0.heap.size≤w1.heap.size from H1.out.bel.size);have z6:(w1.alloc (.cells #[.string s,.int .i64 0] 56)).cell? ⟨g,6,none⟩=some (.slice A2 (k+1) cc2):=(qAB H2.out.blk 6).trans rfl))
    clear z6
    generalize w1.alloc (.cells #[.string s,.int .i64 0] 56)=w2 at *
    generalize w1.heap.size=gx at *
    obtain ⟨ad,eA,h0,_⟩:=HAT.out w2.drew (Kd.R_reads' (Kd.qBo H2.out.r2)).2.2
    subst eA
    rw [Int.toNat_natCast] at h0
    refine qAn (n:=23) (S:=fun w'=>w'.cell? ⟨gx,0,none⟩=some (.string s)∧w'.cell? ⟨g,6,none⟩=some (.slice (some ad) (k+1) cc2)∧w'.cell? (ad.add (k * 2))=some (.string y.f0)) (ds:=[]) #[qF,qF,qF,qF,qF,qF,qF,qF,qF,qF,qF,qF,qF,qF,qF,qF,qF,qF,qF,qF,qF,qF,qF] (by kernel_rfl) rfl rfl ⟨(qAB (qAJ XB2.out) 0).trans rfl,(qAB (show w2.drew.heap[g]?=_ from H2.out.blk) 6).trans rfl,h0⟩ (fun hHeld => ?_)
    generalize hwd:w2.drew=wd at hHeld ⊢
    have h0d:=h0
    rw [hwd] at h0d
    have Hd:=qAA.mk (hwd▸H2.out.below (qAM (Below.refl _ _)))
    have Fd:=qAA.mk (show mb.FrS W wd from hwd▸mb.FrS.trans F2.out (mb.FrS.of_below (qAM (Below.refl _ _))))
    have XBd:=qAA.mk (hwd▸qAJ XB2.out)
    clear hwd H2 F2 XB2
    refine pU 0 18 ?_
    refine tK 1 19 hHeld ?_
    refine one_ (i:=2) (N:=some 20) #[qT,qT,qT,qF,qF,qF,qF,qF,qF,qF,qF,qF,qF,qF,qF,qF,qF,qF,qF,qF,qF,qF,qF] rfl rfl (by kernel_rfl) (by decide) (fun K hK => ?_)
    refine qBJ Try.func9 (by kernel_rfl) rfl #[.string s] (by rfl) rfl rfl (by (try simp only [List.map_toArray,List.map_cons,List.map_nil]);first | done | rfl) ?_
    refine (ISN.out wd).mono ?_
    rintro e w3 ⟨rfl,hb⟩
    refine ⟨_,rfl, ?_⟩
    have H3:=qAA.mk (Hd.out.below hb)
    have XB3:=qAA.mk (qAL XBd.out hb)
    have F3:=qAA.mk (Fd.out.trans (mb.FrS.of_below hb))
    have h0':=(hb.cell (qs4 _ _ h0d)).trans h0d
    clear hb
    refine hK.out _ _ ⟨(qAB XB3.out 0).trans rfl,(qAB H3.out.blk 6).trans rfl,h0'⟩ (fun hHeld => ?_)
    clear hK K
    refine qAi (a' := ?_) ?_ ?_
    rotate_left
    ·show Act.put _ (some 20) _=_
     simp only [Act.put,qs1,qs2,qs3,qAR,qAT]
     rfl
    refine pU 3 21 ?_
    refine pU 4 22 ?_
    refine pU 5 23 ?_
    refine pU 6 24 ?_
    refine pU 7 25 ?_
    refine pU 8 26 ?_
    refine pU 9 27 ?_
    refine pU 10 28 ?_
    refine pU 11 29 ?_
    refine pU 13 31 ?_
    refine pU 14 32 ?_
    refine pU 18 36 ?_
    refine tK 12 30 hHeld ?_
    refine pU 15 33 ?_
    refine pU 16 34 ?_
    refine tK 17 35 hHeld ?_
    refine tK 19 37 hHeld ?_
    refine pU 20 38 ?_
    refine pU 21 39 ?_
    refine pU 22 40 ?_
    refine qA6 (by kernel_rfl) ?_
    have tkf:=qAA.mk True.intro
    go_wp2_with (first | (go_at_call 61;clear tkf;refine (mb.qB2 H3.out 90 a).mono ?_;rintro e_ w4 ⟨rfl,hr,hf⟩;have H4:=qAA.mk hr;have XB4:=qAA.mk (hf.2 gx (qAX XB3.out) HGX.out.symm |>.trans XB3.out);have F4:=qAA.mk (F3.out.trans (mb.FrS.qBl hf H3.out.blk));clear hr hf;have z1:=(qAB H4.out.blk 1).trans rfl) | (go_at_call 60;refine (N1.out _ _ _ _ H4.out).mono ?_;rintro e_ w5 ⟨rfl,hr,hf⟩;have H5:=qAA.mk hr;have XB5:=qAA.mk (hf.2 gx (qAX XB4.out) HGX.out.symm |>.trans XB4.out);have F5:=qAA.mk (F4.out.trans (mb.FrS.qBl hf H4.out.blk));clear hr hf z1;have x_:=(qAB XB5.out 1).trans rfl;have xf_:=qAC XB5.out 1))
    have H6:=qAA.mk (H5.out.far gx 1 (fun k hk=>Nat.ne_of_lt hk.2) HGX.out HGE.out (.int .i64 f))
    have XB6:=qAA.mk (show (w5.setCell ⟨gx,1,none⟩ (.int .i64 f)).heap[gx]?=some (.cells #[.string s,.int .i64 f] 56 (0,0)) from qAx XB5.out 1 _ rfl)
    have F6:=qAA.mk (mb.FrS.trans F5.out (mb.FrS.setX (u:=.int .i64 f) (j:=1) XB5.out))
    clear x_ xf_
    generalize w5.setCell ⟨gx,1,none⟩ (.int .i64 f)=w6 at *
    refine qAn (n:=9) (S:=fun w'=>w'.cell? ⟨gx,1,none⟩=some (.int .i64 f)∧w'.cell? ⟨g,5,none⟩=some (.slice A1 n1 cc1)) (ds:=[]) #[qF,qF,qF,qF,qF,qF,qF,qF,qF] (by kernel_rfl) rfl rfl ⟨(qAB (qAJ XB6.out) 1).trans rfl,(qAB (show w6.drew.heap[g]?=_ from H6.out.blk) 5).trans rfl⟩ (fun hHeld => ?_)
    generalize hwd:w6.drew=w7 at hHeld ⊢
    have H7:=qAA.mk (hwd▸H6.out.below (qAM (Below.refl _ _)))
    have F7:=qAA.mk (show mb.FrS W w7 from hwd▸mb.FrS.trans F6.out (mb.FrS.of_below (qAM (Below.refl _ _))))
    have XB7:=qAA.mk (hwd▸qAJ XB6.out)
    clear hwd
    refine pU 0 51 ?_
    refine pU 2 53 ?_
    refine pU 3 54 ?_
    refine pU 4 55 ?_
    refine pU 5 56 ?_
    refine tK 1 52 hHeld ?_
    refine tK 6 57 hHeld ?_
    refine pU 7 58 ?_
    refine pU 8 59 ?_
    refine qA6 (by kernel_rfl) ?_
    go_wp2
    have H8:=qAA.mk H7.out.weak
    have XB8:=XB7
    have F8:=F7
    clear H7 XB7 F7
    obtain ⟨w8,hw8⟩:∃ w8,w8=w7:=⟨_,rfl⟩
    rw [← hw8] at H8 XB8 F8 ⊢
    clear hw8
    refine qAn (n:=13) (S:=fun w'=>w'.cell? ⟨g,6,none⟩=some (.slice (some ad) (k+1) cc2)∧w'.cell? ⟨gx,0,none⟩=some (.string s)∧w'.cell? ⟨gx,1,none⟩=some (.int .i64 f)) (ds:=[8,12]) #[qF,qF,qF,qF,qF,qF,qF,qF,qF,qF,qF,qF,qF] (by kernel_rfl) rfl rfl ⟨(qAB (show w8.drew.heap[g]?=_ from H8.out.blk) 6).trans rfl,(qAB (qAJ XB8.out) 0).trans rfl,(qAB (qAJ XB8.out) 1).trans rfl⟩ (fun hHeld => ?_)
    generalize hwd:w8.drew=we at hHeld ⊢
    have He:=qAA.mk (hwd▸H8.out.below (qAM (Below.refl _ _)))
    have Fe:=qAA.mk (show mb.FrS W we from hwd▸mb.FrS.trans F8.out (mb.FrS.of_below (qAM (Below.refl _ _))))
    have XBe:=qAA.mk (hwd▸qAJ XB8.out)
    clear hwd
    refine pU 0 63 ?_
    refine pU 1 64 ?_
    refine pU 2 65 ?_
    refine pU 3 66 ?_
    refine pU 4 67 ?_
    refine tK 5 68 hHeld ?_
    refine tK 6 69 hHeld ?_
    refine one_ (i:=7) (N:=some 70) #[qT,qT,qT,qT,qT,qT,qT,qT,qF,qF,qF,qF,qF] rfl rfl (by kernel_rfl) (by decide) (fun K hK => ?_)
    refine qBO (w1 := ?_) (v := ?_) (by rfl) rfl ?_ ?_
    rotate_left 2
    ·go_simp
     constructor
     ·rfl
     ·rfl
    refine hK.out _ _ ⟨(qAB (show (we.alloc _).heap[g]?=_ from qAK He.out.blk _) 6).trans rfl,(qAB (qAK XBe.out _) 0).trans rfl,(qAB (qAK XBe.out _) 1).trans rfl⟩ (fun hHeld => ?_)
    clear hK K
    refine qAi (a' := ?_) ?_ ?_
    rotate_left
    ·show Act.put _ (some 70) _=_
     simp only [Act.put,qs1,qs2,qs3,qAR,qAT]
     rfl
    refine qCD (i:=8) (N:=some 71) #[qT,qT,qT,qT,qT,qT,qT,qT,qT,qF,qF,qF,qF] rfl rfl (by kernel_rfl) (by decide) (fun K hK => ?_)
    refine Kd.qAq k56 (w0:=w0) w0.heap.size (by rfl) (.tmp 68) (.tmp 70) 25 56 (.agg #[.string ⟨#[]⟩,.int .i64 0]) 24 rfl Try.underlying25 info56 rfl (by decide) (by omega) (.slice (some ad) (k+1) cc2) m2 ⟨s,f⟩ [.string s,.int .i64 f] (fun k=>k ≠ g) (fun _=>False) rfl rfl ?aM (fun _ q=>q.elim) ?aN ?aO ?aB ?aS ?aL ?_
    (case aM=>exact k56_mkM _ _ _ _)
    (case aN=>exact fun k hk=>by have:=qAX He.out.blk;omega)
    (case aO=>exact He.out.r2)
    (case aB=>exact He.out.bel)
    (case aS=>exact He.out.bel.size)
    (case aL=>have:=HN2.out;omega)
    intro v11 w11 hr hbl hg hat
    obtain ⟨A11,c11,e11⟩:=Kd.qAZ hr
    subst e11
    rw [show (m2 ++ [(⟨s,f⟩:S56)]).length=m2.length+1 from by simp] at hr
    have G11:=qAA.mk (qAg He.out.blk hg (Kd.qCF He.out.r2 (fun _ hk=>hk)))
    have H11:=qAA.mk (fun (u:Value) (hu:u=.slice A11 (m2.length+1) c11)=>show mb.RM w0 (w11.setCell ⟨g,6,none⟩ u) g (fun k=>k ≠ g) B bs.length cb a3 _ _ v0 _ u m0 m1 (m2 ++ [⟨s,f⟩]) from ⟨qAx G11.out 6 _ rfl,Kd.qBL (mb.qBC He.out.r0 He.out.r2 hg (by decide)) (p:=⟨g,6,none⟩) (fun k hk=>hk) _,Kd.qBL (mb.qBC He.out.r1 He.out.r2 hg (by decide)) (p:=⟨g,6,none⟩) (fun k hk=>hk) _,Kd.qBL (hu▸hr) (p:=⟨g,6,none⟩) (fun k hk=>hk) _,qAQ hbl He.out.ge,He.out.ge,fun k hk=>hk⟩)
    have F11:=qAA.mk (Fe.out.trans (mb.FrS.grown hg (mb.own_t He.out.r2 (by decide))))
    have s5:=(qAB G11.out 6).trans rfl
    have s5f:=qAC G11.out 6
    clear hr hbl hg hat
    refine hK.out _ _ ?_
    clear hK K
    refine qAi (a' := ?_) ?_ ?_
    rotate_left
    ·show Act.put _ (some 71) _=_
     simp only [Act.put,qs1,qs2,qs3,qAR,qAT]
     rfl
    refine pU 9 72 ?_
    refine pU 10 73 ?_
    refine pU 11 74 ?_
    refine qCD (i:=12) (N:=none) #[qT,qT,qT,qT,qT,qT,qT,qT,qT,qT,qT,qT,qT] rfl rfl (by kernel_rfl) (by decide) (fun K hK => ?_)
    refine qCH (w1 := ?_) (by rfl) rfl ?_ ?_
    rotate_left
    ·go_simp
     rfl
    clear s5 s5f
    have H12:=qAA.mk (H11.out _ rfl)
    have F12:=qAA.mk (mb.FrS.trans F11.out (mb.FrS.setX (u:=.slice A11 (m2.length+1) c11) (j:=6) G11.out))
    refine hK.out _ _ ?_
    clear hK K
    refine qA6 (by kernel_rfl) ?_
    first | go_end0 | ((try simp only [Exit.inBlock,Exit.then]);refine bodyPost_ret (results_none rfl _ _ _) rfl ?_)
    exact ⟨rfl,⟨_,by have h_:=H12.out;rw [HM.out] at h_;exact h_⟩,F12.out⟩
  | true =>
   rw [if_neg (fun q=>hq.1 q p3)] at q1
   injection q1 with e1 e2
   subst e1;subst e2
   clear hq
   by_cases hbig:f ≥ (n1:Int)
   case pos =>
    rw [if_pos (by rw [← HM.out];exact hbig)] at q3
    injection q3 with e1 e2
    subst e1;subst e2
    have d6:decide (f ≥ (n1:Int))=true:=decide_eq_true hbig
    have d7:decide ((n1:Int)≤f)=true:=decide_eq_true hbig
    clear hbig
    go_enter Try.func58,Try.ntmps58
    have z1:W.cell? ⟨g,1,none⟩=some (.int .i64 a):=(qAB H.out.blk 1).trans rfl
    go_wp2_with (first | (go_at_call 76;refine T0.out.mono ?_;rintro e_ w1 ⟨rfl,hr,hf⟩;have H1:=qAA.mk hr;have F1:=qAA.mk (mb.FrS.qBl hf H.out.blk);clear hr hf z1;have H2:=qAA.mk (H1.out.sharp.below (W1:=w1.alloc (.cells #[.string s,.int .i64 0] 56)) (qAH (Below.refl _ _) _));have F2:=qAA.mk (F1.out.trans (mb.FrS.of_below (qAH (Below.refl w1.heap.size w1) (.cells #[.string s,.int .i64 0] 56))));have XB2:=qAA.mk (show (w1.alloc (.cells #[.string s,.int .i64 0] 56)).heap[w1.heap.size]?=some (.cells #[.string s,.int .i64 0] 56 (0,0)) from by simpa using heap_alloc_new w1 _);have HGX:=qAA.mk (show g ≠ w1.heap.size from by have:=qAX H1.out.blk;omega);have HGE:=qAA.mk (show w0.heap.size≤w1.heap.size from H1.out.bel.size);have z6:(w1.alloc (.cells #[.string s,.int .i64 0] 56)).cell? ⟨g,6,none⟩=some (.slice A2 (k+1) cc2):=(qAB H2.out.blk 6).trans rfl))
    clear z6
    generalize w1.alloc (.cells #[.string s,.int .i64 0] 56)=w2 at *
    generalize w1.heap.size=gx at *
    obtain ⟨ad,eA,h0,_⟩:=HAT.out w2.drew (Kd.R_reads' (Kd.qBo H2.out.r2)).2.2
    subst eA
    rw [Int.toNat_natCast] at h0
    refine qAn (n:=23) (S:=fun w'=>w'.cell? ⟨gx,0,none⟩=some (.string s)∧w'.cell? ⟨g,6,none⟩=some (.slice (some ad) (k+1) cc2)∧w'.cell? (ad.add (k * 2))=some (.string y.f0)) (ds:=[]) #[qF,qF,qF,qF,qF,qF,qF,qF,qF,qF,qF,qF,qF,qF,qF,qF,qF,qF,qF,qF,qF,qF,qF] (by kernel_rfl) rfl rfl ⟨(qAB (qAJ XB2.out) 0).trans rfl,(qAB (show w2.drew.heap[g]?=_ from H2.out.blk) 6).trans rfl,h0⟩ (fun hHeld => ?_)
    generalize hwd:w2.drew=wd at hHeld ⊢
    have h0d:=h0
    rw [hwd] at h0d
    have Hd:=qAA.mk (hwd▸H2.out.below (qAM (Below.refl _ _)))
    have Fd:=qAA.mk (show mb.FrS W wd from hwd▸mb.FrS.trans F2.out (mb.FrS.of_below (qAM (Below.refl _ _))))
    have XBd:=qAA.mk (hwd▸qAJ XB2.out)
    clear hwd H2 F2 XB2
    refine pU 0 18 ?_
    refine tK 1 19 hHeld ?_
    refine one_ (i:=2) (N:=some 20) #[qT,qT,qT,qF,qF,qF,qF,qF,qF,qF,qF,qF,qF,qF,qF,qF,qF,qF,qF,qF,qF,qF,qF] rfl rfl (by kernel_rfl) (by decide) (fun K hK => ?_)
    refine qBJ Try.func9 (by kernel_rfl) rfl #[.string s] (by rfl) rfl rfl (by (try simp only [List.map_toArray,List.map_cons,List.map_nil]);first | done | rfl) ?_
    refine (ISN.out wd).mono ?_
    rintro e w3 ⟨rfl,hb⟩
    refine ⟨_,rfl, ?_⟩
    have H3:=qAA.mk (Hd.out.below hb)
    have XB3:=qAA.mk (qAL XBd.out hb)
    have F3:=qAA.mk (Fd.out.trans (mb.FrS.of_below hb))
    have h0':=(hb.cell (qs4 _ _ h0d)).trans h0d
    clear hb
    refine hK.out _ _ ⟨(qAB XB3.out 0).trans rfl,(qAB H3.out.blk 6).trans rfl,h0'⟩ (fun hHeld => ?_)
    clear hK K
    refine qAi (a' := ?_) ?_ ?_
    rotate_left
    ·show Act.put _ (some 20) _=_
     simp only [Act.put,qs1,qs2,qs3,qAR,qAT]
     rfl
    refine pU 3 21 ?_
    refine pU 4 22 ?_
    refine pU 5 23 ?_
    refine pU 6 24 ?_
    refine pU 7 25 ?_
    refine pU 8 26 ?_
    refine pU 9 27 ?_
    refine pU 10 28 ?_
    refine pU 11 29 ?_
    refine pU 13 31 ?_
    refine pU 14 32 ?_
    refine pU 18 36 ?_
    refine tK 12 30 hHeld ?_
    refine pU 15 33 ?_
    refine pU 16 34 ?_
    refine tK 17 35 hHeld ?_
    refine tK 19 37 hHeld ?_
    refine pU 20 38 ?_
    refine pU 21 39 ?_
    refine pU 22 40 ?_
    refine qA6 (by kernel_rfl) ?_
    have z1:w3.cell? ⟨g,1,none⟩=some (.int .i64 a1):=(qAB H3.out.blk 1).trans rfl
    go_wp2_with (first | (go_at_call 60;refine (N1.out _ _ _ _ H3.out).mono ?_;rintro e_ w5 ⟨rfl,hr,hf⟩;have H5:=qAA.mk hr;have XB5:=qAA.mk (hf.2 gx (qAX XB3.out) HGX.out.symm |>.trans XB3.out);have F5:=qAA.mk (F3.out.trans (mb.FrS.qBl hf H3.out.blk));clear hr hf z1;have x_:=(qAB XB5.out 1).trans rfl;have xf_:=qAC XB5.out 1))
    have H6:=qAA.mk (H5.out.far gx 1 (fun k hk=>Nat.ne_of_lt hk.2) HGX.out HGE.out (.int .i64 f))
    have XB6:=qAA.mk (show (w5.setCell ⟨gx,1,none⟩ (.int .i64 f)).heap[gx]?=some (.cells #[.string s,.int .i64 f] 56 (0,0)) from qAx XB5.out 1 _ rfl)
    have F6:=qAA.mk (mb.FrS.trans F5.out (mb.FrS.setX (u:=.int .i64 f) (j:=1) XB5.out))
    clear x_ xf_
    generalize w5.setCell ⟨gx,1,none⟩ (.int .i64 f)=w6 at *
    refine qAn (n:=9) (S:=fun w'=>w'.cell? ⟨gx,1,none⟩=some (.int .i64 f)∧w'.cell? ⟨g,5,none⟩=some (.slice A1 n1 cc1)) (ds:=[]) #[qF,qF,qF,qF,qF,qF,qF,qF,qF] (by kernel_rfl) rfl rfl ⟨(qAB (qAJ XB6.out) 1).trans rfl,(qAB (show w6.drew.heap[g]?=_ from H6.out.blk) 5).trans rfl⟩ (fun hHeld => ?_)
    generalize hwd:w6.drew=w7 at hHeld ⊢
    have H7:=qAA.mk (hwd▸H6.out.below (qAM (Below.refl _ _)))
    have F7:=qAA.mk (show mb.FrS W w7 from hwd▸mb.FrS.trans F6.out (mb.FrS.of_below (qAM (Below.refl _ _))))
    have XB7:=qAA.mk (hwd▸qAJ XB6.out)
    clear hwd
    refine pU 0 51 ?_
    refine pU 2 53 ?_
    refine pU 3 54 ?_
    refine pU 4 55 ?_
    refine pU 5 56 ?_
    refine tK 1 52 hHeld ?_
    refine tK 6 57 hHeld ?_
    refine pU 7 58 ?_
    refine pU 8 59 ?_
    refine qA6 (by kernel_rfl) ?_
    go_wp2_with (first | (go_at_call 61;refine (mb.qB2 H7.out 90 a1).mono ?_;rintro e_ w8 ⟨rfl,hr,hf⟩;have H8:=qAA.mk hr.weak;have XB8:=qAA.mk (hf.2 gx (qAX XB7.out) HGX.out.symm |>.trans XB7.out);have F8:=qAA.mk (F7.out.trans (mb.FrS.qBl hf H7.out.blk));clear hr hf))
    refine qAn (n:=13) (S:=fun w'=>w'.cell? ⟨g,6,none⟩=some (.slice (some ad) (k+1) cc2)∧w'.cell? ⟨gx,0,none⟩=some (.string s)∧w'.cell? ⟨gx,1,none⟩=some (.int .i64 f)) (ds:=[8,12]) #[qF,qF,qF,qF,qF,qF,qF,qF,qF,qF,qF,qF,qF] (by kernel_rfl) rfl rfl ⟨(qAB (show w8.drew.heap[g]?=_ from H8.out.blk) 6).trans rfl,(qAB (qAJ XB8.out) 0).trans rfl,(qAB (qAJ XB8.out) 1).trans rfl⟩ (fun hHeld => ?_)
    generalize hwd:w8.drew=we at hHeld ⊢
    have He:=qAA.mk (hwd▸H8.out.below (qAM (Below.refl _ _)))
    have Fe:=qAA.mk (show mb.FrS W we from hwd▸mb.FrS.trans F8.out (mb.FrS.of_below (qAM (Below.refl _ _))))
    have XBe:=qAA.mk (hwd▸qAJ XB8.out)
    clear hwd
    refine pU 0 63 ?_
    refine pU 1 64 ?_
    refine pU 2 65 ?_
    refine pU 3 66 ?_
    refine pU 4 67 ?_
    refine tK 5 68 hHeld ?_
    refine tK 6 69 hHeld ?_
    refine one_ (i:=7) (N:=some 70) #[qT,qT,qT,qT,qT,qT,qT,qT,qF,qF,qF,qF,qF] rfl rfl (by kernel_rfl) (by decide) (fun K hK => ?_)
    refine qBO (w1 := ?_) (v := ?_) (by rfl) rfl ?_ ?_
    rotate_left 2
    ·go_simp
     constructor
     ·rfl
     ·rfl
    refine hK.out _ _ ⟨(qAB (show (we.alloc _).heap[g]?=_ from qAK He.out.blk _) 6).trans rfl,(qAB (qAK XBe.out _) 0).trans rfl,(qAB (qAK XBe.out _) 1).trans rfl⟩ (fun hHeld => ?_)
    clear hK K
    refine qAi (a' := ?_) ?_ ?_
    rotate_left
    ·show Act.put _ (some 70) _=_
     simp only [Act.put,qs1,qs2,qs3,qAR,qAT]
     rfl
    refine qCD (i:=8) (N:=some 71) #[qT,qT,qT,qT,qT,qT,qT,qT,qT,qF,qF,qF,qF] rfl rfl (by kernel_rfl) (by decide) (fun K hK => ?_)
    refine Kd.qAq k56 (w0:=w0) w0.heap.size (by rfl) (.tmp 68) (.tmp 70) 25 56 (.agg #[.string ⟨#[]⟩,.int .i64 0]) 24 rfl Try.underlying25 info56 rfl (by decide) (by omega) (.slice (some ad) (k+1) cc2) m2 ⟨s,f⟩ [.string s,.int .i64 f] (fun k=>k ≠ g) (fun _=>False) rfl rfl ?aM (fun _ q=>q.elim) ?aN ?aO ?aB ?aS ?aL ?_
    (case aM=>exact k56_mkM _ _ _ _)
    (case aN=>exact fun k hk=>by have:=qAX He.out.blk;omega)
    (case aO=>exact He.out.r2)
    (case aB=>exact He.out.bel)
    (case aS=>exact He.out.bel.size)
    (case aL=>have:=HN2.out;omega)
    intro v11 w11 hr hbl hg hat
    obtain ⟨A11,c11,e11⟩:=Kd.qAZ hr
    subst e11
    rw [show (m2 ++ [(⟨s,f⟩:S56)]).length=m2.length+1 from by simp] at hr
    have G11:=qAA.mk (qAg He.out.blk hg (Kd.qCF He.out.r2 (fun _ hk=>hk)))
    have H11:=qAA.mk (fun (u:Value) (hu:u=.slice A11 (m2.length+1) c11)=>show mb.RM w0 (w11.setCell ⟨g,6,none⟩ u) g (fun k=>k ≠ g) B bs.length cb a3 _ _ v0 _ u m0 m1 (m2 ++ [⟨s,f⟩]) from ⟨qAx G11.out 6 _ rfl,Kd.qBL (mb.qBC He.out.r0 He.out.r2 hg (by decide)) (p:=⟨g,6,none⟩) (fun k hk=>hk) _,Kd.qBL (mb.qBC He.out.r1 He.out.r2 hg (by decide)) (p:=⟨g,6,none⟩) (fun k hk=>hk) _,Kd.qBL (hu▸hr) (p:=⟨g,6,none⟩) (fun k hk=>hk) _,qAQ hbl He.out.ge,He.out.ge,fun k hk=>hk⟩)
    have F11:=qAA.mk (Fe.out.trans (mb.FrS.grown hg (mb.own_t He.out.r2 (by decide))))
    have s5:=(qAB G11.out 6).trans rfl
    have s5f:=qAC G11.out 6
    clear hr hbl hg hat
    refine hK.out _ _ ?_
    clear hK K
    refine qAi (a' := ?_) ?_ ?_
    rotate_left
    ·show Act.put _ (some 71) _=_
     simp only [Act.put,qs1,qs2,qs3,qAR,qAT]
     rfl
    refine pU 9 72 ?_
    refine pU 10 73 ?_
    refine pU 11 74 ?_
    refine qCD (i:=12) (N:=none) #[qT,qT,qT,qT,qT,qT,qT,qT,qT,qT,qT,qT,qT] rfl rfl (by kernel_rfl) (by decide) (fun K hK => ?_)
    refine qCH (w1 := ?_) (by rfl) rfl ?_ ?_
    rotate_left
    ·go_simp
     rfl
    clear s5 s5f
    have H12:=qAA.mk (H11.out _ rfl)
    have F12:=qAA.mk (mb.FrS.trans F11.out (mb.FrS.setX (u:=.slice A11 (m2.length+1) c11) (j:=6) G11.out))
    refine hK.out _ _ ?_
    clear hK K
    refine qA6 (by kernel_rfl) ?_
    first | go_end0 | ((try simp only [Exit.inBlock,Exit.then]);refine bodyPost_ret (results_none rfl _ _ _) rfl ?_)
    exact ⟨rfl,⟨_,by have h_:=H12.out;rw [HM.out] at h_;exact h_⟩,F12.out⟩
   case neg =>
    rw [if_neg (by rw [← HM.out];exact hbig)] at q3
    injection q3 with e1 e2
    subst e1;subst e2
    have d6:decide (f ≥ (n1:Int))=false:=decide_eq_false hbig
    have d7:decide ((n1:Int)≤f)=false:=decide_eq_false hbig
    clear hbig
    go_enter Try.func58,Try.ntmps58
    have z1:W.cell? ⟨g,1,none⟩=some (.int .i64 a):=(qAB H.out.blk 1).trans rfl
    go_wp2_with (first | (go_at_call 76;refine T0.out.mono ?_;rintro e_ w1 ⟨rfl,hr,hf⟩;have H1:=qAA.mk hr;have F1:=qAA.mk (mb.FrS.qBl hf H.out.blk);clear hr hf z1;have H2:=qAA.mk (H1.out.sharp.below (W1:=w1.alloc (.cells #[.string s,.int .i64 0] 56)) (qAH (Below.refl _ _) _));have F2:=qAA.mk (F1.out.trans (mb.FrS.of_below (qAH (Below.refl w1.heap.size w1) (.cells #[.string s,.int .i64 0] 56))));have XB2:=qAA.mk (show (w1.alloc (.cells #[.string s,.int .i64 0] 56)).heap[w1.heap.size]?=some (.cells #[.string s,.int .i64 0] 56 (0,0)) from by simpa using heap_alloc_new w1 _);have HGX:=qAA.mk (show g ≠ w1.heap.size from by have:=qAX H1.out.blk;omega);have HGE:=qAA.mk (show w0.heap.size≤w1.heap.size from H1.out.bel.size);have z6:(w1.alloc (.cells #[.string s,.int .i64 0] 56)).cell? ⟨g,6,none⟩=some (.slice A2 (k+1) cc2):=(qAB H2.out.blk 6).trans rfl))
    clear z6
    generalize w1.alloc (.cells #[.string s,.int .i64 0] 56)=w2 at *
    generalize w1.heap.size=gx at *
    obtain ⟨ad,eA,h0,_⟩:=HAT.out w2.drew (Kd.R_reads' (Kd.qBo H2.out.r2)).2.2
    subst eA
    rw [Int.toNat_natCast] at h0
    refine qAn (n:=23) (S:=fun w'=>w'.cell? ⟨gx,0,none⟩=some (.string s)∧w'.cell? ⟨g,6,none⟩=some (.slice (some ad) (k+1) cc2)∧w'.cell? (ad.add (k * 2))=some (.string y.f0)) (ds:=[]) #[qF,qF,qF,qF,qF,qF,qF,qF,qF,qF,qF,qF,qF,qF,qF,qF,qF,qF,qF,qF,qF,qF,qF] (by kernel_rfl) rfl rfl ⟨(qAB (qAJ XB2.out) 0).trans rfl,(qAB (show w2.drew.heap[g]?=_ from H2.out.blk) 6).trans rfl,h0⟩ (fun hHeld => ?_)
    generalize hwd:w2.drew=wd at hHeld ⊢
    have h0d:=h0
    rw [hwd] at h0d
    have Hd:=qAA.mk (hwd▸H2.out.below (qAM (Below.refl _ _)))
    have Fd:=qAA.mk (show mb.FrS W wd from hwd▸mb.FrS.trans F2.out (mb.FrS.of_below (qAM (Below.refl _ _))))
    have XBd:=qAA.mk (hwd▸qAJ XB2.out)
    clear hwd H2 F2 XB2
    refine pU 0 18 ?_
    refine tK 1 19 hHeld ?_
    refine one_ (i:=2) (N:=some 20) #[qT,qT,qT,qF,qF,qF,qF,qF,qF,qF,qF,qF,qF,qF,qF,qF,qF,qF,qF,qF,qF,qF,qF] rfl rfl (by kernel_rfl) (by decide) (fun K hK => ?_)
    refine qBJ Try.func9 (by kernel_rfl) rfl #[.string s] (by rfl) rfl rfl (by (try simp only [List.map_toArray,List.map_cons,List.map_nil]);first | done | rfl) ?_
    refine (ISN.out wd).mono ?_
    rintro e w3 ⟨rfl,hb⟩
    refine ⟨_,rfl, ?_⟩
    have H3:=qAA.mk (Hd.out.below hb)
    have XB3:=qAA.mk (qAL XBd.out hb)
    have F3:=qAA.mk (Fd.out.trans (mb.FrS.of_below hb))
    have h0':=(hb.cell (qs4 _ _ h0d)).trans h0d
    clear hb
    refine hK.out _ _ ⟨(qAB XB3.out 0).trans rfl,(qAB H3.out.blk 6).trans rfl,h0'⟩ (fun hHeld => ?_)
    clear hK K
    refine qAi (a' := ?_) ?_ ?_
    rotate_left
    ·show Act.put _ (some 20) _=_
     simp only [Act.put,qs1,qs2,qs3,qAR,qAT]
     rfl
    refine pU 3 21 ?_
    refine pU 4 22 ?_
    refine pU 5 23 ?_
    refine pU 6 24 ?_
    refine pU 7 25 ?_
    refine pU 8 26 ?_
    refine pU 9 27 ?_
    refine pU 10 28 ?_
    refine pU 11 29 ?_
    refine pU 13 31 ?_
    refine pU 14 32 ?_
    refine pU 18 36 ?_
    refine tK 12 30 hHeld ?_
    refine pU 15 33 ?_
    refine pU 16 34 ?_
    refine tK 17 35 hHeld ?_
    refine tK 19 37 hHeld ?_
    refine pU 20 38 ?_
    refine pU 21 39 ?_
    refine pU 22 40 ?_
    refine qA6 (by kernel_rfl) ?_
    have z1:w3.cell? ⟨g,1,none⟩=some (.int .i64 a1):=(qAB H3.out.blk 1).trans rfl
    go_wp2_with (first | (go_at_call 60;refine (N1.out _ _ _ _ H3.out).mono ?_;rintro e_ w5 ⟨rfl,hr,hf⟩;have H5:=qAA.mk hr;have XB5:=qAA.mk (hf.2 gx (qAX XB3.out) HGX.out.symm |>.trans XB3.out);have F5:=qAA.mk (F3.out.trans (mb.FrS.qBl hf H3.out.blk));clear hr hf z1;have x_:=(qAB XB5.out 1).trans rfl;have xf_:=qAC XB5.out 1))
    have H6:=qAA.mk (H5.out.far gx 1 (fun k hk=>Nat.ne_of_lt hk.2) HGX.out HGE.out (.int .i64 f))
    have XB6:=qAA.mk (show (w5.setCell ⟨gx,1,none⟩ (.int .i64 f)).heap[gx]?=some (.cells #[.string s,.int .i64 f] 56 (0,0)) from qAx XB5.out 1 _ rfl)
    have F6:=qAA.mk (mb.FrS.trans F5.out (mb.FrS.setX (u:=.int .i64 f) (j:=1) XB5.out))
    clear x_ xf_
    generalize w5.setCell ⟨gx,1,none⟩ (.int .i64 f)=w6 at *
    refine qAn (n:=9) (S:=fun w'=>w'.cell? ⟨gx,1,none⟩=some (.int .i64 f)∧w'.cell? ⟨g,5,none⟩=some (.slice A1 n1 cc1)) (ds:=[]) #[qF,qF,qF,qF,qF,qF,qF,qF,qF] (by kernel_rfl) rfl rfl ⟨(qAB (qAJ XB6.out) 1).trans rfl,(qAB (show w6.drew.heap[g]?=_ from H6.out.blk) 5).trans rfl⟩ (fun hHeld => ?_)
    generalize hwd:w6.drew=w7 at hHeld ⊢
    have H7:=qAA.mk (hwd▸H6.out.below (qAM (Below.refl _ _)))
    have F7:=qAA.mk (show mb.FrS W w7 from hwd▸mb.FrS.trans F6.out (mb.FrS.of_below (qAM (Below.refl _ _))))
    have XB7:=qAA.mk (hwd▸qAJ XB6.out)
    clear hwd
    refine pU 0 51 ?_
    refine pU 2 53 ?_
    refine pU 3 54 ?_
    refine pU 4 55 ?_
    refine pU 5 56 ?_
    refine tK 1 52 hHeld ?_
    refine tK 6 57 hHeld ?_
    refine pU 7 58 ?_
    refine pU 8 59 ?_
    refine qA6 (by kernel_rfl) ?_
    go_wp2
    have H8:=qAA.mk H7.out.weak
    have XB8:=XB7
    have F8:=F7
    clear H7 XB7 F7
    obtain ⟨w8,hw8⟩:∃ w8,w8=w7:=⟨_,rfl⟩
    rw [← hw8] at H8 XB8 F8 ⊢
    clear hw8
    refine qAn (n:=13) (S:=fun w'=>w'.cell? ⟨g,6,none⟩=some (.slice (some ad) (k+1) cc2)∧w'.cell? ⟨gx,0,none⟩=some (.string s)∧w'.cell? ⟨gx,1,none⟩=some (.int .i64 f)) (ds:=[8,12]) #[qF,qF,qF,qF,qF,qF,qF,qF,qF,qF,qF,qF,qF] (by kernel_rfl) rfl rfl ⟨(qAB (show w8.drew.heap[g]?=_ from H8.out.blk) 6).trans rfl,(qAB (qAJ XB8.out) 0).trans rfl,(qAB (qAJ XB8.out) 1).trans rfl⟩ (fun hHeld => ?_)
    generalize hwd:w8.drew=we at hHeld ⊢
    have He:=qAA.mk (hwd▸H8.out.below (qAM (Below.refl _ _)))
    have Fe:=qAA.mk (show mb.FrS W we from hwd▸mb.FrS.trans F8.out (mb.FrS.of_below (qAM (Below.refl _ _))))
    have XBe:=qAA.mk (hwd▸qAJ XB8.out)
    clear hwd
    refine pU 0 63 ?_
    refine pU 1 64 ?_
    refine pU 2 65 ?_
    refine pU 3 66 ?_
    refine pU 4 67 ?_
    refine tK 5 68 hHeld ?_
    refine tK 6 69 hHeld ?_
    refine one_ (i:=7) (N:=some 70) #[qT,qT,qT,qT,qT,qT,qT,qT,qF,qF,qF,qF,qF] rfl rfl (by kernel_rfl) (by decide) (fun K hK => ?_)
    refine qBO (w1 := ?_) (v := ?_) (by rfl) rfl ?_ ?_
    rotate_left 2
    ·go_simp
     constructor
     ·rfl
     ·rfl
    refine hK.out _ _ ⟨(qAB (show (we.alloc _).heap[g]?=_ from qAK He.out.blk _) 6).trans rfl,(qAB (qAK XBe.out _) 0).trans rfl,(qAB (qAK XBe.out _) 1).trans rfl⟩ (fun hHeld => ?_)
    clear hK K
    refine qAi (a' := ?_) ?_ ?_
    rotate_left
    ·show Act.put _ (some 70) _=_
     simp only [Act.put,qs1,qs2,qs3,qAR,qAT]
     rfl
    refine qCD (i:=8) (N:=some 71) #[qT,qT,qT,qT,qT,qT,qT,qT,qT,qF,qF,qF,qF] rfl rfl (by kernel_rfl) (by decide) (fun K hK => ?_)
    refine Kd.qAq k56 (w0:=w0) w0.heap.size (by rfl) (.tmp 68) (.tmp 70) 25 56 (.agg #[.string ⟨#[]⟩,.int .i64 0]) 24 rfl Try.underlying25 info56 rfl (by decide) (by omega) (.slice (some ad) (k+1) cc2) m2 ⟨s,f⟩ [.string s,.int .i64 f] (fun k=>k ≠ g) (fun _=>False) rfl rfl ?aM (fun _ q=>q.elim) ?aN ?aO ?aB ?aS ?aL ?_
    (case aM=>exact k56_mkM _ _ _ _)
    (case aN=>exact fun k hk=>by have:=qAX He.out.blk;omega)
    (case aO=>exact He.out.r2)
    (case aB=>exact He.out.bel)
    (case aS=>exact He.out.bel.size)
    (case aL=>have:=HN2.out;omega)
    intro v11 w11 hr hbl hg hat
    obtain ⟨A11,c11,e11⟩:=Kd.qAZ hr
    subst e11
    rw [show (m2 ++ [(⟨s,f⟩:S56)]).length=m2.length+1 from by simp] at hr
    have G11:=qAA.mk (qAg He.out.blk hg (Kd.qCF He.out.r2 (fun _ hk=>hk)))
    have H11:=qAA.mk (fun (u:Value) (hu:u=.slice A11 (m2.length+1) c11)=>show mb.RM w0 (w11.setCell ⟨g,6,none⟩ u) g (fun k=>k ≠ g) B bs.length cb a3 _ _ v0 _ u m0 m1 (m2 ++ [⟨s,f⟩]) from ⟨qAx G11.out 6 _ rfl,Kd.qBL (mb.qBC He.out.r0 He.out.r2 hg (by decide)) (p:=⟨g,6,none⟩) (fun k hk=>hk) _,Kd.qBL (mb.qBC He.out.r1 He.out.r2 hg (by decide)) (p:=⟨g,6,none⟩) (fun k hk=>hk) _,Kd.qBL (hu▸hr) (p:=⟨g,6,none⟩) (fun k hk=>hk) _,qAQ hbl He.out.ge,He.out.ge,fun k hk=>hk⟩)
    have F11:=qAA.mk (Fe.out.trans (mb.FrS.grown hg (mb.own_t He.out.r2 (by decide))))
    have s5:=(qAB G11.out 6).trans rfl
    have s5f:=qAC G11.out 6
    clear hr hbl hg hat
    refine hK.out _ _ ?_
    clear hK K
    refine qAi (a' := ?_) ?_ ?_
    rotate_left
    ·show Act.put _ (some 71) _=_
     simp only [Act.put,qs1,qs2,qs3,qAR,qAT]
     rfl
    refine pU 9 72 ?_
    refine pU 10 73 ?_
    refine pU 11 74 ?_
    refine qCD (i:=12) (N:=none) #[qT,qT,qT,qT,qT,qT,qT,qT,qT,qT,qT,qT,qT] rfl rfl (by kernel_rfl) (by decide) (fun K hK => ?_)
    refine qCH (w1 := ?_) (by rfl) rfl ?_ ?_
    rotate_left
    ·go_simp
     rfl
    clear s5 s5f
    have H12:=qAA.mk (H11.out _ rfl)
    have F12:=qAA.mk (mb.FrS.trans F11.out (mb.FrS.setX (u:=.slice A11 (m2.length+1) c11) (j:=6) G11.out))
    refine hK.out _ _ ?_
    clear hK K
    refine qA6 (by kernel_rfl) ?_
    first | go_end0 | ((try simp only [Exit.inBlock,Exit.then]);refine bodyPost_ret (results_none rfl _ _ _) rfl ?_)
    exact ⟨rfl,⟨_,by have h_:=H12.out;rw [HM.out] at h_;exact h_⟩,F12.out⟩
end
end Go.Proofs.Ytmehfnikecmiiaa.X
namespace Go.Proofs.Ytmehfnikecmiiaa.X
open Go.RowKit Go.Proofs.YtmehfnikecmiiaaW.PrintWords Go.Proofs.YtmehfnikecmiiaaW.PrintLast Go.Proofs.YtmehfnikecmiiaaW.PrintMore Go.Proofs.YtmehfnikecmiiaaW
section
set_option maxRecDepth 100000
open Go.Proofs.Ytmehfnikecmiiaa
def mb.at_ (bs:List Int) (a:Int):List Int:=bs.drop a.toNat
theorem mb.uint_form {bs:List Int} (hb:Pl.Bytes bs) {a:Int} (h:(Pl.qAW bs a).2.2=0):mb.at_ bs a=Pl.putU (Pl.qAW bs a).1 ++ mb.at_ bs (Pl.qAW bs a).2.1:=by
 have hok:=Pl.qBT bs hb a h
 unfold Pl.qAW at h hok ⊢
 by_cases h0:a < 0 ∨ a > bs.length
 ·rw [if_pos h0] at h;exact absurd h (by decide)
 rw [if_neg h0] at h hok ⊢
 have ha0:0≤a:=by omega
 obtain ⟨v,m,e,hr⟩:∃ v m e,Pl.rdU 10 0 (bs.drop a.toNat) 0=(v,m,e):=⟨_,_,_,rfl⟩
 rw [hr] at h hok ⊢
 unfold Pl.fin at h hok ⊢
 dsimp only at h hok ⊢
 subst h
 rw [if_pos rfl] at hok ⊢
 have hf:=Pl.rdU_form _ (hb.drop _) v m hr
 have ht:m.toNat+a.toNat=(a+m).toNat:=by omega
 unfold mb.at_
 rw [← hf.2.2.1,← ht,Nat.add_comm,← List.drop_drop,List.take_append_drop]
theorem mb.at_cons {bs:List Int} {a:Int} (h0:0≤a) (h1:a < (bs.length:Int)):mb.at_ bs a=rd bs a :: mb.at_ bs (a+1):=by
 have hlt:a.toNat < bs.length:=by omega
 unfold mb.at_ rd
 rw [List.drop_eq_getElem_cons hlt,List.getD_eq_getElem?_getD,List.getElem?_eq_getElem hlt,show (a+1).toNat=a.toNat+1 by omega]
 rfl
theorem mb.at_cut {bs:List Int} {a n:Int} (h0:0≤a) (hn:0≤n):mb.at_ bs a=(bs.drop a.toNat).take n.toNat ++ mb.at_ bs (a+n):=by
 unfold mb.at_
 rw [show (a+n).toNat=a.toNat+n.toNat by omega,← List.drop_drop,List.take_append_drop]
def mb.Rd (bs:List Int) (x:S48) (a l a2 l2:Int):Prop:=mb.at_ bs a=en x ++ mb.at_ bs a2∧(wt x:Int)=l - l2
theorem mb.arr_en {bs:List Int} {f:Int→Int→mb.R3 S48} (hf:∀ (a l:Int) (x:S48) (a2 l2:Int),mb.Bd bs.length a l→f a l=.ok x a2 l2→mb.Rd bs x a l a2 l2∧mb.Bd bs.length a2 l2):∀ (k:Nat) (acc:List S48) (a l:Int) (vs:List S48) (a2 l2:Int),mb.Bd bs.length a l→mb.arrL f k acc a l=.ok vs a2 l2→∃ ys,vs=acc ++ ys∧ys.length=k∧mb.at_ bs a=(ys.map en).flatten ++ mb.at_ bs a2∧((ys.map wt).sum:Int)=l - l2
 | 0,acc,a,l,vs,a2,l2,hb,h=>by
  unfold mb.arrL at h
  injection h with e1 e2 e3
  subst e1;subst e2;subst e3
  exact ⟨[],by simp,rfl,by simp,by simp⟩
 | k+1,acc,a,l,vs,a2,l2,hb,h=>by
  unfold mb.arrL at h
  rcases hfa:f a l with ⟨x,a1,l1⟩ | ⟨e,q⟩
  ·rw [hfa] at h
   have hx:=hf a l x a1 l1 hb hfa
   obtain ⟨ys,h1,h2,h3,h4⟩:=mb.arr_en hf k (acc ++ [x]) a1 l1 vs a2 l2 hx.2 h
   refine ⟨x :: ys,by rw [h1,List.append_assoc];rfl,by rw [List.length_cons,h2],by rw [hx.1.1,h3,List.map_cons,List.flatten_cons,List.append_assoc], ?_⟩
   have:=hx.1.2
   simp only [List.map_cons,List.sum_cons]
   omega
  ·rw [hfa] at h;cases h
theorem mb.key_en {bs:List Int} (hb:Pl.Bytes bs) (hl:bs.length≤140737488351232) {ks:List ByteArray} {a l a2 l2:Int} {k:ByteArray} (h:mb.keyS bs (Pl.qAW bs) ks a l=.ok k a2 l2):mb.at_ bs a=Pl.putU (k.size:Int) ++ (bytesOf k ++ mb.at_ bs a2)∧1+(k.size:Int)=l - l2:=by
 unfold mb.keyS at h
 by_cases h1:(Pl.qAW bs a).2.2 ≠ 0
 ·rw [if_pos h1] at h;cases h
 rw [if_neg h1] at h
 have h1':(Pl.qAW bs a).2.2=0:=Classical.byContradiction h1
 have hok:=Pl.qBT bs hb a h1'
 have hrg:=Pl.qA2 bs hb a
 have hfm:=mb.uint_form hb h1'
 obtain ⟨n,m,e,hr⟩:∃ n m e,Pl.qAW bs a=(n,m,e):=⟨_,_,_,rfl⟩
 rw [hr] at h hok hrg hfm
 dsimp only at h hok hrg hfm
 by_cases h2:n > 32
 ·rw [if_pos h2] at h;cases h
 rw [if_neg h2] at h
 by_cases h3:n > (bs.length:Int) - m
 ·rw [if_pos h3] at h;cases h
 rw [if_neg h3] at h
 split at h
 ·cases h
 split at h
 ·cases h
 ·injection h with e1 e2 e3
  have hsz:(k.size:Int)=n:=by
   rw [← e1,mb.qBf,List.length_take,List.length_drop]
   omega
  have hbo:bytesOf k=(bs.drop m.toNat).take n.toNat:=by rw [← e1];exact Pl.qBk _ ((hb.drop _).take _)
  refine ⟨?_,by rw [e1] at e3;omega⟩
  rw [hfm,hsz,hbo,← e2,mb.at_cut (a:=m) (n:=n) (by omega) (by omega)]
theorem mb.rec_en {bs:List Int} (hb:Pl.Bytes bs) (hl:bs.length≤140737488351232) {i:Int→Int × Int × Int} (hU:mb.Uin bs (Pl.qAW bs) i) {f:Int→Int→mb.R3 S48} (hf:∀ (a l:Int) (x:S48) (a2 l2:Int),mb.Bd bs.length a l→f a l=.ok x a2 l2→mb.Rd bs x a l a2 l2∧mb.Bd bs.length a2 l2):∀ (k:Nat) (ks:List ByteArray) (acc:List S48) (a l:Int) (vs:List ByteArray × List S48) (a2 l2:Int),mb.Bd bs.length a l→mb.recL bs (Pl.qAW bs) f k ks acc a l=.ok vs a2 l2→∃ qs ys,vs=(ks ++ qs,acc ++ ys)∧ys.length=k∧qs.length=k∧mb.at_ bs a=recs (ys.map en) qs ++ mb.at_ bs a2∧(((ys.map wt).sum+(qs.map fun s=>1+s.size).sum:Nat):Int)=l - l2
 | 0,ks,acc,a,l,vs,a2,l2,hB,h=>by
  unfold mb.recL at h
  injection h with e1 e2 e3
  subst e1;subst e2;subst e3
  exact ⟨[],[],by simp,rfl,rfl,by simp [recs],by simp⟩
 | k+1,ks,acc,a,l,vs,a2,l2,hB,h=>by
  unfold mb.recL at h
  rcases hka:mb.keyS bs (Pl.qAW bs) ks a l with ⟨kk,a1,l1⟩ | ⟨e,q⟩
  ·rw [hka] at h
   have hb1:mb.Bd bs.length a1 l1:=mb.keyS_b hU ⟨hB.2.2.1,hB.2.2.2⟩ hka
   have hke:=mb.key_en hb hl hka
   dsimp only at h
   rcases hfa:f a1 l1 with ⟨x,a3,l3⟩ | ⟨e,q⟩
   ·rw [hfa] at h
    have hx:=hf a1 l1 x a3 l3 hb1 hfa
    obtain ⟨qs,ys,h1,h2,h3,h4,h5⟩:=mb.rec_en hb hl hU hf k (ks ++ [kk]) (acc ++ [x]) a3 l3 vs a2 l2 hx.2 h
    refine ⟨kk :: qs,x :: ys,by rw [h1,List.append_assoc,List.append_assoc];rfl,by rw [List.length_cons,h2],by rw [List.length_cons,h3], ?_, ?_⟩
    ·rw [hke.1,hx.1.1,h4]
     simp [recs,List.append_assoc]
    ·have q1:=hx.1.2
     have q2:=hke.2
     simp only [List.map_cons,List.sum_cons]
     omega
   ·rw [hfa] at h;cases h
  ·rw [hka] at h;cases h
theorem mb.qCb (f0 f1:Int) (f2:ByteArray):wt (⟨f0,f1,f2,[],[]⟩:S48)=1+f2.size:=by rw [wt_eq];simp
theorem mb.valS_en {bs:List Int} (hb:Pl.Bytes bs) (hl:bs.length≤140737488351232) (hU:mb.Uin bs (Pl.qAW bs) (Pl.qCX bs)):∀ (d:Nat) (a l:Int) (x:S48) (a2 l2:Int),mb.Bd bs.length a l→mb.valS bs (Pl.qAW bs) (Pl.qCX bs) d a l=.ok x a2 l2→mb.Rd bs x a l a2 l2
 | 0,a,l,x,a2,l2,hB,h=>by
  rw [mb.valS] at h
  split at h <;> cases h
 | d+1,a,l,x,a2,l2,hB,h=>by
  have ih:∀ (a l:Int) (x:S48) (a2 l2:Int),mb.Bd bs.length a l→mb.valS bs (Pl.qAW bs) (Pl.qCX bs) d a l=.ok x a2 l2→mb.Rd bs x a l a2 l2∧mb.Bd bs.length a2 l2:=fun a l x a2 l2 q h=>⟨mb.valS_en hb hl hU d a l x a2 l2 q h,mb.valS_b hU d a l x a2 l2 q h⟩
  rw [mb.valS_s] at h
  obtain ⟨b1,b2,b3,b4⟩:=hB
  have nb:∀ {e q:Int},mb.R3.bad e q=.ok x a2 l2→mb.Rd bs x a l a2 l2:=fun h=>by cases h
  by_cases h0:a=(bs.length:Int) ∨ rd bs a > 6
  ·rw [if_pos h0] at h;exact nb h
  rw [if_neg h0] at h
  have ha:a < (bs.length:Int):=by
   have:a ≠ (bs.length:Int):=fun e=>h0 (Or.inl e)
   omega
  have hx6:rd bs a≤6:=by
   have:¬ rd bs a > 6:=fun e=>h0 (Or.inr e)
   omega
  have hc:=mb.at_cons b1 ha
  have hrd:0≤rd bs a:=by
   have hlt:a.toNat < bs.length:=by omega
   have:rd bs a=bs[a.toNat]:=by unfold rd;rw [List.getD_eq_getElem?_getD,List.getElem?_eq_getElem hlt];rfl
   rw [this]
   exact (hb _ (List.getElem_mem hlt)).1
  by_cases h1:1 > l
  ·rw [if_pos h1] at h;exact nb h
  rw [if_neg h1] at h
  by_cases k1:rd bs a=1
  ·rw [if_pos k1] at h
   injection h with e1 e2 e3
   subst e1;subst e2;subst e3
   exact ⟨by rw [hc,k1,en1 rfl];rfl,by rw [mb.qCb];have hz:(⟨#[]⟩:ByteArray).size=0:=rfl;omega⟩
  rw [if_neg k1] at h
  by_cases k2:rd bs a=2
  ·rw [if_pos k2] at h
   injection h with e1 e2 e3
   subst e1;subst e2;subst e3
   exact ⟨by rw [hc,k2,en1 rfl];rfl,by rw [mb.qCb];have hz:(⟨#[]⟩:ByteArray).size=0:=rfl;omega⟩
  rw [if_neg k2] at h
  by_cases k3:rd bs a=3
  ·rw [if_pos k3] at h
   by_cases e1:(Pl.qCX bs (a+1)).2.2 ≠ 0
   ·rw [if_pos e1] at h;exact nb h
   rw [if_neg e1] at h
   have e1':(Pl.qAW bs (a+1)).2.2=0:=Classical.byContradiction e1
   have hf:=mb.uint_form hb e1'
   have hr:=Pl.qA2 bs hb (a+1)
   injection h with q1 q2 q3
   subst q1;subst q2;subst q3
   refine ⟨?_,by rw [mb.qCb];have hz:(⟨#[]⟩:ByteArray).size=0:=rfl;omega⟩
   rw [hc,k3,hf,en2 rfl]
   show _=3 :: (Pl.putU (Pl.zz (Pl.unzz (Pl.qAW bs (a+1)).1)) ++ mb.at_ bs (Pl.qAW bs (a+1)).2.1)
   rw [Pl.zz_unzz _ hr.1]
  rw [if_neg k3] at h
  have hr:=Pl.qA2 bs hb (a+1)
  by_cases k4:rd bs a=4
  ·rw [if_pos k4] at h
   by_cases e1:(Pl.qAW bs (a+1)).2.2 ≠ 0
   ·rw [if_pos e1] at h;exact nb h
   rw [if_neg e1] at h
   have e1':(Pl.qAW bs (a+1)).2.2=0:=Classical.byContradiction e1
   have hf:=mb.uint_form hb e1'
   have hok:=Pl.qBT bs hb (a+1) e1'
   obtain ⟨n,m,e,hu⟩:∃ n m e,Pl.qAW bs (a+1)=(n,m,e):=⟨_,_,_,rfl⟩
   rw [hu] at h hf hok hr
   dsimp only at h hf hok hr
   by_cases e2:(l - 1) / 1 < n
   ·rw [if_pos e2] at h;exact nb h
   rw [if_neg e2] at h
   by_cases e3:(bs.length:Int) - m < n
   ·rw [if_pos e3] at h;exact nb h
   rw [if_neg e3] at h
   injection h with q1 q2 q3
   subst q1;subst q2;subst q3
   have hsz:((strOfNums ((bs.drop m.toNat).take n.toNat)).size:Int)=n:=by
    rw [mb.qBf,List.length_take,List.length_drop]
    omega
   have hbo:bytesOf (strOfNums ((bs.drop m.toNat).take n.toNat))=(bs.drop m.toNat).take n.toNat:=Pl.qBk _ ((hb.drop _).take _)
   refine ⟨?_,by rw [mb.qCb];omega⟩
   rw [hc,k4,hf,en3 rfl]
   show _=4 :: ((Pl.putU ((strOfNums ((bs.drop m.toNat).take n.toNat)).size:Int) ++ bytesOf (strOfNums ((bs.drop m.toNat).take n.toNat))) ++ mb.at_ bs (m+n))
   rw [hsz,hbo,List.append_assoc,← mb.at_cut (a:=m) (n:=n) (by omega) (by omega)]
  rw [if_neg k4] at h
  by_cases k5:rd bs a=5
  ·rw [if_pos k5] at h
   by_cases e1:(Pl.qAW bs (a+1)).2.2 ≠ 0
   ·rw [if_pos e1] at h;exact nb h
   rw [if_neg e1] at h
   have e1':(Pl.qAW bs (a+1)).2.2=0:=Classical.byContradiction e1
   have hf:=mb.uint_form hb e1'
   have hok:=Pl.qBT bs hb (a+1) e1'
   by_cases e2:(l - 1) / 1 < (Pl.qAW bs (a+1)).1
   ·rw [if_pos e2] at h;exact nb h
   rw [if_neg e2] at h
   rcases hL:mb.arrL (mb.valS bs (Pl.qAW bs) (Pl.qCX bs) d) (Pl.qAW bs (a+1)).1.toNat [] (Pl.qAW bs (a+1)).2.1 (l - 1) with ⟨vs,a3,l3⟩ | ⟨e,p⟩
   ·rw [hL] at h
    obtain ⟨ys,g1,g2,g3,g4⟩:=mb.arr_en ih _ _ _ _ _ _ _ ⟨by omega,by omega,by omega,by omega⟩ hL
    injection h with q1 q2 q3
    rw [List.nil_append] at g1
    subst g1;subst q1;subst q2;subst q3
    have hlen:(vs.length:Int)=(Pl.qAW bs (a+1)).1:=by omega
    refine ⟨?_, ?_⟩
    ·rw [hc,k5,hf,g3,en4 rfl]
     show _=5 :: ((Pl.putU (vs.length:Int) ++ (vs.map en).flatten) ++ _)
     rw [hlen,List.append_assoc]
    ·rw [wt_eq]
     show ((1+(⟨#[]⟩:ByteArray).size+(vs.map wt).sum+0:Nat):Int)=_
     have hz:(⟨#[]⟩:ByteArray).size=0:=rfl
     omega
   ·rw [hL] at h;exact nb h
  rw [if_neg k5] at h
  by_cases k6:rd bs a=6
  ·rw [if_pos k6] at h
   by_cases e1:(Pl.qAW bs (a+1)).2.2 ≠ 0
   ·rw [if_pos e1] at h;exact nb h
   rw [if_neg e1] at h
   have e1':(Pl.qAW bs (a+1)).2.2=0:=Classical.byContradiction e1
   have hf:=mb.uint_form hb e1'
   have hok:=Pl.qBT bs hb (a+1) e1'
   by_cases e2:(l - 1) / 2 < (Pl.qAW bs (a+1)).1
   ·rw [if_pos e2] at h;exact nb h
   rw [if_neg e2] at h
   rcases hL:mb.recL bs (Pl.qAW bs) (mb.valS bs (Pl.qAW bs) (Pl.qCX bs) d) (Pl.qAW bs (a+1)).1.toNat [] [] (Pl.qAW bs (a+1)).2.1 (l - 1) with ⟨⟨ks,vs⟩,a3,l3⟩ | ⟨e,p⟩
   ·rw [hL] at h
    obtain ⟨qs,ys,g1,g2,g3,g4,g5⟩:=mb.rec_en hb hl hU ih _ _ _ _ _ _ _ _ ⟨by omega,by omega,by omega,by omega⟩ hL
    injection h with q1 q2 q3
    rw [List.nil_append,List.nil_append] at g1
    injection g1 with g1 g1b
    subst g1;subst g1b;subst q1;subst q2;subst q3
    have hlen:(vs.length:Int)=(Pl.qAW bs (a+1)).1:=by omega
    refine ⟨?_, ?_⟩
    ·rw [hc,k6,hf,g4,en5 rfl]
     show _=6 :: ((Pl.putU (vs.length:Int) ++ recs (vs.map en) ks) ++ _)
     rw [hlen,List.append_assoc]
    ·rw [wt_eq]
     show ((1+(⟨#[]⟩:ByteArray).size+(vs.map wt).sum+(ks.map fun s=>1+s.size).sum:Nat):Int)=_
     have hz:(⟨#[]⟩:ByteArray).size=0:=rfl
     omega
   ·rw [hL] at h;exact nb h
  rw [if_neg k6] at h
  have k0:rd bs a=0:=by omega
  injection h with e1 e2 e3
  subst e1;subst e2;subst e3
  exact ⟨by rw [hc,k0,en0 rfl];rfl,by rw [mb.qCb];have hz:(⟨#[]⟩:ByteArray).size=0:=rfl;omega⟩
end
end Go.Proofs.Ytmehfnikecmiiaa.X
namespace Go.Proofs.Ytmehfnikecmiiaa.X
open Go.RowKit Go.Proofs.YtmehfnikecmiiaaW.PrintWords Go.Proofs.YtmehfnikecmiiaaW.PrintLast Go.Proofs.YtmehfnikecmiiaaW.PrintMore Go.Proofs.YtmehfnikecmiiaaW
section
set_option maxHeartbeats 4000000
set_option maxRecDepth 100000
theorem mb.cutc {P:Program} (t e:TypeId) {i:TypeInfo} (ht:P.underlying t=some (.slice e)) (hi:P.info? e=some i) (A:Option Addr) (n c:Nat) (hc:n≤c) :
  ∀ W:World,(Instr.slice t (.slice A n c) none (some (.int .i64 (n:Int))) (some (.int .i64 (n:Int)))).run P W=.ok (.slice A n n) W:=by
 intro W
 have hel:P.elem t=e:=by simp [Program.elem,ht]
 have hu:P.underlying t=some (.slice (P.elem t)):=by rw [hel];exact ht
 have ha:(A.map fun x=>x.add 0)=A:=by cases A <;> simp [Addr.add]
 rw [run_slice_hm W t A n c hu .i64 .i64 n n (by omega) (by omega) (by omega),hel]
 simp [sizeOf,typeInfo,hi,sliced,Result.andThen,ha]
theorem mb.clip56 (A:Option Addr) (n c:Nat) (hc:n≤c) (w:World):Calls Try.prog 103 #[.slice A n c] w fun e w'=>e=.returned (.slice A n n)∧Below w.heap.size w w':=by
 obtain ⟨i0,hi0,_,_,_⟩:=info_parts info9
 have hcut:=mb.cutc (P:=Try.prog) 46 9 Try.underlying46 hi0 A n c hc
 clear hi0
 go_enter Try.func103,Try.ntmps103
 go_wp2
 go_ret
 exact ⟨rfl,Below.refl _ _⟩
theorem mb.clip57 (A:Option Addr) (n c:Nat) (hc:n≤c) (w:World):Calls Try.prog 104 #[.slice A n c] w fun e w'=>e=.returned (.slice A n n)∧Below w.heap.size w w':=by
 obtain ⟨i0,hi0,_,_,_⟩:=info_parts info48
 have hcut:=mb.cutc (P:=Try.prog) 23 48 Try.underlying23 hi0 A n c hc
 clear hi0
 go_enter Try.func104,Try.ntmps104
 go_wp2
 go_ret
 exact ⟨rfl,Below.refl _ _⟩
def mb.five (w:World) (p:Addr) (v0 v1 v2 v3 v4:Value):Prop:=w.cell? p=some v0∧w.cell? ⟨p.block,p.off+1,none⟩=some v1∧w.cell? ⟨p.block,p.off+2,none⟩=some v2∧w.cell? ⟨p.block,p.off+3,none⟩=some v3∧w.cell? ⟨p.block,p.off+4,none⟩=some v4
theorem mb.five.of {w:World} {b o:Nat} {cs:Array Value} {v0 v1 v2 v3 v4:Value} (h:w.heap[b]?=some (.cells cs 48 (0,0))) (hg:mb.grp cs o v0 v1 v2 v3 v4) {ad:Addr} (ha:ad=⟨b,0,none⟩):mb.five w (ad.add o) v0 v1 v2 v3 v4:=by
 subst ha
 rw [Addr.add_lit,Nat.zero_add]
 exact ⟨mb.cell_of h hg.1,mb.cell_of h hg.2.1,mb.cell_of h hg.2.2.1,mb.cell_of h hg.2.2.2.1,mb.cell_of h hg.2.2.2.2⟩
theorem mb.SimT.block {Y:Nat→Prop} {w w1:World} (h:mb.SimT Y w w1) {b:Nat} {cs:Array Value} (hy:Y b) (hb:w.heap[b]?=some (.cells cs 48 (0,0))):∃ cs',w1.heap[b]?=some (.cells cs' 48 (0,0))∧cs'.size=cs.size:=by
 rcases h.ins b hy (qAX hb) with e | ⟨cs1,cs2,e1,e2,e3,_⟩
 ·exact ⟨cs,e.trans hb,rfl⟩
 ·rw [hb] at e1
  injection e1 with e1
  injection e1 with e1
  subst e1
  exact ⟨cs2,e2,e3⟩
theorem mb.VRow.elem {w:World} {Y:Nat→Prop} {d n c:Nat} {A:Option Addr} {xs:List S48} (h:mb.VRow w Y (d+1) (.slice A n c) xs) {j:Nat} (hj:j < n) (hn:xs.length=n):∃ b cs x u3 u4,A=some ⟨b,0,none⟩∧Y b∧w.heap[b]?=some (.cells cs 48 (0,0))∧n≤c∧c * 5≤cs.size∧xs[j]?=some x∧mb.grp cs (j * 5) (.int .i64 x.f0) (.int .i64 x.f1) (.string x.f2) u3 u4∧mb.VRow w Y d u3 x.f3∧mb.KRow w Y u4 x.f4:=by
 rcases h with ⟨_,rfl⟩ | ⟨b,c',cs,e,hy,hh,hl,hsz,hm,hc⟩
 ·simp at hn;omega
 ·injection e with e1 e2 e3
  subst e1;subst e3
  have hx:xs[j]?=some xs[j]:=List.getElem?_eq_getElem (by omega)
  obtain ⟨u3,u4,hg,r3,r4⟩:=hc j _ hx
  exact ⟨b,cs,_,u3,u4,rfl,hy,hh,by omega,hsz,hx,hg,r3,r4⟩
theorem mb.qCV {v:Value} (h:∃ A n c,v=.slice A n c):v.oneCell'=true∧(mb.qCO v).oneCell'=true:=by
 obtain ⟨A,n,c,rfl⟩:=h
 exact ⟨rfl,rfl⟩
theorem mb.tight1 {Y:Nat→Prop}:∀ (d:Nat) (x:S48) (v3 v4:Value) (w:World),(∀ k,Y k→k < w.heap.size)→mb.VRow w Y d v3 x.f3→mb.KRow w Y v4 x.f4 →
  Calls Try.prog 90 #[.agg #[.int .i64 x.f0,.int .i64 x.f1,.string x.f2,v3,v4]] w fun e w'=>e=.returned (.agg #[.int .i64 x.f0,.int .i64 x.f1,.string x.f2,mb.qCO v3,mb.qCO v4])∧mb.SimT Y w w':=by
 intro d
 induction d with
 | zero=>intro x v3 v4 w hY h;exact h.elim
 | succ d ih =>
 rintro ⟨f0,f1,f2,f3,f4⟩ v3 v4 w hY hV hK
 obtain ⟨A4,c4,e4,l4,g4⟩:=hK.C
 obtain ⟨A3,c3,e3,l3,g3⟩:=mb.VRow.C (d+1) hV
 subst e3;subst e4
 dsimp only at *
 have hu25:=Try.underlying48
 have HV:=qAA.mk hV
 have HY:=qAA.mk hY
 have LM:=qAA.mk g3.2.1
 have L3:=qAA.mk l3
 have L4:=qAA.mk l4
 show Calls Try.prog 90 _ w fun e w'=>e=.returned (.agg #[.int .i64 f0,.int .i64 f1,.string f2,.slice A3 f3.length f3.length,.slice A4 f4.length f4.length])∧mb.SimT Y w w'
 clear hV hY hK g3 g4 l3 l4
 obtain ⟨n,hn⟩:∃ n,f3.length=n:=⟨_,rfl⟩
 obtain ⟨m,hm⟩:∃ m,f4.length=m:=⟨_,rfl⟩
 have HN:=qAA.mk hn
 rw [hn] at HV LM L3 ⊢
 rw [hm] at L4 ⊢
 clear hn hm
 go_enter Try.func90,Try.ntmps90
 go_wp2_with (first | ((with_reducible refine qAr (N:=1) rfl ?_);refine qAk ?hg (N:=1) ?hd (cs:=#[.int .i64 f0,.int .i64 f1,.string f2,.slice A3 n c3,.slice A4 m c4]) (t:=48) ?hr ?_;(case hd=>rfl);(case hg=>rfl);(case hr=>first | (go_simp;done) | (go_simp;rfl));intro pb hpb w1 hbox hb1;have BX1:=qAA.mk hbox;have HB1:=qAA.mk hb1;have HPB:=qAA.mk (Nat.le_of_eq hpb.symm);clear hbox hb1 hpb))
 obtain ⟨w2,hw2⟩:∃ w2,w1.alloc (.cells #[.int .i64 0,.int .i64 0,.string ⟨#[]⟩,.slice none 0 0,.slice none 0 0] 48)=w2:=⟨_,rfl⟩
 have RB2:=qAA.mk (show w2.heap[w1.heap.size]?=some (.cells #[.int .i64 0,.int .i64 0,.string ⟨#[]⟩,.slice none 0 0,.slice none 0 0] 48 (0,0)) by rw [← hw2];simpa using heap_alloc_new w1 _)
 have BX2:=qAA.mk (hw2▸qAK BX1.out (.cells #[.int .i64 0,.int .i64 0,.string ⟨#[]⟩,.slice none 0 0,.slice none 0 0] 48))
 have HB2:=qAA.mk (hw2▸HB1.out.alloc HB1.out.size (.cells #[.int .i64 0,.int .i64 0,.string ⟨#[]⟩,.slice none 0 0,.slice none 0 0] 48))
 have HPR:=qAA.mk (qAX BX1.out)
 rw [hw2]
 clear hw2 BX1 HB1
 generalize w1.heap.size=rb at *
 refine qAn (n:=10) (S:=fun w'=>w'.cell? ⟨pb,4,none⟩=some (.slice A4 m c4)∧w'.cell? ⟨pb,3,none⟩=some (.slice A3 n c3)) (ds:=[7,9]) #[qF,qF,qF,qF,qF,qF,qF,qF,qF,qF] (by kernel_rfl) rfl rfl ⟨(qAB (qAJ BX2.out) 4).trans rfl,(qAB (qAJ BX2.out) 3).trans rfl⟩ (fun hHeld => ?_)
 generalize hwd:w2.drew=wd at hHeld ⊢
 have BD:=qAA.mk (hwd▸qAJ BX2.out)
 have RD:=qAA.mk (hwd▸qAJ RB2.out)
 have HD:=qAA.mk (hwd▸qAM HB2.out)
 clear hwd BX2 RB2 HB2
 refine pU 0 4 ?_
 refine pU 3 7 ?_
 refine tK 1 5 hHeld ?_
 refine tK 4 8 hHeld ?_
 refine one_ (i:=2) (N:=some 6) #[qT,qT,qT,qT,qT,qF,qF,qF,qF,qF] rfl rfl (by kernel_rfl) (by decide) (fun K hK => ?_)
 refine qBJ Try.func103 (by kernel_rfl) rfl #[.slice A4 m c4] (by rfl) rfl rfl (by (try simp only [List.map_toArray,List.map_cons,List.map_nil]);first | done | rfl) ?_
 refine (mb.clip56 A4 m c4 L4.out _).mono ?_
 rintro e w3 ⟨rfl,hb⟩
 refine ⟨_,rfl, ?_⟩
 have BX3:=qAA.mk (qAL BD.out hb)
 have RB3:=qAA.mk (qAL RD.out hb)
 have HB3:=qAA.mk (qAU HD.out HD.out.size hb)
 clear hb BD RD HD
 refine hK.out _ _ ⟨(qAB BX3.out 4).trans rfl,(qAB BX3.out 3).trans rfl⟩ (fun hHeld => ?_)
 clear hK K
 refine qAi (a' := ?_) ?_ ?_
 rotate_left
 ·show Act.put _ (some 6) _=_
  simp only [Act.put,qs1,qs2,qs3,qAR,qAT]
  rfl
 refine pU 6 10 ?_
 refine one_ (i:=5) (N:=some 9) #[qT,qT,qT,qT,qT,qT,qT,qF,qF,qF] rfl rfl (by kernel_rfl) (by decide) (fun K hK => ?_)
 refine qBJ Try.func104 (by kernel_rfl) rfl #[.slice A3 n c3] (by rfl) rfl rfl (by (try simp only [List.map_toArray,List.map_cons,List.map_nil]);first | done | rfl) ?_
 refine (mb.clip57 A3 n c3 L3.out _).mono ?_
 rintro e w4 ⟨rfl,hb⟩
 refine ⟨_,rfl, ?_⟩
 have BX4:=qAA.mk (qAL BX3.out hb)
 have RB4:=qAA.mk (qAL RB3.out hb)
 have HS4:=qAA.mk (mb.SimT.of_below (Y:=Y) (qAU HB3.out HB3.out.size hb))
 clear hb BX3 RB3 HB3
 have fv4:=qAC BX4.out 4
 refine hK.out _ _ ⟨(qAB BX4.out 4).trans rfl,(qAB BX4.out 3).trans rfl⟩ (fun hHeld => ?_)
 clear hK K
 refine qAi (a' := ?_) ?_ ?_
 rotate_left
 ·show Act.put _ (some 9) _=_
  simp only [Act.put,qs1,qs2,qs3,qAR,qAT]
  rfl
 refine qCD (i:=7) (N:=none) #[qT,qT,qT,qT,qT,qT,qT,qT,qF,qF] rfl rfl (by kernel_rfl) (by decide) (fun K hK => ?_)
 have hc4:=(qAB BX4.out 4).trans rfl
 refine qCH (w1 := ?_) (by rfl) rfl ?_ ?_
 rotate_left
 ·go_simp
  rfl
 clear fv4 hc4
 have BX4a:=qAA.mk (qAx BX4.out 4 (.slice A4 m m) rfl)
 have RB4a:=qAA.mk ((Below.heap_setCell _ ⟨pb,4,none⟩ (.slice A4 m m) rb (show rb ≠ pb by have:=HPR.out;omega)).trans RB4.out)
 have HS4a:=qAA.mk (HS4.out.set (a:=⟨pb,4,none⟩) HPB.out (.slice A4 m m))
 have fv3:=qAC BX4a.out 3
 have hc3:=(qAB BX4a.out 3).trans rfl
 refine hK.out _ _ ?_
 clear hK K
 refine pU 8 11 ?_
 refine qCD (i:=9) (N:=none) #[qT,qT,qT,qT,qT,qT,qT,qT,qT,qT] rfl rfl (by kernel_rfl) (by decide) (fun K hK => ?_)
 refine qCH (w1 := ?_) (by rfl) rfl ?_ ?_
 rotate_left
 ·go_simp
  rfl
 clear fv3 hc3
 refine hK.out _ _ ?_
 clear hK K
 refine qA6 (by kernel_rfl) ?_
 have BX5:=qAA.mk (qAx BX4a.out 3 (.slice A3 n n) rfl)
 have RB5:=qAA.mk ((Below.heap_setCell _ ⟨pb,3,none⟩ (.slice A3 n n) rb (show rb ≠ pb by have:=HPR.out;omega)).trans RB4a.out)
 have HS5:=qAA.mk (HS4a.out.set (a:=⟨pb,3,none⟩) HPB.out (.slice A3 n n))
 generalize (w4.setCell ⟨pb,4,none⟩ (.slice A4 m m)).setCell ⟨pb,3,none⟩ (.slice A3 n n)=w5 at *
 clear BX4a RB4a HS4a BX4 RB4 HS4
 have hz3:w5.cell? ⟨pb,3,none⟩=some (.slice A3 n n):=(qAB BX5.out 3).trans rfl
 go_wp2
 clear hz3
 go_loopw [15] (fun v15 wr=>∃ j:Nat,v15=.int .i64 (j:Int)∧qAA (j≤n)∧qAA (mb.SimT Y w wr)∧qAA (wr.heap[pb]?=some (.cells #[.int .i64 f0,.int .i64 f1,.string f2,.slice A3 n n,.slice A4 m m] 48 (0,0)))∧qAA (wr.heap[rb]?=some (.cells #[.int .i64 0,.int .i64 0,.string ⟨#[]⟩,.slice none 0 0,.slice none 0 0] 48 (0,0)))) (fun v15 _=>n - (intOf v15).toNat)
 case atStart=>exact ⟨0,rfl,⟨Nat.zero_le _⟩,HS5,BX5,RB5⟩
 case round =>
  clear HS5 BX5 RB5
  obtain ⟨j,rfl,HJ0,HS,HB,HRB⟩:=hrel
  by_cases hlt:j < n
  ·have i1:decide ((j:Int) < (n:Int))=true:=decide_eq_true (by omega)
   have i2:decide (j < n)=true:=decide_eq_true hlt
   have i3:(j < n)=True:=eq_true hlt
   have HWR:=qAA.mk (show wrap64 ((j:Int)+1)=(j:Int)+1 by have:=LM.out;unfold wrap64;omega)
   have HM:=qAA.mk (mb.meas j n hlt HWR.out)
   have HJ:=qAA.mk (show j+1≤n by omega)
   obtain ⟨b,cs,x,u3,u4,hA,hyb,hcs,hnc,hsz,hx,hgr,r3,r4⟩:=(mb.VRow.simT HS.out (d+1) HV.out).1.elem hlt HN.out
   obtain ⟨ad,had⟩:∃ ad,ad=(⟨b,0,none⟩:Addr):=⟨_,rfl⟩
   rw [← had] at hA
   subst hA
   have HAD:=qAA.mk had
   have HYB:=qAA.mk hyb
   have HCS:=qAA.mk hcs
   have HSZ:=qAA.mk (show j * 5+5≤cs.size by omega)
   have HGRP:=qAA.mk hgr
   have HF:=qAA.mk (mb.five.of hcs hgr had)
   have HR3:=qAA.mk r3
   have HR4:=qAA.mk r4
   have HO3:=qAA.mk (mb.qCV (by obtain ⟨A_,c_,e_,_⟩:=mb.VRow.C d r3;exact ⟨_,_,_,e_⟩))
   have HO4:=qAA.mk (mb.qCV (by obtain ⟨A_,c_,e_,_⟩:=r4.C;exact ⟨_,_,_,e_⟩))
   have HNY:=qAA.mk (show ¬ Y pb∧¬ Y rb from ⟨fun y=>by have:=HY.out pb y;have:=HPB.out;omega,fun y=>by have:=HY.out rb y;have:=HPB.out;have:=HPR.out;omega⟩)
   have t3:(j:Int) < (n:Int):=by omega
   clear had hyb hcs hnc hsz hgr r3 r4 hx
   go_wp2
   refine qAn (n:=11) (S:=fun w'=>w'.cell? ⟨pb,3,none⟩=some (.slice (some ad) n n)) (ds:=[10]) #[qF,qF,qF,qF,qF,qF,qF,qF,qF,qF,qF] (by kernel_rfl) rfl rfl ((qAB (qAJ HB.out) 3).trans rfl) (fun hHeld => ?_)
   generalize hwd:wr.drew=wd at hHeld ⊢
   have SD:=qAA.mk (hwd▸HS.out.trans (mb.SimT.of_below (qAM (Below.refl _ _))))
   have BD:=qAA.mk (hwd▸qAJ HB.out)
   have RD:=qAA.mk (hwd▸qAJ HRB.out)
   have CD:=qAA.mk (hwd▸qAJ HCS.out)
   have FD:=qAA.mk (hwd▸(show mb.five wr.drew (ad.add (j * 5)) (.int .i64 x.f0) (.int .i64 x.f1) (.string x.f2) u3 u4 from HF.out))
   have VD:=qAA.mk (hwd▸mb.VRow.move (w:=wr) (w1:=wr.drew) (fun _ h=>h) (fun _ _ _=>rfl) d HR3.out)
   have KD:=qAA.mk (hwd▸HR4.out.move (w1:=wr.drew) (fun _ h=>h) (fun _ _ _=>rfl))
   clear hwd
   refine pU 0 18 ?_
   refine pU 2 20 ?_
   refine pU 3 21 ?_
   refine pU 5 23 ?_
   refine tK 1 19 hHeld ?_
   refine tK 4 22 hHeld ?_
   refine pU 6 24 ?_
   refine one_ (i:=7) (N:=some 25) #[qT,qT,qT,qT,qT,qT,qT,qT,qF,qF,qF] rfl rfl (by kernel_rfl) (by decide) (fun K hK => ?_)
   obtain ⟨z0,z1,z2,z3,z4⟩:=FD.out
   refine qBO (w1 := ?_) (v := ?_) (by rfl) rfl ?_ ?_
   rotate_left 2
   ·go_simp
    constructor
    ·rfl
    ·rfl
   clear z0 z1 z2 z3 z4
   refine hK.out _ _ ((qAB BD.out 3).trans rfl) (fun hHeld => ?_)
   clear hK K
   refine qAi (a' := ?_) ?_ ?_
   rotate_left
   ·show Act.put _ (some 25) _=_
    simp only [Act.put,qs1,qs2,qs3,qAR,qAT]
    rfl
   refine one_ (i:=8) (N:=some 26) #[qT,qT,qT,qT,qT,qT,qT,qT,qT,qF,qF] rfl rfl (by kernel_rfl) (by decide) (fun K hK => ?_)
   refine qBJ Try.func90 (by kernel_rfl) rfl #[.agg #[.int .i64 x.f0,.int .i64 x.f1,.string x.f2,u3,u4]] (by rfl) rfl rfl (by (try simp only [List.map_toArray,List.map_cons,List.map_nil]);first | done | rfl) ?_
   refine (ih x u3 u4 _ (fun k hk=>Nat.lt_of_lt_of_le (HY.out k hk) SD.out.size) VD.out KD.out).mono ?_
   rintro e w7 ⟨rfl,hs⟩
   refine ⟨_,rfl, ?_⟩
   have HS7:=qAA.mk hs
   have BX7:=qAA.mk ((hs.out pb (qAX BD.out) HNY.out.1).trans BD.out)
   have RB7:=qAA.mk ((hs.out rb (qAX RD.out) HNY.out.2).trans RD.out)
   clear hs
   refine hK.out _ _ ((qAB BX7.out 3).trans rfl) (fun hHeld => ?_)
   clear hK K
   refine qAi (a' := ?_) ?_ ?_
   rotate_left
   ·show Act.put _ (some 26) _=_
    simp only [Act.put,qs1,qs2,qs3,qAR,qAT]
    rfl
   refine pU 9 27 ?_
   refine qCD (i:=10) (N:=none) #[qT,qT,qT,qT,qT,qT,qT,qT,qT,qT,qT] rfl rfl (by kernel_rfl) (by decide) (fun K hK => ?_)
   obtain ⟨cs7,k1,k2⟩:=HS7.out.block HYB.out CD.out
   refine mb.st25 48 (by rfl) rfl 27 (.tmp 26) rfl (by kernel_rfl) b (j * 5) ?haddr (.int .i64 x.f0) (.int .i64 x.f1) (.string x.f2) (mb.qCO u3) (mb.qCO u4) rfl ?hone cs7 48 ?hsz k1 ?_
   (case haddr=>show Value.pointer (some (ad.add (j * 5)))=_;rw [HAD.out,Addr.add_lit,Nat.zero_add])
   (case hone=>intro q hq;simp at hq;rcases hq with rfl | rfl | rfl | rfl | rfl <;> first | rfl | exact HO3.out.2 | exact HO4.out.2)
   (case hsz=>have:=HSZ.out;omega)
   intro w9 cs9 q1 q2 q3 q4 q5
   have HS9:=qAA.mk (mb.SimT.store HS7.out HYB.out CD.out HGRP.out q5 q1 (q2.trans k2) q3 (fun c7 h7 i_ hi_=>by rw [k1] at h7;injection h7 with h7;injection h7 with h7;subst h7;exact q4 i_ hi_))
   have BX9:=qAA.mk ((q5.block pb (qAX BX7.out) (fun e_=>HNY.out.1 (Option.some.inj e_▸HYB.out))).trans BX7.out)
   have RB9:=qAA.mk ((q5.block rb (qAX RB7.out) (fun e_=>HNY.out.2 (Option.some.inj e_▸HYB.out))).trans RB7.out)
   clear k1 k2 q1 q2 q3 q4 q5
   refine hK.out _ _ ?_
   clear hK K
   refine qA6 (by kernel_rfl) ?_
   go_wp2
   go_roundw
   case rel=>exact ⟨j+1,by rw [HWR.out];rfl,HJ,⟨SD.out.trans HS9.out⟩,BX9,RB9⟩
   case measure=>exact HM.out
  ·have i1:decide ((j:Int) < (n:Int))=false:=decide_eq_false (by omega)
   have i2:decide (j < n)=false:=decide_eq_false hlt
   have i3:(j < n)=False:=eq_false hlt
   have hz0:wr.cell? ⟨pb,0,none⟩=some (.int .i64 f0):=(qAB HB.out 0).trans rfl
   have hz1:wr.cell? ⟨pb,1,none⟩=some (.int .i64 f1):=(qAB HB.out 1).trans rfl
   have hz2:wr.cell? ⟨pb,2,none⟩=some (.string f2):=(qAB HB.out 2).trans rfl
   have hz3:wr.cell? ⟨pb,3,none⟩=some (.slice A3 n n):=(qAB HB.out 3).trans rfl
   have hz4:wr.cell? ⟨pb,4,none⟩=some (.slice A4 m m):=(qAB HB.out 4).trans rfl
   go_wp2_with (first | ((with_reducible refine qAh (p:=2) rfl ?_);refine mb.qBV rfl rfl 2 _ rfl rb rfl (.int .i64 f0) (.int .i64 f1) (.string f2) (.slice A3 n n) (.slice A4 m m) rfl (fun q hq=>by simp at hq;rcases hq with rfl | rfl | rfl | rfl | rfl <;> rfl) _ rfl HRB.out ?_;intro w9 hres hgr;have HRES:=qAA.mk hres;have HGR:=qAA.mk hgr;clear hgr hres))
   go_wp2
   refine bodyPost_ret (results_cell_row rfl _ _ rb 48 _ (0,0) _ rfl HRES.out Try.underlying48 rfl (by kernel_rfl)) rfl ?_
   exact ⟨rfl,HS.out.far HGR.out (by have:=HPB.out;have:=HPR.out;omega)⟩
end
end Go.Proofs.Ytmehfnikecmiiaa.X
namespace Go.Proofs.Ytmehfnikecmiiaa.X
open Go.RowKit Go.Proofs.YtmehfnikecmiiaaW.PrintWords Go.Proofs.YtmehfnikecmiiaaW.PrintLast Go.Proofs.YtmehfnikecmiiaaW.PrintMore Go.Proofs.YtmehfnikecmiiaaW
section
set_option maxHeartbeats 400000
set_option maxRecDepth 100000
theorem mb.ta_nil (w:World):(Instr.typeAssert .nilIface 20 109 true).run Try.prog w=.ok (.tuple #[.agg #[.int .i64 0,.int .i64 0],.bool false]) w:=by
 kernel_rfl
theorem mb.ta_flt (w:World) (e p:Int):(Instr.typeAssert (.iface 109 (.agg #[.int .i64 e,.int .i64 p])) 20 109 true).run Try.prog w=.ok (.tuple #[.agg #[.int .i64 e,.int .i64 p],.bool true]) w:=by
 kernel_rfl
section
variable {P:Program} {ops:Array Oper} {Q:Exit→Act→List Frame→World→Prop} {i:Nat} {rest:List Nat} {o:Oper} {a:Act} {cs:List Frame} {w w1:World}
theorem mb.opS_recN (ho:ops[i]?=some o) (hg:o.guard=none) (hrun:(execOp a.eval o).run P w=.ok .recover w1) (hr:recoverD cs=none) (h:wpOpsS P ops Q rest (a.put o.dst .nilIface) cs w1):wpOpsS P ops Q (i :: rest) a cs w:=by
 unfold wpOpsS
 rw [ho]
 dsimp only
 rw [if_pos (by simp [Region.wanted,hg]),hrun,hr]
 exact h
theorem mb.opS_recS {v:Value} {cs':List Frame} (ho:ops[i]?=some o) (hg:o.guard=none) (hrun:(execOp a.eval o).run P w=.ok .recover w1) (hr:recoverD cs=some (v,cs')) (h:wpOpsS P ops Q rest (a.put o.dst v) cs' w1):wpOpsS P ops Q (i :: rest) a cs w:=by
 unfold wpOpsS
 rw [ho]
 dsimp only
 rw [if_pos (by simp [Region.wanted,hg]),hrun,hr]
 exact h
end
section
variable {P:Program} {ops:Array Oper} {Q:Exit→Act→List Frame→World→Prop} {cs:List Frame}
theorem mb.S_of_list (hQ:¬ LetsOut (fun e a' w'=>Q e a' cs w')):∀ (l:List Oper) (k:Nat),(∀ j,l[j]?=ops[k+j]?)→∀ a w,wpList P ops (fun e a' w'=>Q e a' cs w') l a w→wpOpsS P ops Q (List.range' k l.length) a cs w
 | [],k,_,a,w,h=>h
 | o :: l,k,hj,a,w,h=>by
  have h0:ops[k]?=some o:=by simpa using (hj 0).symm
  have ih:=mb.S_of_list hQ l (k+1) (fun j=>by have:=hj (j+1);simpa [Nat.add_assoc,Nat.add_comm 1 j] using this)
  simp only [List.length_cons,List.range'_succ]
  unfold wpOpsS
  rw [h0]
  dsimp only
  unfold wpList at h
  by_cases hw:Region.wanted o (yielded ops a.tmps)=true
  ·rw [if_pos hw] at h ⊢
   have h1:=h.resolve_right (fun q=>hQ q.2)
   have h2:=Oper.wp_mono (fun a w=>ih a w) h1
   unfold Oper.wp at h2
   generalize (execOp a.eval o).run P w=r at h2 ⊢
   split
   ·exact h2.elim
   ·exact h2
  ·rw [if_neg hw] at h ⊢
   exact ih _ _ h
theorem mb.wpS_recN {id:Nat} {o:Oper} {rest:List Oper} {a:Act} {w:World} (hops:ops.toList=o :: rest) (hg:o.guard=none) (hrun:(execOp a.eval o).run P w=.ok .recover w) (hr:recoverD cs=none) (hQ:¬ LetsOut (fun e a' w'=>Q e a' cs w')) {a1:Act} (ha:a.put o.dst .nilIface=a1) (h:wpList P ops (fun e a' w'=>Q e a' cs w') rest a1 w):(Code.region id ops false).wpS P Q a cs w:=by
 subst ha
 apply wpS_region
 have hsz:ops.size=rest.length+1:=by rw [← Array.length_toList,hops];rfl
 have h0:ops[0]?=some o:=by rw [← Array.getElem?_toList,hops];rfl
 rw [hsz,List.range_eq_range',List.range'_succ]
 refine mb.opS_recN h0 hg hrun hr (mb.S_of_list hQ rest 1 (fun j => ?_) _ _ h)
 rw [← Array.getElem?_toList,hops,Nat.add_comm]
 rfl
theorem mb.wpS_recS {id:Nat} {o:Oper} {rest:List Oper} {a:Act} {w:World} {v:Value} {cs':List Frame} (hops:ops.toList=o :: rest) (hg:o.guard=none) (hrun:(execOp a.eval o).run P w=.ok .recover w) (hr:recoverD cs=some (v,cs')) (hQ:¬ LetsOut (fun e a' w'=>Q e a' cs' w')) {a1:Act} (ha:a.put o.dst v=a1) (h:wpList P ops (fun e a' w'=>Q e a' cs' w') rest a1 w):(Code.region id ops false).wpS P Q a cs w:=by
 subst ha
 apply wpS_region
 have hsz:ops.size=rest.length+1:=by rw [← Array.length_toList,hops];rfl
 have h0:ops[0]?=some o:=by rw [← Array.getElem?_toList,hops];rfl
 rw [hsz,List.range_eq_range',List.range'_succ]
 refine mb.opS_recS h0 hg hrun hr (mb.S_of_list hQ rest 1 (fun j => ?_) _ _ h)
 rw [← Array.getElem?_toList,hops,Nat.add_comm]
 rfl
end
def mb.But3 (w w':World) (bv bn be n:Nat):Prop:=w'.os=w.os∧w'.tape=w.tape∧w'.output=w.output∧w.heap.size≤w'.heap.size∧∀ k,k < n→k ≠ bv→k ≠ bn→k ≠ be→w'.heap[k]?=w.heap[k]?
theorem mb.catch_idle (bv bn be:Nat) (w:World) :
  CallsD Try.prog 88 #[.pointer (some ⟨bv,0,none⟩),.pointer (some ⟨bn,0,none⟩),.pointer (some ⟨be,0,none⟩)] .returning w fun en u' w'=>en=.returned (.tuple #[])∧u'=.returning∧Below w.heap.size w w':=by
 refine callsD_of_wpS Try.func88 rfl fun c₀ cs hu => ?_
 have hta:=mb.ta_nil w
 refine wpS_seq ?_
 refine mb.wpS_recN rfl rfl rfl (by simp [recoverD,hu]) ?_ (a1:={ tmps:=#[.pointer (some ⟨bv,0,none⟩),.pointer (some ⟨bn,0,none⟩),.pointer (some ⟨be,0,none⟩),undef,undef,undef,.nilIface,undef,undef,undef,undef,undef,undef,undef,undef,undef],defers:=[] }) rfl ?_
 ·rintro ⟨a,w,h⟩
  obtain ⟨u',he,_⟩:=h
  cases he
 go_wp2
 refine wpS_of_wp ?_
 go_wp2
 refine ⟨rfl,_, ?_,_,by simp [results,Try.results37],rfl,rfl, ?_⟩
 ·cases c₀
  cases hu
  rfl
 ·exact (Below.refl _ _).alloc (Nat.le_refl _) _
theorem mb.catch_bad (bv bn be:Nat) (e p x y:Int) (cv:Array Value) (hsz:0+5≤cv.size) (w:World) (hv:w.heap[bv]?=some (.cells cv 48 (0,0))) (hn:w.heap[bn]?=some (.cells #[.int .i64 x] 3 (0,0))) (he:w.heap[be]?=some (.cells #[.int .i64 y] 30 (0,0))) (hvn:bv ≠ bn) (hve:bv ≠ be) (hne:bn ≠ be) :
  CallsD Try.prog 88 #[.pointer (some ⟨bv,0,none⟩),.pointer (some ⟨bn,0,none⟩),.pointer (some ⟨be,0,none⟩)] (.panicking [{ v:=.iface 109 (.agg #[.int .i64 e,.int .i64 p]),recovered:=false }]) w fun en u' w'=>en=.returned (.tuple #[])∧u'=.panicking [{ v:=.iface 109 (.agg #[.int .i64 e,.int .i64 p]),recovered:=true }] ∧
   (∃ cv',w'.heap[bv]?=some (.cells cv' 48 (0,0))∧cv'.size=cv.size∧mb.grp cv' 0 (.int .i64 0) (.int .i64 0) (.string ⟨#[]⟩) (.slice none 0 0) (.slice none 0 0))∧w'.heap[bn]?=some (.cells #[.int .i64 p] 3 (0,0))∧w'.heap[be]?=some (.cells #[.int .i64 e] 30 (0,0))∧mb.But3 w w' bv bn be w.heap.size:=by
 have HV:=qAA.mk hv
 have HN:=qAA.mk hn
 have HE:=qAA.mk he
 have HD:=qAA.mk (And.intro hvn (And.intro hve hne))
 have hta:=mb.ta_flt w e p
 clear hv hn he hvn hve hne
 refine callsD_of_wpS Try.func88 rfl fun c₀ cs hu => ?_
 refine wpS_seq ?_
 refine mb.wpS_recS (v:=.iface 109 (.agg #[.int .i64 e,.int .i64 p])) (cs':={ c₀ with mode:=.panicking [{ v:=.iface 109 (.agg #[.int .i64 e,.int .i64 p]),recovered:=true }] } :: cs) rfl rfl rfl (by simp [recoverD,hu]) ?_ (a1:={ tmps:=#[.pointer (some ⟨bv,0,none⟩),.pointer (some ⟨bn,0,none⟩),.pointer (some ⟨be,0,none⟩),undef,undef,undef,.iface 109 (.agg #[.int .i64 e,.int .i64 p]),undef,undef,undef,undef,undef,undef,undef,undef,undef],defers:=[] }) rfl ?_
 ·rintro ⟨a,w,h⟩
  obtain ⟨u',he,_⟩:=h
  cases he
 go_wp2
 refine wpS_of_wp ?_
 go_wp2
 obtain ⟨w1,hw1⟩:∃ w1,w.alloc (.cells #[.int .i64 e,.int .i64 p] 109)=w1:=⟨_,rfl⟩
 have F1:=qAA.mk (show w1.heap[w.heap.size]?=some (.cells #[.int .i64 e,.int .i64 p] 109 (0,0)) by rw [← hw1];simpa using heap_alloc_new w _)
 have V1:=qAA.mk (hw1▸qAK HV.out (.cells #[.int .i64 e,.int .i64 p] 109))
 have N1:=qAA.mk (hw1▸qAK HN.out (.cells #[.int .i64 e,.int .i64 p] 109))
 have E1:=qAA.mk (hw1▸qAK HE.out (.cells #[.int .i64 e,.int .i64 p] 109))
 have HB1:=qAA.mk (show Below w.heap.size w w1 from hw1▸(Below.refl _ _).alloc (Nat.le_refl _) _)
 have HSZ:=qAA.mk hsz
 have HLT:=qAA.mk (And.intro (qAX HV.out) (And.intro (qAX HN.out) (qAX HE.out)))
 rw [hw1]
 clear hw1 hsz hta
 generalize hfb:w.heap.size=fb at *
 have HFB:=qAA.mk hfb
 clear hfb
 refine qAn (n:=8) (S:=fun w'=>w'.cell? ⟨fb,1,none⟩=some (.int .i64 p)∧w'.cell? ⟨fb,0,none⟩=some (.int .i64 e)) (ds:=[]) #[qF,qF,qF,qF,qF,qF,qF,qF] (by kernel_rfl) rfl rfl ⟨(qAB (qAJ F1.out) 1).trans rfl,(qAB (qAJ F1.out) 0).trans rfl⟩ (fun hHeld => ?_)
 generalize hwd:w1.drew=wd at hHeld ⊢
 have Fd:=qAA.mk (hwd▸qAJ F1.out)
 have Vd:=qAA.mk (hwd▸qAJ V1.out)
 have Nd:=qAA.mk (hwd▸qAJ N1.out)
 have Ed:=qAA.mk (hwd▸qAJ E1.out)
 have HBd:=qAA.mk (hwd▸qAM HB1.out)
 clear hwd
 refine pU 0 11 ?_
 refine pU 1 12 ?_
 refine pU 3 14 ?_
 refine tK 2 13 hHeld ?_
 refine tK 4 15 hHeld ?_
 refine one_ (i:=5) (N:=none) #[qT,qT,qT,qT,qT,qT,qF,qF] rfl rfl (by kernel_rfl) (by decide) (fun K hK => ?_)
 refine mb.st25 48 (by rfl) rfl 0 (.tmp 11) rfl (by kernel_rfl) bv 0 rfl (.int .i64 0) (.int .i64 0) (.string ⟨#[]⟩) (.slice none 0 0) (.slice none 0 0) rfl ?hone cv 48 HSZ.out Vd.out ?_
 (case hone=>intro q hq;simp at hq;rcases hq with rfl | rfl | rfl | rfl | rfl <;> rfl)
 intro w2 cv' q1 q2 q3 q4 q5
 have V2:=qAA.mk q1
 have SZ2:=qAA.mk q2
 have G2:=qAA.mk q3
 have N2:=qAA.mk ((q5.block bn (qAX Nd.out) (fun e_=>HD.out.1 (Option.some.inj e_).symm)).trans Nd.out)
 have E2:=qAA.mk ((q5.block be (qAX Ed.out) (fun e_=>HD.out.2.1 (Option.some.inj e_).symm)).trans Ed.out)
 have F2:=qAA.mk ((q5.block fb (qAX Fd.out) (fun e_=>by have:=Option.some.inj e_;have:=HLT.out.1;omega)).trans Fd.out)
 have FO2:=qAA.mk (show mb.But3 w w2 bv bn be fb from ⟨q5.os.trans HBd.out.os,q5.tape.trans HBd.out.tape,q5.output.trans HBd.out.output,Nat.le_trans HBd.out.size q5.size,fun k hk n1 n2 n3=>(q5.block k (Nat.lt_trans hk (qAX Fd.out)) (fun e_=>n1 (Option.some.inj e_))).trans (HBd.out.block k hk)⟩)
 clear q1 q2 q3 q4 q5
 have hcn:=(qAB N2.out 0).trans rfl
 have fvn:=qAC N2.out 0
 refine hK.out _ _ ⟨(qAB F2.out 1).trans rfl,(qAB F2.out 0).trans rfl⟩ (fun hHeld => ?_)
 clear hK K
 refine one_ (i:=6) (N:=none) #[qT,qT,qT,qT,qT,qT,qT,qF] rfl rfl (by kernel_rfl) (by decide) (fun K hK => ?_)
 refine qCH (w1 := ?_) (by rfl) rfl ?_ ?_
 rotate_left
 ·go_simp
  rfl
 clear hcn fvn
 have N3:=qAA.mk (qAx N2.out 0 (.int .i64 p) rfl)
 have V3:=qAA.mk ((Below.heap_setCell _ ⟨bn,0,none⟩ (.int .i64 p) bv (show bv ≠ bn from HD.out.1)).trans V2.out)
 have E3:=qAA.mk ((Below.heap_setCell _ ⟨bn,0,none⟩ (.int .i64 p) be (show be ≠ bn from fun e_=>HD.out.2.2 e_.symm)).trans E2.out)
 have F3:=qAA.mk ((Below.heap_setCell _ ⟨bn,0,none⟩ (.int .i64 p) fb (show fb ≠ bn by have:=HLT.out.2.1;omega)).trans F2.out)
 have FO3:=qAA.mk (show mb.But3 w (w2.setCell ⟨bn,0,none⟩ (.int .i64 p)) bv bn be fb from ⟨FO2.out.1,FO2.out.2.1,FO2.out.2.2.1,by rw [Deep.nblk_setCell];exact FO2.out.2.2.2.1,fun k hk n1 n2 n3=>(Below.heap_setCell _ ⟨bn,0,none⟩ (.int .i64 p) k n2).trans (FO2.out.2.2.2.2 k hk n1 n2 n3)⟩)
 have hce:=(qAB E3.out 0).trans rfl
 have fve:=qAC E3.out 0
 refine hK.out _ _ ⟨(qAB F3.out 1).trans rfl,(qAB F3.out 0).trans rfl⟩ (fun hHeld => ?_)
 clear hK K
 refine one_ (i:=7) (N:=none) #[qT,qT,qT,qT,qT,qT,qT,qT] rfl rfl (by kernel_rfl) (by decide) (fun K hK => ?_)
 refine qCH (w1 := ?_) (by rfl) rfl ?_ ?_
 rotate_left
 ·go_simp
  rfl
 clear hce fve
 have E4:=qAA.mk (qAx E3.out 0 (.int .i64 e) rfl)
 have V4:=qAA.mk ((Below.heap_setCell _ ⟨be,0,none⟩ (.int .i64 e) bv (show bv ≠ be from HD.out.2.1)).trans V3.out)
 have N4:=qAA.mk ((Below.heap_setCell _ ⟨be,0,none⟩ (.int .i64 e) bn (show bn ≠ be from HD.out.2.2)).trans N3.out)
 have F4:=qAA.mk ((Below.heap_setCell _ ⟨be,0,none⟩ (.int .i64 e) fb (show fb ≠ be by have:=HLT.out.2.2;omega)).trans F3.out)
 have FO4:=qAA.mk (show mb.But3 w ((w2.setCell ⟨bn,0,none⟩ (.int .i64 p)).setCell ⟨be,0,none⟩ (.int .i64 e)) bv bn be fb from ⟨FO3.out.1,FO3.out.2.1,FO3.out.2.2.1,by rw [Deep.nblk_setCell];exact FO3.out.2.2.2.1,fun k hk n1 n2 n3=>(Below.heap_setCell _ ⟨be,0,none⟩ (.int .i64 e) k n3).trans (FO3.out.2.2.2.2 k hk n1 n2 n3)⟩)
 refine hK.out _ _ ⟨(qAB F4.out 1).trans rfl,(qAB F4.out 0).trans rfl⟩ (fun hHeld => ?_)
 clear hK K
 refine qA6 (by kernel_rfl) ?_
 go_wp2
 refine ⟨rfl,_, ?_,_,by simp [results,Try.results37],rfl,rfl,⟨cv',V4.out,SZ2.out,G2.out⟩,N4.out,E4.out,by rw [HFB.out];exact FO4.out⟩
 ·cases c₀
  cases hu
  rfl
end
end Go.Proofs.Ytmehfnikecmiiaa.X
namespace Go.Proofs.Ytmehfnikecmiiaa.X
open Go.RowKit Go.Proofs.YtmehfnikecmiiaaW.PrintWords Go.Proofs.YtmehfnikecmiiaaW.PrintLast Go.Proofs.YtmehfnikecmiiaaW.PrintMore Go.Proofs.YtmehfnikecmiiaaW
section
set_option maxHeartbeats 4000000
set_option maxRecDepth 100000
theorem mb.arrL_all {p:S48→Prop} {f:Int→Int→mb.R3 S48} (hf:∀ (a l:Int) (x:S48) (a2 l2:Int),f a l=.ok x a2 l2→p x):∀ (k:Nat) (acc:List S48) (a l:Int) (vs:List S48) (a2 l2:Int),(∀ y ∈ acc,p y)→mb.arrL f k acc a l=.ok vs a2 l2→∀ y ∈ vs,p y
 | 0,acc,a,l,vs,a2,l2,hb,h=>by
  unfold mb.arrL at h
  injection h with e1 _ _
  subst e1;exact hb
 | k+1,acc,a,l,vs,a2,l2,hb,h=>by
  unfold mb.arrL at h
  rcases hfa:f a l with ⟨x,a1,l1⟩ | ⟨e,q⟩
  ·rw [hfa] at h
   refine mb.arrL_all hf k _ a1 l1 vs a2 l2 (fun y hy => ?_) h
   rcases List.mem_append.1 hy with hy | hy
   ·exact hb y hy
   ·rw [List.mem_singleton.1 hy];exact hf a l x a1 l1 hfa
  ·rw [hfa] at h;cases h
theorem mb.recL_all {p:S48→Prop} {bs:List Int} {u:Int→Int × Int × Int} {f:Int→Int→mb.R3 S48} (hf:∀ (a l:Int) (x:S48) (a2 l2:Int),f a l=.ok x a2 l2→p x):∀ (k:Nat) (ks:List ByteArray) (acc:List S48) (a l:Int) (vs:List ByteArray × List S48) (a2 l2:Int),(∀ y ∈ acc,p y)→mb.recL bs u f k ks acc a l=.ok vs a2 l2→∀ y ∈ vs.2,p y
 | 0,ks,acc,a,l,vs,a2,l2,hb,h=>by
  unfold mb.recL at h
  injection h with e1 _ _
  subst e1;exact hb
 | k+1,ks,acc,a,l,vs,a2,l2,hb,h=>by
  unfold mb.recL at h
  rcases hka:mb.keyS bs u ks a l with ⟨kk,a1,l1⟩ | ⟨e,q⟩
  ·rw [hka] at h
   dsimp only at h
   rcases hfa:f a1 l1 with ⟨x,a3,l3⟩ | ⟨e,q⟩
   ·rw [hfa] at h
    refine mb.recL_all hf k _ _ a3 l3 vs a2 l2 (fun y hy => ?_) h
    rcases List.mem_append.1 hy with hy | hy
    ·exact hb y hy
    ·rw [List.mem_singleton.1 hy];exact hf a1 l1 x a3 l3 hfa
   ·rw [hfa] at h;cases h
  ·rw [hka] at h;cases h
theorem mb.valS_deep {bs:List Int} {u i:Int→Int × Int × Int}:∀ (d:Nat) (a l:Int) (x:S48) (a2 l2:Int),mb.valS bs u i d a l=.ok x a2 l2→mb.deepL d x.f3
 | 0,a,l,x,a2,l2,h=>by
  rw [mb.valS] at h
  split at h <;> cases h
 | d+1,a,l,x,a2,l2,h=>by
  rw [mb.valS_s] at h
  have leaf:∀ {y:S48} {b m:Int},y.f3=[]→mb.R3.ok y b m=.ok x a2 l2→mb.deepL (d+1) x.f3:=fun e h=>by
   injection h with e1 _ _
   subst e1
   rw [e]
   exact mb.deepL_nil d
  have nb:∀ {e q:Int},mb.R3.bad e q=.ok x a2 l2→mb.deepL (d+1) x.f3:=fun h=>by cases h
  by_cases h0:a=(bs.length:Int) ∨ rd bs a > 6
  ·rw [if_pos h0] at h;exact nb h
  rw [if_neg h0] at h
  by_cases h1:1 > l
  ·rw [if_pos h1] at h;exact nb h
  rw [if_neg h1] at h
  by_cases k1:rd bs a=1
  ·rw [if_pos k1] at h;exact leaf rfl h
  rw [if_neg k1] at h
  by_cases k2:rd bs a=2
  ·rw [if_pos k2] at h;exact leaf rfl h
  rw [if_neg k2] at h
  by_cases k3:rd bs a=3
  ·rw [if_pos k3] at h
   by_cases e1:(i (a+1)).2.2 ≠ 0
   ·rw [if_pos e1] at h;exact nb h
   ·rw [if_neg e1] at h;exact leaf rfl h
  rw [if_neg k3] at h
  by_cases k4:rd bs a=4
  ·rw [if_pos k4] at h
   by_cases e1:(u (a+1)).2.2 ≠ 0
   ·rw [if_pos e1] at h;exact nb h
   rw [if_neg e1] at h
   by_cases e2:(l - 1) / 1 < (u (a+1)).1
   ·rw [if_pos e2] at h;exact nb h
   rw [if_neg e2] at h
   by_cases e3:(bs.length:Int) - (u (a+1)).2.1 < (u (a+1)).1
   ·rw [if_pos e3] at h;exact nb h
   ·rw [if_neg e3] at h;exact leaf rfl h
  rw [if_neg k4] at h
  by_cases k5:rd bs a=5
  ·rw [if_pos k5] at h
   by_cases e1:(u (a+1)).2.2 ≠ 0
   ·rw [if_pos e1] at h;exact nb h
   rw [if_neg e1] at h
   by_cases e2:(l - 1) / 1 < (u (a+1)).1
   ·rw [if_pos e2] at h;exact nb h
   rw [if_neg e2] at h
   rcases hL:mb.arrL (mb.valS bs u i d) (u (a+1)).1.toNat [] (u (a+1)).2.1 (l - 1) with ⟨vs,a3,l3⟩ | ⟨e,p⟩
   ·rw [hL] at h
    have hp:=mb.arrL_all (p:=fun y=>mb.deepL d y.f3) (mb.valS_deep d) _ _ _ _ _ _ _ (fun y hy=>by cases hy) hL
    injection h with e1 _ _
    subst e1
    exact hp
   ·rw [hL] at h;exact nb h
  rw [if_neg k5] at h
  by_cases k6:rd bs a=6
  ·rw [if_pos k6] at h
   by_cases e1:(u (a+1)).2.2 ≠ 0
   ·rw [if_pos e1] at h;exact nb h
   rw [if_neg e1] at h
   by_cases e2:(l - 1) / 2 < (u (a+1)).1
   ·rw [if_pos e2] at h;exact nb h
   rw [if_neg e2] at h
   rcases hL:mb.recL bs u (mb.valS bs u i d) (u (a+1)).1.toNat [] [] (u (a+1)).2.1 (l - 1) with ⟨⟨ks,vs⟩,a3,l3⟩ | ⟨e,p⟩
   ·rw [hL] at h
    have hp:=mb.recL_all (p:=fun y=>mb.deepL d y.f3) (mb.valS_deep d) _ _ _ _ _ _ _ _ (fun y hy=>by cases hy) hL
    injection h with e1 _ _
    subst e1
    exact hp
   ·rw [hL] at h;exact nb h
  rw [if_neg k6] at h
  exact leaf rfl h
def mb.takeS (bs:List Int) (u i:Int→Int × Int × Int) (at_:Int):mb.R3 S48:=if at_ < 0 ∨ at_ > (bs.length:Int) then .bad 41 0 else mb.valS bs u i 8 at_ 2048
def mb.GotT (r:mb.R3 S48) (w:World) (e:Ending) (w':World):Prop :=
 match r with
 | .ok x a' _=>∃ v3 v4:Value,e=.returned (.tuple #[.agg #[.int .i64 x.f0,.int .i64 x.f1,.string x.f2,v3,v4],.int .i64 a',.int .i64 0])∧mb.VRow w' (fun k=>w.heap.size≤k∧k < w'.heap.size) 8 v3 x.f3∧mb.KRow w' (fun k=>w.heap.size≤k∧k < w'.heap.size) v4 x.f4∧Below w.heap.size w w'
 | .bad f p=>e=.returned (.tuple #[.agg #[.int .i64 0,.int .i64 0,.string ⟨#[]⟩,.slice none 0 0,.slice none 0 0],.int .i64 p,.int .i64 f])∧Below w.heap.size w w'
theorem mb.res22 {tmps:Array Value} {w:World} {bv bn be:Nat} (hp4:tmps[4]?=some (.pointer (some ⟨bv,0,none⟩))) (hp5:tmps[5]?=some (.pointer (some ⟨bn,0,none⟩))) (hp6:tmps[6]?=some (.pointer (some ⟨be,0,none⟩))) {v0 v1 v2 v3 v4:Value} {x y:Int} (hv:w.heap[bv]?=some (.cells #[v0,v1,v2,v3,v4] 48 (0,0))) (hn:w.heap[bn]?=some (.cells #[.int .i64 x] 3 (0,0))) (he:w.heap[be]?=some (.cells #[.int .i64 y] 30 (0,0))) :
  (results Try.f75 tmps).run Try.prog w=.ok (.tuple #[.agg #[v0,v1,v2,v3,v4],.int .i64 x,.int .i64 y]) w:=by
 have z0:w.cell? ⟨bv,0,none⟩=some v0:=(qAB hv 0).trans rfl
 have z1:w.cell? ⟨bv,1,none⟩=some v1:=(qAB hv 1).trans rfl
 have z2:w.cell? ⟨bv,2,none⟩=some v2:=(qAB hv 2).trans rfl
 have z3:w.cell? ⟨bv,3,none⟩=some v3:=(qAB hv 3).trans rfl
 have z4:w.cell? ⟨bv,4,none⟩=some v4:=(qAB hv 4).trans rfl
 have c1:w.cell? ⟨bn,0,none⟩=some (.int .i64 x):=(qAB hn 0).trans rfl
 have c2:w.cell? ⟨be,0,none⟩=some (.int .i64 y):=(qAB he 0).trans rfl
 simp [results,Try.results22,hp4,hp5,hp6,asAddr,z0,z1,z2,z3,z4,c1,c2,go_sem]
theorem mb.grp_eq {cv:Array Value} {v0 v1 v2 v3 v4:Value} (hs:cv.size=5) (h:mb.grp cv 0 v0 v1 v2 v3 v4):cv=#[v0,v1,v2,v3,v4]:=by
 obtain ⟨h0,h1,h2,h3,h4⟩:=h
 apply Array.ext (by simp [hs])
 intro i hi hj
 have hi5:i < 5:=by omega
 have key:cv[i]?=#[v0,v1,v2,v3,v4][i]?:=by
  match i,hi5 with
  | 0,_=>exact h0
  | 1,_=>exact h1
  | 2,_=>exact h2
  | 3,_=>exact h3
  | 4,_=>exact h4
 rw [Array.getElem?_eq_getElem hi,Array.getElem?_eq_getElem hj] at key
 exact Option.some.inj key
theorem mb.three_new (w:World) (A B C:Obj):(((w.alloc A).alloc B).alloc C).heap[w.heap.size]?=some A∧(((w.alloc A).alloc B).alloc C).heap[w.heap.size+1]?=some B∧(((w.alloc A).alloc B).alloc C).heap[w.heap.size+1+1]?=some C∧(((w.alloc A).alloc B).alloc C).heap.size=w.heap.size+1+1+1∧Below w.heap.size w (((w.alloc A).alloc B).alloc C):=by
 have s1:=Deep.nblk_alloc w A
 have s2:=Deep.nblk_alloc (w.alloc A) B
 have s3:=Deep.nblk_alloc ((w.alloc A).alloc B) C
 have e1:=heap_alloc_new w A
 have e2:=heap_alloc_new (w.alloc A) B
 have e3:=heap_alloc_new ((w.alloc A).alloc B) C
 refine ⟨?_, ?_, ?_,by omega,(((Below.refl _ _).alloc (Nat.le_refl _) _).alloc (by omega) _).alloc (by omega) _⟩
 ·rw [Deep.blk_alloc_lt _ _ _ (by omega),Deep.blk_alloc_lt _ _ _ (by omega)];exact e1
 ·rw [Deep.blk_alloc_lt _ _ _ (by omega),← s1];exact e2
 ·rw [← s1,← s2];exact e3
theorem mb.takeA {bs:List Int} {w:World} {A:Option Addr} {c:Nat} {at_:Int} (h:at_ < 0 ∨ at_ > (bs.length:Int)):Calls Try.prog 75 #[.slice A bs.length c,.int .i64 at_] w (mb.GotT (.bad 41 0) w):=by
 obtain ⟨m,hm⟩:∃ m,bs.length=m:=⟨_,rfl⟩
 rw [hm] at h ⊢
 have fin:∀ (tmps:Array Value),tmps[4]?=some (.pointer (some ⟨w.heap.size,0,none⟩))→tmps[5]?=some (.pointer (some ⟨w.heap.size+1,0,none⟩))→tmps[6]?=some (.pointer (some ⟨w.heap.size+1+1,0,none⟩))→∃ v,(results Try.f75 tmps).run Try.prog (((w.alloc (.cells #[.int .i64 0,.int .i64 0,.string ⟨#[]⟩,.slice none 0 0,.slice none 0 0] 48)).alloc (.cells #[.int .i64 0] 3)).alloc (.cells #[.int .i64 41] 30))=.ok v (((w.alloc (.cells #[.int .i64 0,.int .i64 0,.string ⟨#[]⟩,.slice none 0 0,.slice none 0 0] 48)).alloc (.cells #[.int .i64 0] 3)).alloc (.cells #[.int .i64 41] 30))∧mb.GotT (.bad 41 0) w (.returned v) (((w.alloc (.cells #[.int .i64 0,.int .i64 0,.string ⟨#[]⟩,.slice none 0 0,.slice none 0 0] 48)).alloc (.cells #[.int .i64 0] 3)).alloc (.cells #[.int .i64 41] 30)):=fun tmps q4 q5 q6=>by
  obtain ⟨hv,hn,he,_,hb⟩:=mb.three_new w (.cells #[.int .i64 0,.int .i64 0,.string ⟨#[]⟩,.slice none 0 0,.slice none 0 0] 48) (.cells #[.int .i64 0] 3) (.cells #[.int .i64 41] 30)
  exact ⟨_,mb.res22 q4 q5 q6 hv hn he,rfl,hb⟩
 have FIN:=qAA.mk fin
 clear fin
 by_cases h1:at_ < 0
 ·have d1:decide (at_ < 0)=true:=decide_eq_true h1
  clear h
  go_enter_defers Try.func75,Try.ntmps75
  go_wp2
  exact FIN.out _ rfl rfl rfl
 ·have d1:decide (at_ < 0)=false:=decide_eq_false h1
  have h2:at_ > (m:Int):=h.resolve_left h1
  have d2:decide (at_ > (m:Int))=true:=decide_eq_true h2
  have d3:decide ((m:Int) < at_)=true:=decide_eq_true h2
  clear h h1
  go_enter_defers Try.func75,Try.ntmps75
  go_wp2
  exact FIN.out _ rfl rfl rfl
theorem mb.takeC {bs:List Int} {u i:Int→Int × Int × Int} (hU:mb.Uin bs u i) {w:World} {A:Option Addr} {c:Nat} {at_:Int} (hC:(Kd.int .u8).C w A bs.length bs) (hc:bs.length≤c) (h0:0≤at_) (h1:at_≤(bs.length:Int)) {ee pp:Int} (hr:mb.valS bs u i 8 at_ 2048=.bad ee pp) :
  Calls Try.prog 75 #[.slice A bs.length c,.int .i64 at_] w (mb.GotT (.bad ee pp) w):=by
 have hmf:∀ (fn:Fn) (first cap:Array Value) (w:World),(Instr.makeFunc fn first cap).run Try.prog w=.ok (.func fn first cap) w:=fun _ _ _ _=>rfl
 have d1:decide (at_ < 0)=false:=decide_eq_false (by omega)
 have d2:decide (at_ > (bs.length:Int))=false:=decide_eq_false (by omega)
 have d3:decide ((bs.length:Int) < at_)=false:=decide_eq_false (by omega)
 have HU:=qAA.mk hU
 have HC:=qAA.mk hC
 have HCC:=qAA.mk hc
 have H0:=qAA.mk h0
 have H1:=qAA.mk h1
 have HR:=qAA.mk hr
 have HT:=qAA.mk (mb.three_new w (.cells #[.int .i64 0,.int .i64 0,.string ⟨#[]⟩,.slice none 0 0,.slice none 0 0] 48) (.cells #[.int .i64 0] 3) (.cells #[.int .i64 0] 30))
 clear hU hC hc h0 h1 hr
 go_enter_defers Try.func75,Try.ntmps75
 go_wp2_with (first | ((with_reducible refine qAr (N:=21) rfl ?_);refine qAk ?hg (N:=21) ?hd (cs:=#[.slice A bs.length c,.int .i64 at_,.int .i64 2048]) (t:=113) ?hr ?_;(case hd=>rfl);(case hg=>rfl);(case hr=>first | (go_simp;done) | (go_simp;rfl));intro g hg w2 hbox hb1;have HB2:=qAA.mk (qAU HT.out.2.2.2.2 HT.out.2.2.2.2.size hb1);have V2:=qAA.mk (qAL HT.out.1 hb1);have N2:=qAA.mk (qAL HT.out.2.1 hb1);have E2:=qAA.mk (qAL HT.out.2.2.1 hb1);have G2:=qAA.mk hbox;have HG:=qAA.mk (hg.trans HT.out.2.2.2.1);clear hbox hb1 hg) | (go_at_call 89;refine (mb.value1 HU.out (by have:=HG.out;omega) HCC.out 8 (by omega) 0 rfl w2 at_ 2048 HB2.out G2.out (Kd.qAS HC.out HB2.out) H0.out H1.out (by omega) (by omega)).mono ?_;rw [HR.out];rintro e_ w3 ⟨rfl,hx⟩;have V3:=qAA.mk ((hx.fr.2 _ (qAX V2.out) (by have:=HG.out;omega)).trans V2.out);have N3:=qAA.mk ((hx.fr.2 _ (qAX N2.out) (by have:=HG.out;omega)).trans N2.out);have E3:=qAA.mk ((hx.fr.2 _ (qAX E2.out) (by have:=HG.out;omega)).trans E2.out);have HB3:=qAA.mk hx.bel;clear hx;unfold mb.flt))
 refine leaves_cons (f:=88) (args:=#[.pointer (some ⟨w.heap.size,0,none⟩),.pointer (some ⟨w.heap.size+1,0,none⟩),.pointer (some ⟨w.heap.size+1+1,0,none⟩)]) (by simp) (by simp [go_sem]) ?_
 refine (mb.catch_bad _ _ _ ee pp _ _ _ (by decide) w3 V3.out N3.out E3.out (by omega) (by omega) (by omega)).mono ?_
 rintro e u' w4 ⟨rfl,rfl,⟨cv,hv,hsz,hg⟩,hn,he,hb⟩
 have hcv:=mb.grp_eq hsz hg
 subst hcv
 have hs:settle (.panicking [{ v:=.iface 109 (.agg #[.int .i64 ee,.int .i64 pp]),recovered:=true }])=.returning:=rfl
 show Leaves Try.prog Try.f75 _ _ [] (settle _) _
 rw [hs]
 refine ⟨_,mb.res22 rfl rfl rfl hv hn he,rfl, ?_⟩
 exact ⟨hb.1.trans HB3.out.os,hb.2.1.trans HB3.out.tape,hb.2.2.1.trans HB3.out.output,Nat.le_trans HB3.out.size hb.2.2.2.1,fun k hk=>(hb.2.2.2.2 k (Nat.lt_of_lt_of_le hk HB3.out.size) (by omega) (by omega) (by omega)).trans (HB3.out.block k hk)⟩
theorem mb.leaves_congr {P:Program} {fn:Func} {t1 t2:Array Value} {R:Ending→World→Prop} (he:results fn t1=results fn t2):∀ (ds:List Deferred) {u:FrameMode} {w:World},Leaves P fn t1 R ds u w→Leaves P fn t2 R ds u w
 | [],.returning,w,h=>by
  obtain ⟨v,h1,h2⟩:=h
  exact ⟨v,he▸h1,h2⟩
 | [],.panicking _,w,h=>h
 | [],.run,_,h=>h
 | d :: ds,u,w,h=>by
  obtain ⟨h1,fv,cap,f,args,h2,h3,h4⟩:=h
  refine ⟨h1,fv,cap,f,args,h2,h3,h4.mono fun e u' w' hh => ?_⟩
  cases e with
  | returned v=>exact mb.leaves_congr he ds hh
  | panicked ch=>exact mb.leaves_congr he ds hh
  | outgrown=>exact hh
theorem mb.leaves22 {P:Program} {N:Tmp} (hN:N ≠ 4∧N ≠ 5∧N ≠ 6) {a:Act} {v:Value} {R:Ending→World→Prop} {u:FrameMode} {w:World} (h:Leaves P Try.f75 (a.put (some N) v).tmps R (a.put (some N) v).defers u w):Leaves P Try.f75 a.tmps R a.defers u w:=by
 refine mb.leaves_congr ?_ a.defers h
 have e:∀ k,N ≠ k→(a.put (some N) v).tmps.getD k undef=a.tmps.getD k undef:=fun k hk=>by
  simp [Act.put,Array.getElem?_setIfInBounds,hk]
 simp only [results,Try.results22]
 simp [e 4 hN.1,e 5 hN.2.1,e 6 hN.2.2,Act.put,Array.getElem?_setIfInBounds,hN.1,hN.2.1,hN.2.2]
theorem mb.takeB {bs:List Int} {u i:Int→Int × Int × Int} (hU:mb.Uin bs u i) {w:World} {A:Option Addr} {c:Nat} {at_:Int} (hC:(Kd.int .u8).C w A bs.length bs) (hc:bs.length≤c) (h0:0≤at_) (h1:at_≤(bs.length:Int)) {x:S48} {a2 l2:Int} (hr:mb.valS bs u i 8 at_ 2048=.ok x a2 l2) :
  Calls Try.prog 75 #[.slice A bs.length c,.int .i64 at_] w (mb.GotT (.ok x a2 l2) w):=by
 have hmf:∀ (fn:Fn) (first cap:Array Value) (w:World),(Instr.makeFunc fn first cap).run Try.prog w=.ok (.func fn first cap) w:=fun _ _ _ _=>rfl
 have d1:decide (at_ < 0)=false:=decide_eq_false (by omega)
 have d2:decide (at_ > (bs.length:Int))=false:=decide_eq_false (by omega)
 have d3:decide ((bs.length:Int) < at_)=false:=decide_eq_false (by omega)
 have HU:=qAA.mk hU
 have HC:=qAA.mk hC
 have HCC:=qAA.mk hc
 have H0:=qAA.mk h0
 have H1:=qAA.mk h1
 have HR:=qAA.mk hr
 have HDP:=qAA.mk (mb.valS_deep 8 _ _ _ _ _ hr)
 have HT:=qAA.mk (mb.three_new w (.cells #[.int .i64 0,.int .i64 0,.string ⟨#[]⟩,.slice none 0 0,.slice none 0 0] 48) (.cells #[.int .i64 0] 3) (.cells #[.int .i64 0] 30))
 clear hU hC hc h0 h1 hr
 go_enter_defers Try.func75,Try.ntmps75
 go_wp2_with (first | ((with_reducible refine qAr (N:=21) rfl ?_);refine qAk ?hg (N:=21) ?hd (cs:=#[.slice A bs.length c,.int .i64 at_,.int .i64 2048]) (t:=113) ?hr ?_;(case hd=>rfl);(case hg=>rfl);(case hr=>first | (go_simp;done) | (go_simp;rfl));intro g hg w2 hbox hb1;have HB2:=qAA.mk (qAU HT.out.2.2.2.2 HT.out.2.2.2.2.size hb1);have V2:=qAA.mk (qAL HT.out.1 hb1);have N2:=qAA.mk (qAL HT.out.2.1 hb1);have E2:=qAA.mk (qAL HT.out.2.2.1 hb1);have G2:=qAA.mk hbox;have HG:=qAA.mk (hg.trans HT.out.2.2.2.1);clear hbox hb1 hg) | (go_at_call 89;refine (mb.value1 HU.out (by have:=HG.out;omega) HCC.out 8 (by omega) 0 rfl w2 at_ 2048 HB2.out G2.out (Kd.qAS HC.out HB2.out) H0.out H1.out (by omega) (by omega)).mono ?_;rw [HR.out];rintro e_ w3 ⟨⟨v3,v4,rfl,hr3,hr4⟩,hx⟩;have V3:=qAA.mk ((hx.fr.2 _ (qAX V2.out) (by have:=HG.out;omega)).trans V2.out);have N3:=qAA.mk ((hx.fr.2 _ (qAX N2.out) (by have:=HG.out;omega)).trans N2.out);have E3:=qAA.mk ((hx.fr.2 _ (qAX E2.out) (by have:=HG.out;omega)).trans E2.out);have G3:=qAA.mk hx.blk;have HB3:=qAA.mk hx.bel;have R3_:=qAA.mk (mb.VRow.of_R 8 (Y:=fun k=>w2.heap.size≤k∧k < w3.heap.size) (Kd.qBv hr3) (fun k hk=>⟨hk.1,hk.2.2.1⟩) HDP.out);have R4_:=qAA.mk (mb.KRow.of_R (Y:=fun k=>w2.heap.size≤k∧k < w3.heap.size) (Kd.qBv hr4) (fun k hk=>⟨hk.1,hk.2.2.1⟩));have HSZ:=qAA.mk hx.fr.1;clear hx hr3 hr4) | ((with_reducible refine qAh (p:=4) rfl ?_);refine mb.qBV rfl rfl 4 _ rfl w.heap.size rfl (.int .i64 x.f0) (.int .i64 x.f1) (.string x.f2) v3 v4 rfl (fun q hq=>by simp at hq;rcases hq with rfl | rfl | rfl | rfl | rfl <;> first | rfl | exact (mb.qCV (by obtain ⟨A_,c_,e_,_⟩:=mb.VRow.C 8 R3_.out;exact ⟨_,_,_,e_⟩)).1 | exact (mb.qCV (by obtain ⟨A_,c_,e_,_⟩:=R4_.out.C;exact ⟨_,_,_,e_⟩)).1) _ rfl V3.out ?_;intro w4 hres hgr;have V4:=qAA.mk hres;have N4:=qAA.mk ((hgr.block _ (qAX N3.out) (fun e_=>by have:=Option.some.inj e_;omega)).trans N3.out);have E4:=qAA.mk ((hgr.block _ (qAX E3.out) (fun e_=>by have:=Option.some.inj e_;omega)).trans E3.out);have G4:=qAA.mk ((hgr.block _ (qAX G3.out) (fun e_=>by have:=Option.some.inj e_;have:=HG.out;omega)).trans G3.out);have HB4:=qAA.mk (show Below w.heap.size w w4 from ⟨hgr.os.trans HB3.out.os,hgr.tape.trans HB3.out.tape,hgr.output.trans HB3.out.output,Nat.le_trans HB3.out.size hgr.size,fun k hk=>(hgr.block k (Nat.lt_of_lt_of_le hk HB3.out.size) (fun e_=>by have:=Option.some.inj e_;omega)).trans (HB3.out.block k hk)⟩);have HYW:=qAA.mk (show w.heap.size+1+1+1 < w2.heap.size from by have:=qAX G2.out;have:=HG.out;omega);have VR4:=qAA.mk (mb.VRow.move (w:=w3) (w1:=w4) (Y:=fun k=>w2.heap.size≤k∧k < w3.heap.size) (fun _ h=>h) (fun k hk hlt=>hgr.block k hlt (fun e_=>by have:=Option.some.inj e_;have:=HYW.out;omega)) 8 R3_.out);have KR4:=qAA.mk (R4_.out.move (w1:=w4) (fun _ h=>h) (fun k hk hlt=>hgr.block k hlt (fun e_=>by have:=Option.some.inj e_;have:=HYW.out;omega)));have HSZ4:=qAA.mk (show w3.heap.size≤w4.heap.size from hgr.size);clear hres hgr))
 generalize hYd:(fun k=>w2.heap.size≤k∧k < w3.heap.size)=Y at *
 have HYD:=qAA.mk (show ∀ k,Y k→w2.heap.size≤k∧k < w3.heap.size from fun k hk=>by rw [← hYd] at hk;exact hk)
 clear hYd R3_ R4_
 refine qAn (n:=9) (S:=fun w'=>w'.cell? ⟨g,1,none⟩=some (.int .i64 a2)) (ds:=[]) #[qF,qF,qF,qF,qF,qF,qF,qF,qF] (by kernel_rfl) rfl rfl ((qAB (qAJ G4.out) 1).trans rfl) (fun hHeld => ?_)
 generalize hwd:w4.drew=wd at hHeld ⊢
 have Vd:=qAA.mk (hwd▸qAJ V4.out)
 have Nd:=qAA.mk (hwd▸qAJ N4.out)
 have Ed:=qAA.mk (hwd▸qAJ E4.out)
 have Gd:=qAA.mk (hwd▸qAJ G4.out)
 have HBd:=qAA.mk (hwd▸qAM HB4.out)
 have VRd:=qAA.mk (hwd▸mb.VRow.move (w:=w4) (w1:=w4.drew) (fun _ h=>h) (fun _ _ _=>rfl) 8 VR4.out)
 have KRd:=qAA.mk (hwd▸KR4.out.move (w1:=w4.drew) (fun _ h=>h) (fun _ _ _=>rfl))
 have HSd:=qAA.mk (show w3.heap.size≤wd.heap.size from hwd▸HSZ4.out)
 clear hwd
 refine qAz (i:=2) (N:=some 26) (v := ?_) (a' := ?_) #[qF,qF,qT,qF,qF,qF,qF,qF,qF] rfl rfl (by kernel_rfl) (fun _ _ _ h=>mb.leaves22 (by decide) h) (Or.inl ⟨by rfl, ?_⟩) ?_ ?_
 rotate_left
 ·intro w'
  go_simp
  with_reducible rfl
 rotate_left
 ·simp only [Act.put,qs1,qs2,qs3,qAR,qAT]
  rfl
 refine qAz (i:=3) (N:=some 27) (v := ?_) (a' := ?_) #[qF,qF,qT,qT,qF,qF,qF,qF,qF] rfl rfl (by kernel_rfl) (fun _ _ _ h=>mb.leaves22 (by decide) h) (Or.inl ⟨by rfl, ?_⟩) ?_ ?_
 rotate_left
 ·intro w'
  go_simp
  with_reducible rfl
 rotate_left
 ·simp only [Act.put,qs1,qs2,qs3,qAR,qAT]
  rfl
 refine qAz (i:=4) (N:=some 28) (v := ?_) (a' := ?_) #[qF,qF,qT,qT,qT,qF,qF,qF,qF] rfl rfl (by kernel_rfl) (fun _ _ _ h=>mb.leaves22 (by decide) h) (Or.inl ⟨by rfl, ?_⟩) ?_ ?_
 rotate_left
 ·intro w'
  go_simp
  with_reducible rfl
 rotate_left
 ·simp only [Act.put,qs1,qs2,qs3,qAR,qAT]
  rfl
 refine qBU (i:=5) (N:=some 29) (v := ?_) (a' := ?_) #[qF,qF,qT,qT,qT,qT,qF,qF,qF] rfl rfl (by kernel_rfl) (fun _ _ _ h=>mb.leaves22 (by decide) h) (Or.inl ⟨by rfl, ?_⟩) hHeld ?_ ?_
 rotate_left
 ·intro w' s0
  go_simp
  with_reducible rfl
 rotate_left
 ·simp only [Act.put,qs1,qs2,qs3,qAR,qAT]
  rfl
 refine one_ (i:=0) (N:=some 24) #[qT,qF,qT,qT,qT,qT,qF,qF,qF] rfl rfl (by kernel_rfl) (by decide) (fun K hK => ?_)
 have z0:=(qAB Vd.out 0).trans rfl
 have z1:=(qAB Vd.out 1).trans rfl
 have z2:=(qAB Vd.out 2).trans rfl
 have z3:=(qAB Vd.out 3).trans rfl
 have z4:=(qAB Vd.out 4).trans rfl
 refine qBO (w1 := ?_) (v := ?_) (by rfl) rfl ?_ ?_
 rotate_left 2
 ·go_simp
  constructor
  ·rfl
  ·rfl
 clear z0 z1 z2 z3 z4
 refine hK.out _ _ ((qAB Gd.out 1).trans rfl) (fun hHeld => ?_)
 clear hK K
 refine qAi (a' := ?_) ?_ ?_
 rotate_left
 ·show Act.put _ (some 24) _=_
  simp only [Act.put,qs1,qs2,qs3,qAR,qAT]
  rfl
 refine one_ (i:=1) (N:=some 25) #[qT,qT,qT,qT,qT,qT,qF,qF,qF] rfl rfl (by kernel_rfl) (by decide) (fun K hK => ?_)
 refine qBJ Try.func90 (by kernel_rfl) rfl #[.agg #[.int .i64 x.f0,.int .i64 x.f1,.string x.f2,v3,v4]] (by rfl) rfl rfl (by (try simp only [List.map_toArray,List.map_cons,List.map_nil]);first | done | rfl) ?_
 refine (mb.tight1 8 x v3 v4 _ (fun k hk=>by have:=(HYD.out k hk).2;have:=HSd.out;omega) VRd.out KRd.out).mono ?_
 rintro e w5 ⟨rfl,hs⟩
 refine ⟨_,rfl, ?_⟩
 have V5:=qAA.mk ((hs.out _ (qAX Vd.out) (fun y=>by have:=(HYD.out _ y).1;have:=HYW.out;have:=HG.out;omega)).trans Vd.out)
 have N5:=qAA.mk ((hs.out _ (qAX Nd.out) (fun y=>by have:=(HYD.out _ y).1;have:=HYW.out;have:=HG.out;omega)).trans Nd.out)
 have E5:=qAA.mk ((hs.out _ (qAX Ed.out) (fun y=>by have:=(HYD.out _ y).1;have:=HYW.out;have:=HG.out;omega)).trans Ed.out)
 have G5:=qAA.mk ((hs.out _ (qAX Gd.out) (fun y=>by have:=(HYD.out _ y).1;have:=HYW.out;have:=HG.out;omega)).trans Gd.out)
 have HB5:=qAA.mk (show Below w.heap.size w w5 from ⟨hs.os.trans HBd.out.os,hs.tape.trans HBd.out.tape,hs.output.trans HBd.out.output,Nat.le_trans HBd.out.size hs.size,fun k hk=>(hs.out k (Nat.lt_of_lt_of_le hk HBd.out.size) (fun y=>by have:=(HYD.out k y).1;have:=HYW.out;omega)).trans (HBd.out.block k hk)⟩)
 have VR5:=qAA.mk (mb.VRow.simT hs 8 VRd.out).2
 have KR5:=qAA.mk (mb.KRow.simT hs KRd.out).2
 have HS5:=qAA.mk (Nat.le_trans HSd.out hs.size)
 clear hs
 refine hK.out _ _ ((qAB G5.out 1).trans rfl) (fun hHeld => ?_)
 clear hK K
 refine qAi (a' := ?_) ?_ ?_
 rotate_left
 ·show Act.put _ (some 25) _=_
  simp only [Act.put,qs1,qs2,qs3,qAR,qAT]
  rfl
 refine one_ (i:=6) (N:=none) #[qT,qT,qT,qT,qT,qT,qT,qF,qF] rfl rfl (by kernel_rfl) (by decide) (fun K hK => ?_)
 refine mb.st25 48 (by rfl) rfl 4 (.tmp 25) rfl (by kernel_rfl) w.heap.size 0 rfl (.int .i64 x.f0) (.int .i64 x.f1) (.string x.f2) (mb.qCO v3) (mb.qCO v4) rfl ?hone _ 48 (Nat.le_refl _) V5.out ?_
 (case hone=>intro q hq;simp at hq;rcases hq with rfl | rfl | rfl | rfl | rfl <;> first | rfl | exact (mb.qCV (by obtain ⟨A_,c_,e_,_⟩:=mb.VRow.C 8 VRd.out;exact ⟨_,_,_,e_⟩)).2 | exact (mb.qCV (by obtain ⟨A_,c_,e_,_⟩:=KRd.out.C;exact ⟨_,_,_,e_⟩)).2)
 intro w6 cv' q1 q2 q3 q4 q5
 have V6:=qAA.mk q1
 have SZ6:=qAA.mk q2
 have GR6:=qAA.mk q3
 have N6:=qAA.mk ((q5.block _ (qAX N5.out) (fun e_=>by have:=Option.some.inj e_;omega)).trans N5.out)
 have E6:=qAA.mk ((q5.block _ (qAX E5.out) (fun e_=>by have:=Option.some.inj e_;omega)).trans E5.out)
 have G6:=qAA.mk ((q5.block _ (qAX G5.out) (fun e_=>by have:=Option.some.inj e_;have:=HG.out;omega)).trans G5.out)
 have HB6:=qAA.mk (show Below w.heap.size w w6 from ⟨q5.os.trans HB5.out.os,q5.tape.trans HB5.out.tape,q5.output.trans HB5.out.output,Nat.le_trans HB5.out.size q5.size,fun k hk=>(q5.block k (Nat.lt_of_lt_of_le hk HB5.out.size) (fun e_=>by have:=Option.some.inj e_;omega)).trans (HB5.out.block k hk)⟩)
 have VR6:=qAA.mk (mb.VRow.move (w:=w5) (w1:=w6) (fun _ h=>h) (fun k hk hlt=>q5.block k hlt (fun e_=>by have:=Option.some.inj e_;have:=(HYD.out k hk).1;have:=HYW.out;omega)) 8 VR5.out)
 have KR6:=qAA.mk (KR5.out.move (w1:=w6) (fun _ h=>h) (fun k hk hlt=>q5.block k hlt (fun e_=>by have:=Option.some.inj e_;have:=(HYD.out k hk).1;have:=HYW.out;omega)))
 have HS6:=qAA.mk (Nat.le_trans HS5.out q5.size)
 clear q1 q2 q3 q4 q5
 have hcn:=(qAB N6.out 0).trans rfl
 have fvn:=qAC N6.out 0
 refine hK.out _ _ ((qAB G6.out 1).trans rfl) (fun hHeld => ?_)
 clear hK K
 refine one_ (i:=7) (N:=none) #[qT,qT,qT,qT,qT,qT,qT,qT,qF] rfl rfl (by kernel_rfl) (by decide) (fun K hK => ?_)
 refine qCH (w1 := ?_) (by rfl) rfl ?_ ?_
 rotate_left
 ·go_simp
  rfl
 clear hcn fvn
 have N7:=qAA.mk (qAx N6.out 0 (.int .i64 a2) rfl)
 have V7:=qAA.mk ((Below.heap_setCell _ ⟨w.heap.size+1,0,none⟩ (.int .i64 a2) w.heap.size (show w.heap.size ≠ w.heap.size+1 by omega)).trans V6.out)
 have E7:=qAA.mk ((Below.heap_setCell _ ⟨w.heap.size+1,0,none⟩ (.int .i64 a2) (w.heap.size+1+1) (show w.heap.size+1+1 ≠ w.heap.size+1 by omega)).trans E6.out)
 have G7:=qAA.mk ((Below.heap_setCell _ ⟨w.heap.size+1,0,none⟩ (.int .i64 a2) g (show g ≠ w.heap.size+1 by have:=HG.out;omega)).trans G6.out)
 have HB7:=qAA.mk (HB6.out.setCell (show w.heap.size≤(⟨w.heap.size+1,0,none⟩:Addr).block from Nat.le_succ _) (.int .i64 a2))
 have VR7:=qAA.mk (mb.VRow.move (w:=w6) (w1:=w6.setCell ⟨w.heap.size+1,0,none⟩ (.int .i64 a2)) (fun _ h=>h) (fun k hk hlt=>Below.heap_setCell _ ⟨w.heap.size+1,0,none⟩ (.int .i64 a2) k (show k ≠ w.heap.size+1 by have:=(HYD.out k hk).1;have:=HYW.out;omega)) 8 VR6.out)
 have KR7:=qAA.mk (KR6.out.move (w1:=w6.setCell ⟨w.heap.size+1,0,none⟩ (.int .i64 a2)) (fun _ h=>h) (fun k hk hlt=>Below.heap_setCell _ ⟨w.heap.size+1,0,none⟩ (.int .i64 a2) k (show k ≠ w.heap.size+1 by have:=(HYD.out k hk).1;have:=HYW.out;omega)))
 have HS7:=qAA.mk (show w3.heap.size≤(w6.setCell ⟨w.heap.size+1,0,none⟩ (.int .i64 a2)).heap.size by rw [Deep.nblk_setCell];exact HS6.out)
 generalize w6.setCell ⟨w.heap.size+1,0,none⟩ (.int .i64 a2)=w7 at *
 have hce:=(qAB E7.out 0).trans rfl
 have fve:=qAC E7.out 0
 refine hK.out _ _ ((qAB G7.out 1).trans rfl) (fun hHeld => ?_)
 clear hK K
 refine one_ (i:=8) (N:=none) #[qT,qT,qT,qT,qT,qT,qT,qT,qT] rfl rfl (by kernel_rfl) (by decide) (fun K hK => ?_)
 refine qCH (w1 := ?_) (by rfl) rfl ?_ ?_
 rotate_left
 ·go_simp
  rfl
 clear hce fve
 have E8:=qAA.mk (qAx E7.out 0 (.int .i64 0) rfl)
 have V8:=qAA.mk ((Below.heap_setCell _ ⟨w.heap.size+1+1,0,none⟩ (.int .i64 0) w.heap.size (show w.heap.size ≠ w.heap.size+1+1 by omega)).trans V7.out)
 have N8:=qAA.mk ((Below.heap_setCell _ ⟨w.heap.size+1+1,0,none⟩ (.int .i64 0) (w.heap.size+1) (show w.heap.size+1 ≠ w.heap.size+1+1 by omega)).trans N7.out)
 have G8:=qAA.mk ((Below.heap_setCell _ ⟨w.heap.size+1+1,0,none⟩ (.int .i64 0) g (show g ≠ w.heap.size+1+1 by have:=HG.out;omega)).trans G7.out)
 have HB8:=qAA.mk (HB7.out.setCell (show w.heap.size≤(⟨w.heap.size+1+1,0,none⟩:Addr).block by show w.heap.size≤w.heap.size+1+1;omega) (.int .i64 0))
 have VR8:=qAA.mk (mb.VRow.move (w:=w7) (w1:=w7.setCell ⟨w.heap.size+1+1,0,none⟩ (.int .i64 0)) (fun _ h=>h) (fun k hk hlt=>Below.heap_setCell _ ⟨w.heap.size+1+1,0,none⟩ (.int .i64 0) k (show k ≠ w.heap.size+1+1 by have:=(HYD.out k hk).1;have:=HYW.out;omega)) 8 VR7.out)
 have KR8:=qAA.mk (KR7.out.move (w1:=w7.setCell ⟨w.heap.size+1+1,0,none⟩ (.int .i64 0)) (fun _ h=>h) (fun k hk hlt=>Below.heap_setCell _ ⟨w.heap.size+1+1,0,none⟩ (.int .i64 0) k (show k ≠ w.heap.size+1+1 by have:=(HYD.out k hk).1;have:=HYW.out;omega)))
 have LT8:=qAA.mk (show w3.heap.size≤(w7.setCell ⟨w.heap.size+1+1,0,none⟩ (.int .i64 0)).heap.size by rw [Deep.nblk_setCell];exact HS7.out)
 generalize w7.setCell ⟨w.heap.size+1+1,0,none⟩ (.int .i64 0)=w8 at *
 refine hK.out _ _ ((qAB G8.out 1).trans rfl) (fun hHeld => ?_)
 clear hK K
 refine qA6 (by kernel_rfl) ?_
 go_wp2
 refine leaves_cons (f:=88) (args:=#[.pointer (some ⟨w.heap.size,0,none⟩),.pointer (some ⟨w.heap.size+1,0,none⟩),.pointer (some ⟨w.heap.size+1+1,0,none⟩)]) (by simp) (by simp [go_sem]) ?_
 refine (mb.catch_idle _ _ _ _).mono ?_
 rintro e u' w9 ⟨rfl,rfl,hb⟩
 have hcv:=mb.grp_eq SZ6.out GR6.out
 have V9:=qAL V8.out hb
 rw [hcv] at V9
 show Leaves Try.prog Try.f75 _ _ [] .returning _
 refine ⟨_,mb.res22 rfl rfl rfl V9 (qAL N8.out hb) (qAL E8.out hb),_,_,rfl, ?_, ?_,qAU HB8.out HB8.out.size hb⟩
 ·exact mb.VRow.move (fun k hk=>⟨by have:=HYD.out k hk;have:=HB2.out.size;omega,by have:=HYD.out k hk;have:=LT8.out;have:=hb.size;omega⟩) (fun k hk hlt=>hb.block k hlt) 8 VR8.out
 ·exact KR8.out.move (fun k hk=>⟨by have:=HYD.out k hk;have:=HB2.out.size;omega,by have:=HYD.out k hk;have:=LT8.out;have:=hb.size;omega⟩) (fun k hk hlt=>hb.block k hlt)
theorem mb.take1 {bs:List Int} {u i:Int→Int × Int × Int} (hU:mb.Uin bs u i) {w:World} {A:Option Addr} {c:Nat} (at_:Int) (hC:(Kd.int .u8).C w A bs.length bs) (hc:bs.length≤c):Calls Try.prog 75 #[.slice A bs.length c,.int .i64 at_] w (mb.GotT (mb.takeS bs u i at_) w):=by
 unfold mb.takeS
 by_cases h:at_ < 0 ∨ at_ > (bs.length:Int)
 ·rw [if_pos h];exact mb.takeA h
 ·rw [if_neg h]
  have h0:0≤at_:=by
   have:¬ at_ < 0:=fun e=>h (Or.inl e)
   omega
  have h1:at_≤(bs.length:Int):=by
   have:¬ at_ > (bs.length:Int):=fun e=>h (Or.inr e)
   omega
  rcases hr:mb.valS bs u i 8 at_ 2048 with ⟨x,a2,l2⟩ | ⟨ee,pp⟩
  ·exact mb.takeB hU hC hc h0 h1 hr
  ·exact mb.takeC hU hC hc h0 h1 hr
end
end Go.Proofs.Ytmehfnikecmiiaa.X
namespace Go.Proofs.Ytmehfnikecmiiaa.X
open Go.RowKit Go.Proofs.YtmehfnikecmiiaaW.PrintWords Go.Proofs.YtmehfnikecmiiaaW.PrintLast Go.Proofs.YtmehfnikecmiiaaW.PrintMore Go.Proofs.YtmehfnikecmiiaaW
section
set_option maxRecDepth 100000
def mb.kOk (ks:List ByteArray):Prop:=(∀ s ∈ ks,s.size≤32)∧∀ i:Nat,i+1 < ks.length→Op.bytesLess (rdOf ByteArray.empty ks (i:Int)).toList (rdOf ByteArray.empty ks ((i+1:Nat):Int)).toList=true
def mb.okV:Nat→S48→Prop
 | 0,_=>False
 | d+1,x=>qAa.b x.f0 x.f1 x.f2 x.f3.length x.f4.length=true∧(x.f0=5→mb.kOk x.f4)∧∀ y ∈ x.f3,mb.okV d y
theorem mb.okV.mk {d:Nat} {f0 f1:Int} {f2:ByteArray} {f3:List S48} {f4:List ByteArray} (h:qAa.b f0 f1 f2 f3.length f4.length=true) (k:f0=5→mb.kOk f4) (s:∀ y ∈ f3,mb.okV d y):mb.okV (d+1) ⟨f0,f1,f2,f3,f4⟩:=⟨h,k,s⟩
theorem mb.rdOf_lt (ks:List ByteArray) (k:ByteArray) (i:Nat) (h:i < ks.length):rdOf ByteArray.empty (ks ++ [k]) (i:Int)=rdOf ByteArray.empty ks (i:Int):=by
 unfold rdOf
 rw [Int.toNat_natCast,List.getD_eq_getElem?_getD,List.getD_eq_getElem?_getD,List.getElem?_append_left h]
theorem mb.rdOf_end (ks:List ByteArray) (k:ByteArray):rdOf ByteArray.empty (ks ++ [k]) ((ks.length:Nat):Int)=k:=by
 unfold rdOf
 rw [Int.toNat_natCast,List.getD_eq_getElem?_getD,List.getElem?_append_right (Nat.le_refl _),Nat.sub_self]
 rfl
theorem mb.kOk.snoc {ks:List ByteArray} {k:ByteArray} (h:mb.kOk ks) (hk:k.size≤32) (hl:0 < ks.length→Op.bytesLess (rdOf ByteArray.empty ks ((ks.length:Int) - 1)).toList k.toList=true):mb.kOk (ks ++ [k]):=by
 refine ⟨fun s hs => ?_,fun i hi => ?_⟩
 ·rcases List.mem_append.1 hs with hs | hs
  ·exact h.1 s hs
  ·rw [List.mem_singleton.1 hs];exact hk
 ·rw [List.length_append,List.length_singleton] at hi
  rw [mb.rdOf_lt ks k i (by omega)]
  by_cases he:i+1 < ks.length
  ·rw [mb.rdOf_lt ks k (i+1) he]
   exact h.2 i he
  ·have e:i+1=ks.length:=by omega
   rw [e,mb.rdOf_end]
   have:=hl (by omega)
   rw [← e,show ((i+1:Nat):Int) - 1=(i:Int) by omega] at this
   exact this
theorem mb.keyS_ok {bs:List Int} {u i:Int→Int × Int × Int} (hU:mb.Uin bs u i) {ks:List ByteArray} {a l a2 l2:Int} {k:ByteArray} (h:mb.keyS bs u ks a l=.ok k a2 l2):k.size≤32∧(0 < ks.length→Op.bytesLess (rdOf ByteArray.empty ks ((ks.length:Int) - 1)).toList k.toList=true):=by
 unfold mb.keyS at h
 by_cases h1:(u a).2.2 ≠ 0
 ·rw [if_pos h1] at h;cases h
 rw [if_neg h1] at h
 by_cases h2:(u a).1 > 32
 ·rw [if_pos h2] at h;cases h
 rw [if_neg h2] at h
 by_cases h3:(u a).1 > (bs.length:Int) - (u a).2.1
 ·rw [if_pos h3] at h;cases h
 rw [if_neg h3] at h
 dsimp only at h
 split at h
 ·cases h
 next hq =>
  split at h
  ·cases h
  ·injection h with e1 e2 e3
   subst e1
   refine ⟨?_,fun hp=>Classical.byContradiction fun hn=>hq ⟨hp,hn⟩⟩
   rw [mb.qBf,List.length_take]
   have:=(hU.R a).1
   omega
theorem mb.recL_ok {bs:List Int} {u i:Int→Int × Int × Int} (hU:mb.Uin bs u i) {p:S48→Prop} {f:Int→Int→mb.R3 S48} (hf:∀ (a l:Int) (x:S48) (a2 l2:Int),f a l=.ok x a2 l2→p x):∀ (k:Nat) (ks:List ByteArray) (acc:List S48) (a l:Int) (vs:List ByteArray × List S48) (a2 l2:Int),(∀ y ∈ acc,p y)→mb.kOk ks→ks.length=acc.length→mb.recL bs u f k ks acc a l=.ok vs a2 l2→(∀ y ∈ vs.2,p y)∧mb.kOk vs.1∧vs.1.length=vs.2.length
 | 0,ks,acc,a,l,vs,a2,l2,hp,hk,hl,h=>by
  unfold mb.recL at h
  injection h with e1 _ _
  subst e1;exact ⟨hp,hk,hl⟩
 | k+1,ks,acc,a,l,vs,a2,l2,hp,hk,hl,h=>by
  unfold mb.recL at h
  rcases hka:mb.keyS bs u ks a l with ⟨kk,a1,l1⟩ | ⟨e,q⟩
  ·rw [hka] at h
   have hks:=mb.keyS_ok hU hka
   dsimp only at h
   rcases hfa:f a1 l1 with ⟨x,a3,l3⟩ | ⟨e,q⟩
   ·rw [hfa] at h
    refine mb.recL_ok hU hf k (ks ++ [kk]) (acc ++ [x]) a3 l3 vs a2 l2 (fun y hy => ?_) (hk.snoc hks.1 hks.2) (by rw [List.length_append,List.length_append,hl];rfl) h
    rcases List.mem_append.1 hy with hy | hy
    ·exact hp y hy
    ·rw [List.mem_singleton.1 hy];exact hf a1 l1 x a3 l3 hfa
   ·rw [hfa] at h;cases h
  ·rw [hka] at h;cases h
theorem mb.kOk_nil:mb.kOk []:=by
 constructor
 ·intro s hs;cases hs
 ·intro i hi;exact absurd hi (by simp)
theorem mb.e_nil:(⟨#[]⟩:ByteArray).toList=[]:=by
 first | rfl | (unfold ByteArray.toList;unfold ByteArray.toList.loop;rfl) | simp
theorem mb.valS_ok {bs:List Int} {u i:Int→Int × Int × Int} (hU:mb.Uin bs u i):∀ (d:Nat) (a l:Int) (x:S48) (a2 l2:Int),mb.valS bs u i d a l=.ok x a2 l2→mb.okV d x
 | 0,a,l,x,a2,l2,h=>by
  rw [mb.valS] at h
  split at h <;> cases h
 | d+1,a,l,x,a2,l2,h=>by
  rw [mb.valS_s] at h
  have leaf:∀ {f0 f1:Int} {f2:ByteArray} {b m:Int},qAa.b f0 f1 f2 0 0=true→f0 ≠ 5→mb.R3.ok (⟨f0,f1,f2,[],[]⟩:S48) b m=.ok x a2 l2→mb.okV (d+1) x:=fun q0 q5 h=>by
   injection h with e1 _ _
   subst e1
   exact mb.okV.mk q0 (fun e=>absurd e q5) (fun y hy=>by cases hy)
  have nb:∀ {e q:Int},mb.R3.bad e q=.ok x a2 l2→mb.okV (d+1) x:=fun h=>by cases h
  by_cases h0:a=(bs.length:Int) ∨ rd bs a > 6
  ·rw [if_pos h0] at h;exact nb h
  rw [if_neg h0] at h
  by_cases h1:1 > l
  ·rw [if_pos h1] at h;exact nb h
  rw [if_neg h1] at h
  by_cases k1:rd bs a=1
  ·rw [if_pos k1] at h;exact leaf (by simp [qAa.b,mb.e_nil,wrap64]) (by decide) h
  rw [if_neg k1] at h
  by_cases k2:rd bs a=2
  ·rw [if_pos k2] at h;exact leaf (by simp [qAa.b,mb.e_nil,wrap64]) (by decide) h
  rw [if_neg k2] at h
  by_cases k3:rd bs a=3
  ·rw [if_pos k3] at h
   by_cases e1:(i (a+1)).2.2 ≠ 0
   ·rw [if_pos e1] at h;exact nb h
   ·rw [if_neg e1] at h;exact leaf (by simp [qAa.b,mb.e_nil,wrap64]) (by decide) h
  rw [if_neg k3] at h
  by_cases k4:rd bs a=4
  ·rw [if_pos k4] at h
   by_cases e1:(u (a+1)).2.2 ≠ 0
   ·rw [if_pos e1] at h;exact nb h
   rw [if_neg e1] at h
   by_cases e2:(l - 1) / 1 < (u (a+1)).1
   ·rw [if_pos e2] at h;exact nb h
   rw [if_neg e2] at h
   by_cases e3:(bs.length:Int) - (u (a+1)).2.1 < (u (a+1)).1
   ·rw [if_pos e3] at h;exact nb h
   ·rw [if_neg e3] at h;exact leaf (by simp [qAa.b,mb.e_nil,wrap64]) (by decide) h
  rw [if_neg k4] at h
  by_cases k5:rd bs a=5
  ·rw [if_pos k5] at h
   by_cases e1:(u (a+1)).2.2 ≠ 0
   ·rw [if_pos e1] at h;exact nb h
   rw [if_neg e1] at h
   by_cases e2:(l - 1) / 1 < (u (a+1)).1
   ·rw [if_pos e2] at h;exact nb h
   rw [if_neg e2] at h
   rcases hL:mb.arrL (mb.valS bs u i d) (u (a+1)).1.toNat [] (u (a+1)).2.1 (l - 1) with ⟨vs,a3,l3⟩ | ⟨e,p⟩
   ·rw [hL] at h
    have hp:=mb.arrL_all (p:=mb.okV d) (mb.valS_ok hU d) _ _ _ _ _ _ _ (fun y hy=>by cases hy) hL
    injection h with e1 _ _
    subst e1
    exact mb.okV.mk (by simp [qAa.b,mb.e_nil,wrap64]) (fun e=>absurd e (by decide)) hp
   ·rw [hL] at h;exact nb h
  rw [if_neg k5] at h
  by_cases k6:rd bs a=6
  ·rw [if_pos k6] at h
   by_cases e1:(u (a+1)).2.2 ≠ 0
   ·rw [if_pos e1] at h;exact nb h
   rw [if_neg e1] at h
   by_cases e2:(l - 1) / 2 < (u (a+1)).1
   ·rw [if_pos e2] at h;exact nb h
   rw [if_neg e2] at h
   rcases hL:mb.recL bs u (mb.valS bs u i d) (u (a+1)).1.toNat [] [] (u (a+1)).2.1 (l - 1) with ⟨⟨ks,vs⟩,a3,l3⟩ | ⟨e,p⟩
   ·rw [hL] at h
    have hp:=mb.recL_ok hU (p:=mb.okV d) (mb.valS_ok hU d) _ _ _ _ _ _ _ _ (fun y hy=>by cases hy) mb.kOk_nil rfl hL
    injection h with e1 _ _
    subst e1
    refine mb.okV.mk ?_ (fun _=>hp.2.1) hp.1
    have:ks.length=vs.length:=hp.2.2
    simp [qAa.b,this,mb.e_nil]
   ·rw [hL] at h;exact nb h
  rw [if_neg k6] at h
  exact leaf (by simp [qAa.b,mb.e_nil,wrap64]) (by decide) h
end
end Go.Proofs.Ytmehfnikecmiiaa.X
namespace Go.Proofs.Ytmehfnikecmiiaa.X
open Go.RowKit Go.Proofs.YtmehfnikecmiiaaW.PrintWords Go.Proofs.YtmehfnikecmiiaaW.PrintLast Go.Proofs.YtmehfnikecmiiaaW.PrintMore Go.Proofs.YtmehfnikecmiiaaW
section
set_option maxRecDepth 100000
theorem mb.mx_b {D a:Int} (h0:0≤D) (h1:D≤8) (h2:a≤8):0≤mx D a∧mx D a≤8:=by
 rw [mx_eq];split <;> omega
theorem mb.meas_l {d:Nat} (ih:∀ x:S48,mb.okV d x→∀ ar D W:Int,0≤ar→ar+d≤8→0≤D→D≤8→0≤W→W+(wt x:Int)≤2048→∃ D',0≤D'∧D'≤8∧Ev (fun k=>qAE.w k x.f0 x.f1 x.f2 x.f3 x.f4 ar D W) (true,D',W+(wt x:Int)))
  (f0 f1:Int) (f2:ByteArray) (f3:List S48) (f4:List ByteArray) (hl:f3.length≤9223372036854775000) (h45:f0=5→f4.length=f3.length) (hk:f0=5→mb.kOk f4) (hs:∀ y ∈ f3,mb.okV d y) (ar:Int) (ha:0≤ar) (hb:ar+1+d≤8) :
  ∀ (rem i:Nat),i+rem=f3.length→∀ D W:Int,0≤D→D≤8→0≤W→W+(qCG f0 f3 f4 i:Int)≤2048→∃ D',0≤D'∧D'≤8∧Ev (fun k=>qAE.l k f0 f1 f2 f3 f4 ar D W (i:Int)) (true,D',W+(qCG f0 f3 f4 i:Int)):=by
 intro rem
 induction rem with
 | zero =>
  intro i hi D W h0 h1 h2 h3
  have c:¬ ((i:Int) < (f3.length:Int)):=by omega
  have hz:=wrest_end f0 f3 f4 i (by omega) h45
  rw [hz] at h3 ⊢
  refine ⟨D,h0,h1,Ev.step Ev.const (fun k => ?_)⟩
  rw [qAE.l,if_neg c,decide_eq_true (by omega)]
  simp
 | succ rem ihr =>
  intro i hi D W h0 h1 h2 h3
  have c:(i:Int) < (f3.length:Int):=by omega
  have p:(0:Int)≤(i:Int):=by omega
  have ei:wrap64 ((i:Int)+1)=((i+1:Nat):Int):=by rw [X.w64 _ (by omega) (by omega)];omega
  have ea:wrap64 (ar+1)=ar+1:=X.w64 _ (by omega) (by omega)
  have hrs:=wrest_succ f0 f3 f4 i (by omega) h45
  have hmem:qAO f3 (i:Int) ∈ f3:=by
   have hl:i < f3.length:=by omega
   unfold qAO
   rw [show ((i:Int)).toNat=i from by omega,List.getD_eq_getElem?_getD,List.getElem?_eq_getElem hl]
   exact List.getElem_mem hl
  have hox:=hs _ hmem
  generalize hx:qAO f3 (i:Int)=x at hrs hox
  have child:∀ V:Int,0≤V→V+(wt x:Int)+(qCG f0 f3 f4 (i+1):Int)≤2048→∃ D',0≤D'∧D'≤8∧Ev (fun k=>(qAE.w k x.f0 x.f1 x.f2 x.f3 x.f4 (ar+1) D V).bind fun r=>if r.1=true then qAE.l k f0 f1 f2 f3 f4 ar r.2.1 r.2.2 ((i+1:Nat):Int) else some (false,r.2.1,r.2.2)) (true,D',V+(wt x:Int)+(qCG f0 f3 f4 (i+1):Int)):=by
   intro V hV0 hV
   obtain ⟨D1,d0,d1,m1⟩:=ih x hox (ar+1) D V (by omega) (by omega) h0 h1 hV0 (by omega)
   obtain ⟨D2,e0,e1,m2⟩:=ihr (i+1) (by omega) D1 (V+(wt x:Int)) d0 d1 (by omega) hV
   exact ⟨D2,e0,e1,Ev.bind m1 (by simpa using m2)⟩
  by_cases k5:f0=5
  ·rw [if_pos k5] at hrs
   have q4:(i:Int) < (f4.length:Int):=by have:=h45 k5;omega
   have hko:=hk k5
   have hki:rdOf ByteArray.empty f4 (i:Int) ∈ f4:=by
    have hl:i < f4.length:=by omega
    unfold rdOf
    rw [show ((i:Int)).toNat=i from by omega,List.getD_eq_getElem?_getD,List.getElem?_eq_getElem hl]
    exact List.getElem_mem hl
   have hsz:=hko.1 _ hki
   have g1:¬ 32 < ((rdOf ByteArray.empty f4 (i:Int)).size:Int):=by omega
   have g2:¬ (0 < (i:Int)∧(Op.bytesLess ((rdOf ByteArray.empty f4 ((i:Int) - 1)).toList) ((rdOf ByteArray.empty f4 (i:Int)).toList))=false):=by
    rintro ⟨q1,q2⟩
    have:=hko.2 (i - 1) (by omega)
    rw [show i - 1+1=i by omega,show ((i - 1:Nat):Int)=(i:Int) - 1 by omega] at this
    rw [this] at q2
    cases q2
   have et:wrap64 (W+wrap64 (1+((rdOf ByteArray.empty f4 (i:Int)).size:Int)))=W+1+((rdOf ByteArray.empty f4 (i:Int)).size:Int):=by
    rw [X.w64 (1+((rdOf ByteArray.empty f4 (i:Int)).size:Int)) (by omega) (by omega),X.w64 _ (by omega) (by omega)]
    omega
   obtain ⟨D',e0,e1,m⟩:=child (W+1+((rdOf ByteArray.empty f4 (i:Int)).size:Int)) (by omega) (by omega)
   refine ⟨D',e0,e1, ?_⟩
   rw [show W+(qCG f0 f3 f4 i:Int)=W+1+((rdOf ByteArray.empty f4 (i:Int)).size:Int)+(wt x:Int)+(qCG f0 f3 f4 (i+1):Int) by omega]
   exact Ev.step m (fun k=>by rw [qAE.l,if_pos c,if_pos p,if_pos k5,if_pos q4,if_neg g1,if_neg g2,hx,ea,et,ei])
  ·rw [if_neg k5] at hrs
   obtain ⟨D',e0,e1,m⟩:=child W h2 (by omega)
   refine ⟨D',e0,e1, ?_⟩
   rw [show W+(qCG f0 f3 f4 i:Int)=W+(wt x:Int)+(qCG f0 f3 f4 (i+1):Int) by omega]
   exact Ev.step m (fun k=>by rw [qAE.l,if_pos c,if_pos p,if_neg k5,hx,ea,ei])
theorem mb.len_wt:∀ l:List S48,l.length≤(l.map wt).sum
 | []=>Nat.zero_le _
 | a :: l=>by
  have h1:1≤wt a:=by rw [wt_eq];omega
  have:=mb.len_wt l
  simp only [List.length_cons,List.map_cons,List.sum_cons]
  omega
theorem mb.len_ks:∀ l:List ByteArray,l.length≤(l.map fun s=>1+s.size).sum
 | []=>Nat.zero_le _
 | a :: l=>by
  have:=mb.len_ks l
  simp only [List.length_cons,List.map_cons,List.sum_cons]
  omega
theorem mb.meas_ok:∀ (d:Nat) (x:S48),mb.okV d x→∀ ar D W:Int,0≤ar→ar+d≤8→0≤D→D≤8→0≤W→W+(wt x:Int)≤2048→∃ D',0≤D'∧D'≤8∧Ev (fun k=>qAE.w k x.f0 x.f1 x.f2 x.f3 x.f4 ar D W) (true,D',W+(wt x:Int))
 | 0,x,h=>h.elim
 | d+1,x,h=>by
  intro ar D W h0 h1 h2 h3 h4 h5
  obtain ⟨hf,hk,hs⟩:=h
  have e0:=wt_eq x
  have l3:=mb.len_wt x.f3
  have l4:=mb.len_ks x.f4
  have hlen:=form_len (by omega) (by omega) hf
  have hkeys:((x.f4.map fun s=>1+s.size).sum:Nat)=if x.f0=5 then ((x.f4.drop 0).map fun s=>1+s.size).sum else 0:=by
   split
   ·simp
   ·rename_i k5
    have h40:x.f4=[]:=by
     rcases qCJ (by omega) (by omega) hf with z | z | z | z | z | z
     all_goals first | exact List.eq_nil_of_length_eq_zero z.2.2.2.2 | exact List.eq_nil_of_length_eq_zero z.2.2.2 | exact absurd z.1 k5
    rw [h40];rfl
  have e1:(wt x:Int)=1+(x.f2.size:Int)+(qCG x.f0 x.f3 x.f4 0:Int):=by
   rw [e0,hkeys]
   unfold qCG
   simp only [List.drop_zero]
   omega
  have ea:wrap64 (ar+1)=ar+1:=X.w64 _ (by omega) (by omega)
  have em:mn (x.f2.size:Int) 2048=(x.f2.size:Int):=by rw [mn_eq,if_neg (by omega)]
  have ew:wrap64 (W+wrap64 (1+mn (x.f2.size:Int) 2048))=W+1+(x.f2.size:Int):=by
   rw [em,X.w64 (1+(x.f2.size:Int)) (by omega) (by omega),X.w64 _ (by omega) (by omega)];omega
  have hm:=mb.mx_b (a:=ar+1) h2 h3 (by omega)
  obtain ⟨D',d0,d1,hl⟩:=mb.meas_l (mb.meas_ok d) x.f0 x.f1 x.f2 x.f3 x.f4 (by omega) hlen.1 hk hs ar h0 (by omega) x.f3.length 0 (by omega) (mx D (ar+1)) (W+1+(x.f2.size:Int)) hm.1 hm.2 (by omega) (by omega)
  refine ⟨D',d0,d1, ?_⟩
  rw [show W+(wt x:Int)=W+1+(x.f2.size:Int)+(qCG x.f0 x.f3 x.f4 0:Int) by omega]
  refine Ev.step hl (fun k => ?_)
  rw [qAE.w,ea,ew,if_neg (by omega),if_neg (by omega),qAa.f,hf]
  rfl
end
end Go.Proofs.Ytmehfnikecmiiaa.X
namespace Go.Proofs.Ytmehfnikecmiiaa.X
open Go.RowKit Go.Proofs.YtmehfnikecmiiaaW.PrintWords Go.Proofs.YtmehfnikecmiiaaW.PrintLast Go.Proofs.YtmehfnikecmiiaaW.PrintMore Go.Proofs.YtmehfnikecmiiaaW
section
set_option maxRecDepth 100000
open Go.Proofs.Ytmehfnikecmiiaa
theorem mb.at_app {bs l r:List Int} {a:Int} (h0:0≤a) (h:mb.at_ bs a=l ++ r):mb.at_ bs (a+(l.length:Int))=r:=by
 unfold mb.at_ at *
 rw [show (a+(l.length:Int)).toNat=a.toNat+l.length by omega,← List.drop_drop,h,List.drop_left]
theorem mb.at_len {bs l r:List Int} {a:Int} (h0:0≤a) (h:mb.at_ bs a=l ++ r) (hl:0 < l.length):a+(l.length:Int)+(r.length:Int)=(bs.length:Int):=by
 have:=congrArg List.length h
 unfold mb.at_ at this
 rw [List.length_drop,List.length_append] at this
 omega
theorem mb.uint_back {bs rest:List Int} {a v:Int} (h0:0≤a) (v0:0≤v) (v1:v < 18446744073709551616) (h:mb.at_ bs a=Pl.putU v ++ rest):Pl.qAW bs a=(v,a+((Pl.putU v).length:Int),0):=by
 have hp:0 < (Pl.putU v).length:=(Pl.puts_len 10 v).2 (by omega)
 have hl:=mb.at_len h0 h hp
 unfold Pl.qAW
 rw [if_neg (by omega)]
 unfold mb.at_ at h
 rw [h,Pl.putU_read v rest v0 v1]
 simp [Pl.fin]
theorem mb.byte_back {bs rest:List Int} {a c:Int} (h0:0≤a) (h:mb.at_ bs a=c :: rest):a < (bs.length:Int)∧rd bs a=c∧mb.at_ bs (a+1)=rest:=by
 have hl:=mb.at_len (l:=[c]) (r:=rest) h0 h (by simp)
 simp only [List.length_singleton] at hl
 have hlt:a < (bs.length:Int):=by omega
 have hc:=mb.at_cons h0 hlt
 rw [h] at hc
 injection hc with e1 e2
 exact ⟨hlt,e1.symm,e2.symm⟩
def mb.Bk (bs:List Int) (f:Int→Int→mb.R3 S48) (x:S48):Prop:=∀ (a l:Int) (rest:List Int),0≤a→mb.at_ bs a=en x ++ rest→(wt x:Int)≤l→l≤2048→f a l=.ok x (a+((en x).length:Int)) (l - (wt x:Int))
theorem mb.arr_back {bs:List Int} {f:Int→Int→mb.R3 S48}:∀ (xs:List S48),(∀ x ∈ xs,mb.Bk bs f x)→∀ (acc:List S48) (a l:Int) (rest:List Int),0≤a→mb.at_ bs a=(xs.map en).flatten ++ rest→((xs.map wt).sum:Int)≤l→l≤2048 →
  mb.arrL f xs.length acc a l=.ok (acc ++ xs) (a+(((xs.map en).flatten).length:Int)) (l - ((xs.map wt).sum:Int))
 | [],hf,acc,a,l,rest,h0,h,hw,hl=>by
  unfold mb.arrL
  simp
 | x :: xs,hf,acc,a,l,rest,h0,h,hw,hl=>by
  simp only [List.map_cons,List.flatten_cons,List.append_assoc] at h
  have hw':((wt x+(xs.map wt).sum:Nat):Int)≤l:=by simpa only [List.map_cons,List.sum_cons] using hw
  have hx:=hf x List.mem_cons_self a l _ h0 h (by omega) hl
  have h2:=mb.at_app h0 h
  have ih:=mb.arr_back xs (fun y hy=>hf y (List.mem_cons_of_mem _ hy)) (acc ++ [x]) (a+((en x).length:Int)) (l - (wt x:Int)) rest (by omega) h2 (by omega) (by omega)
  rw [List.length_cons,mb.arrL,hx]
  dsimp only
  rw [ih]
  simp only [List.map_cons,List.flatten_cons,List.sum_cons,List.length_append,List.append_assoc,List.cons_append,List.nil_append]
  congr 1 <;> omega
theorem mb.rdOf_app (ks qs:List ByteArray) (i:Nat) (h:i < ks.length):rdOf ByteArray.empty (ks ++ qs) (i:Int)=rdOf ByteArray.empty ks (i:Int):=by
 unfold rdOf
 rw [Int.toNat_natCast,List.getD_eq_getElem?_getD,List.getD_eq_getElem?_getD,List.getElem?_append_left h]
theorem mb.rdOf_mid (ks qs:List ByteArray) (k:ByteArray):rdOf ByteArray.empty (ks ++ k :: qs) ((ks.length:Nat):Int)=k:=by
 unfold rdOf
 rw [Int.toNat_natCast,List.getD_eq_getElem?_getD,List.getElem?_append_right (Nat.le_refl _),Nat.sub_self]
 rfl
theorem mb.key_back {bs rest:List Int} {ks qs:List ByteArray} {k:ByteArray} {a l:Int} (hk:mb.kOk (ks ++ k :: qs)) (h0:0≤a) (h:mb.at_ bs a=Pl.putU (k.size:Int) ++ (bytesOf k ++ rest)) (hl:1+(k.size:Int)≤l) :
  mb.keyS bs (Pl.qAW bs) ks a l=.ok k (a+((Pl.putU (k.size:Int)).length:Int)+(k.size:Int)) (l - (1+(k.size:Int))):=by
 have hsz:=hk.1 k (List.mem_append_right _ List.mem_cons_self)
 have hu:=mb.uint_back h0 (by omega) (by omega) h
 have hp:0 < (Pl.putU (k.size:Int)).length:=(Pl.puts_len 10 _).2 (by omega)
 have hlen:=mb.at_len h0 h hp
 have h2:=mb.at_app h0 h
 rw [List.length_append,Pl.qAm] at hlen
 have hs:strOfNums ((bs.drop (a+((Pl.putU (k.size:Int)).length:Int)).toNat).take ((k.size:Int)).toNat)=k:=by
  unfold mb.at_ at h2
  rw [h2,Int.toNat_natCast,List.take_append_of_le_length (by rw [Pl.qAm];exact Nat.le_refl _),List.take_of_length_le (by rw [Pl.qAm];exact Nat.le_refl _),Pl.qCc]
 unfold mb.keyS
 rw [hu]
 dsimp only
 rw [if_neg (by decide),if_neg (by omega),if_neg (by omega),hs,if_neg ?_,if_neg (by omega)]
 rintro ⟨q1,q2⟩
 refine q2 ?_
 have:=hk.2 (ks.length - 1) (by rw [List.length_append,List.length_cons];omega)
 rw [mb.rdOf_app ks _ _ (by omega),show ks.length - 1+1=ks.length by omega,mb.rdOf_mid,show ((ks.length - 1:Nat):Int)=(ks.length:Int) - 1 by omega] at this
 exact this
theorem mb.rec_back {bs:List Int} {f:Int→Int→mb.R3 S48}:∀ (xs:List S48) (qs:List ByteArray),qs.length=xs.length→(∀ x ∈ xs,mb.Bk bs f x)→∀ (ks:List ByteArray) (acc:List S48) (a l:Int) (rest:List Int),mb.kOk (ks ++ qs)→0≤a→mb.at_ bs a=recs (xs.map en) qs ++ rest→(((xs.map wt).sum+(qs.map fun s=>1+s.size).sum:Nat):Int)≤l→l≤2048 →
  mb.recL bs (Pl.qAW bs) f xs.length ks acc a l=.ok (ks ++ qs,acc ++ xs) (a+((recs (xs.map en) qs).length:Int)) (l - (((xs.map wt).sum+(qs.map fun s=>1+s.size).sum:Nat):Int))
 | [],[],hq,hf,ks,acc,a,l,rest,hk,h0,h,hw,hl=>by
  unfold mb.recL
  simp [recs]
 | [],_ :: _,hq,hf,ks,acc,a,l,rest,hk,h0,h,hw,hl=>by simp at hq
 | _ :: _,[],hq,hf,ks,acc,a,l,rest,hk,h0,h,hw,hl=>by simp at hq
 | x :: xs,k :: qs,hq,hf,ks,acc,a,l,rest,hk,h0,h,hw,hl=>by
  simp only [List.map_cons,recs,List.append_assoc] at h
  have hw':((wt x+(xs.map wt).sum+(1+k.size+(qs.map fun s=>1+s.size).sum):Nat):Int)≤l:=by simpa only [List.map_cons,List.sum_cons] using hw
  have hkk:=mb.key_back (l:=l) hk h0 h (by omega)
  have hsz:=hk.1 k (List.mem_append_right _ List.mem_cons_self)
  have h2:=mb.at_app h0 h
  have h3:=mb.at_app (by omega) h2
  rw [Pl.qAm] at h3
  have hx:=hf x List.mem_cons_self (a+((Pl.putU (k.size:Int)).length:Int)+(k.size:Int)) (l - (1+(k.size:Int))) _ (by omega) h3 (by omega) (by omega)
  have h4:=mb.at_app (by omega) h3
  have ih:=mb.rec_back xs qs (by simpa using hq) (fun y hy=>hf y (List.mem_cons_of_mem _ hy)) (ks ++ [k]) (acc ++ [x]) (a+((Pl.putU (k.size:Int)).length:Int)+(k.size:Int)+((en x).length:Int)) (l - (1+(k.size:Int)) - (wt x:Int)) rest (by rw [List.append_assoc];exact hk) (by omega) h4 (by omega) (by omega)
  rw [List.length_cons,mb.recL,hkk]
  dsimp only
  rw [hx]
  dsimp only
  rw [ih]
  simp only [List.map_cons,recs,List.sum_cons,List.length_append,List.append_assoc,List.cons_append,List.nil_append,Pl.qAm]
  congr 1 <;> omega
theorem mb.nil_str {f:ByteArray} (h:f.toList=[]):f=⟨#[]⟩:=Pl.toList_inj (by rw [h,mb.e_nil])
theorem mb.valS_back {bs:List Int}:∀ (d:Nat) (x:S48),Val x→mb.okV d x→mb.Bk bs (mb.valS bs (Pl.qAW bs) (Pl.qCX bs) d) x
 | 0,x,hv,h=>h.elim
 | d+1,x,hv,h=>by
  intro a l rest h0 hat hw hl
  obtain ⟨hf,hk,hs⟩:=h
  obtain ⟨_,a0,b0,a1,b1,h2,h3,h4,k4,k3⟩:=hv
  have hwx:=wt_eq x
  have hch:∀ y ∈ x.f3,mb.Bk bs (mb.valS bs (Pl.qAW bs) (Pl.qCX bs) d) y:=fun y hy=>mb.valS_back d y (k3 y hy) (hs y hy)
  have l3:=mb.len_wt x.f3
  have l4:=mb.len_ks x.f4
  obtain ⟨f0,f1,f2,f3,f4⟩:=x
  dsimp only at *
  rw [mb.valS_s]
  rcases qCJ h3 h4 hf with ⟨z,z1,z2,z3,z4⟩ | ⟨z,z1,z2,z3,z4⟩ | ⟨z,z2,z3,z4⟩ | ⟨z,z1,z3,z4⟩ | ⟨z,z1,z2,z4⟩ | ⟨z,z1,z2,z4⟩
  ·subst z;subst z1
   obtain rfl:=mb.nil_str z2
   obtain rfl:=List.eq_nil_of_length_eq_zero z3
   obtain rfl:=List.eq_nil_of_length_eq_zero z4
   rw [mb.qCb] at hw ⊢
   have hz:(⟨#[]⟩:ByteArray).size=0:=rfl
   rw [en0 rfl] at hat ⊢
   obtain ⟨hlt,hr,hat2⟩:=mb.byte_back h0 hat
   rw [hr,if_neg (by omega),if_neg (by omega),if_neg (by omega),if_neg (by omega),if_neg (by omega),if_neg (by omega),if_neg (by omega),if_neg (by omega)]
   rfl
  ·subst z
   obtain rfl:=mb.nil_str z2
   obtain rfl:=List.eq_nil_of_length_eq_zero z3
   obtain rfl:=List.eq_nil_of_length_eq_zero z4
   rw [mb.qCb] at hw ⊢
   have hz:(⟨#[]⟩:ByteArray).size=0:=rfl
   rw [en1 rfl] at hat ⊢
   obtain ⟨hlt,hr,hat2⟩:=mb.byte_back h0 hat
   dsimp only at hr
   rw [hr,if_neg (by omega),if_neg (by omega)]
   rcases z1 with z1 | z1
   ·subst z1
    rw [if_pos (by omega)];rfl
   ·subst z1
    rw [if_neg (by omega),if_pos (by omega)];rfl
  ·subst z
   obtain rfl:=mb.nil_str z2
   obtain rfl:=List.eq_nil_of_length_eq_zero z3
   obtain rfl:=List.eq_nil_of_length_eq_zero z4
   rw [mb.qCb] at hw ⊢
   have hz:(⟨#[]⟩:ByteArray).size=0:=rfl
   rw [en2 rfl] at hat ⊢
   obtain ⟨hlt,hr,hat2⟩:=mb.byte_back h0 hat
   dsimp only at hat2
   have hzz:=Pl.zz_range f1 a1 b1
   have hu:=mb.uint_back (by omega) hzz.1 hzz.2 hat2
   have hi:Pl.qCX bs (a+1)=(f1,a+1+((Pl.putU (Pl.zz f1)).length:Int),0):=by
    unfold Pl.qCX
    rw [hu]
    dsimp only
    rw [Pl.unzz_zz]
   rw [hr,if_neg (by omega),if_neg (by omega),if_neg (by omega),if_neg (by omega),if_pos (by omega),hi]
   dsimp only
   rw [if_neg (by decide)]
   simp only [List.length_cons]
   congr 1 <;> omega
  ·subst z;subst z1
   obtain rfl:=List.eq_nil_of_length_eq_zero z3
   obtain rfl:=List.eq_nil_of_length_eq_zero z4
   rw [mb.qCb] at hw ⊢
   rw [en3 rfl] at hat ⊢
   obtain ⟨hlt,hr,hat2⟩:=mb.byte_back h0 hat
   dsimp only at hat2
   replace hat2:=hat2.trans (List.append_assoc _ _ _)
   have hu:=mb.uint_back (by omega) (by omega) (by omega) hat2
   have hp:0 < (Pl.putU (f2.size:Int)).length:=(Pl.puts_len 10 _).2 (by omega)
   have hlen:=mb.at_len (by omega) hat2 hp
   have h3:=mb.at_app (by omega) hat2
   rw [List.length_append,Pl.qAm] at hlen
   have hs:strOfNums ((bs.drop (a+1+((Pl.putU (f2.size:Int)).length:Int)).toNat).take ((f2.size:Int)).toNat)=f2:=by
    unfold mb.at_ at h3
    rw [h3,Int.toNat_natCast,List.take_append_of_le_length (by rw [Pl.qAm];exact Nat.le_refl _),List.take_of_length_le (by rw [Pl.qAm];exact Nat.le_refl _),Pl.qCc]
   rw [hr,if_neg (by omega),if_neg (by omega),if_neg (by omega),if_neg (by omega),if_neg (by omega),if_pos (by omega),hu]
   dsimp only
   rw [if_neg (by decide),Int.ediv_one,if_neg (by omega),if_neg (by omega),hs]
   simp only [List.length_cons,List.length_append,Pl.qAm]
   congr 1 <;> omega
  ·subst z;subst z1
   obtain rfl:=mb.nil_str z2
   obtain rfl:=List.eq_nil_of_length_eq_zero z4
   have hz:(⟨#[]⟩:ByteArray).size=0:=rfl
   simp only [List.map_nil,List.sum_nil] at hwx
   rw [en4 rfl] at hat ⊢
   obtain ⟨hlt,hr,hat2⟩:=mb.byte_back h0 hat
   dsimp only at hat2
   replace hat2:=hat2.trans (List.append_assoc _ _ _)
   have hu:=mb.uint_back (by omega) (by omega) (by omega) hat2
   have h3:=mb.at_app (by omega) hat2
   have hA:=mb.arr_back f3 hch [] (a+1+((Pl.putU (f3.length:Int)).length:Int)) (l - 1) rest (by omega) h3 (by omega) (by omega)
   rw [hr,if_neg (by omega),if_neg (by omega),if_neg (by omega),if_neg (by omega),if_neg (by omega),if_neg (by omega),if_pos (by omega),hu]
   dsimp only
   rw [if_neg (by decide),Int.ediv_one,if_neg (by omega),Int.toNat_natCast,hA]
   unfold mb.arrV
   simp only [List.nil_append,List.length_cons,List.length_append]
   congr 1 <;> omega
  ·subst z;subst z1
   obtain rfl:=mb.nil_str z2
   have hz:(⟨#[]⟩:ByteArray).size=0:=rfl
   rw [en5 rfl] at hat ⊢
   obtain ⟨hlt,hr,hat2⟩:=mb.byte_back h0 hat
   dsimp only at hat2
   replace hat2:=hat2.trans (List.append_assoc _ _ _)
   have hu:=mb.uint_back (by omega) (by omega) (by omega) hat2
   have h3:=mb.at_app (by omega) hat2
   have hA:=mb.rec_back f3 f4 z4 hch [] [] (a+1+((Pl.putU (f3.length:Int)).length:Int)) (l - 1) rest (hk rfl) (by omega) h3 (by omega) (by omega)
   rw [hr,if_neg (by omega),if_neg (by omega),if_neg (by omega),if_neg (by omega),if_neg (by omega),if_neg (by omega),if_neg (by omega),if_pos (by omega),hu]
   dsimp only
   rw [if_neg (by decide),if_neg (by omega),Int.toNat_natCast,hA]
   unfold mb.recV
   simp only [List.nil_append,List.length_cons,List.length_append]
   congr 1 <;> omega
end
end Go.Proofs.Ytmehfnikecmiiaa.X
namespace Go.Proofs.Ytmehfnikecmiiaa.X
open Go.RowKit Go.Proofs.YtmehfnikecmiiaaW.PrintWords Go.Proofs.YtmehfnikecmiiaaW.PrintLast Go.Proofs.YtmehfnikecmiiaaW.PrintMore Go.Proofs.YtmehfnikecmiiaaW
section
set_option maxRecDepth 100000
open Go.Proofs.Ytmehfnikecmiiaa
theorem mb.mn_le {s:Nat} {W:Int} (h:¬ 2048 < W+1+mn (s:Int) 2048) (hW:0≤W):mn (s:Int) 2048=(s:Int)∧s≤2048:=by
 rw [mn_eq] at h ⊢
 split at h
 ·omega
 ·rename_i hn;rw [if_neg hn];omega
def mb.MW (K:Nat):Prop:=∀ (x:S48) (ar D W D' W':Int),Val x→0≤ar→ar≤8→0≤D→0≤W→W≤4096→qAE.w K x.f0 x.f1 x.f2 x.f3 x.f4 ar D W=some (true,D',W')→mb.okV (8 - ar).toNat x∧W+(wt x:Int)=W'∧W'≤2048∧0≤D'
def mb.ML (K:Nat):Prop:=∀ (f0 f1:Int) (f2:ByteArray) (f3:List S48) (f4:List ByteArray) (ar D W D' W':Int) (i:Nat),(∀ y ∈ f3,Val y)→f3.length≤9223372036854775807→(f0=5→f4.length=f3.length)→(∀ s ∈ f4,s.size≤9223372036854775807)→0≤ar→ar≤7→0≤D→0≤W→W≤2048→i≤f3.length→qAE.l K f0 f1 f2 f3 f4 ar D W (i:Int)=some (true,D',W') →
   (∀ y ∈ f3.drop i,mb.okV (7 - ar).toNat y)∧(f0=5→∀ j:Nat,i≤j→j < f4.length→(rdOf ByteArray.empty f4 (j:Int)).size≤32∧(0 < j→Op.bytesLess (rdOf ByteArray.empty f4 ((j:Int) - 1)).toList (rdOf ByteArray.empty f4 (j:Int)).toList=true))∧W+(qCG f0 f3 f4 i:Int)=W'∧W'≤2048∧0≤D'
set_option maxHeartbeats 2000000 in
theorem mb.meas_w {K:Nat} (ihl:mb.ML K):mb.MW (K+1):=by
 intro x ar D W D' W' hv h0 h1 h2 h3 h4 h
 obtain ⟨_,a0,b0,a1,b1,l2,l3,l4,k4,k3⟩:=hv
 have ea:wrap64 (ar+1)=ar+1:=X.w64 _ (by omega) (by omega)
 have hm:0≤mn (x.f2.size:Int) 2048∧mn (x.f2.size:Int) 2048≤2048:=by rw [mn_eq];split <;> omega
 have ew:wrap64 (W+wrap64 (1+mn (x.f2.size:Int) 2048))=W+1+mn (x.f2.size:Int) 2048:=by
  rw [X.w64 (1+mn (x.f2.size:Int) 2048) (by omega) (by omega),X.w64 _ (by omega) (by omega)];omega
 rw [qAE.w,ea,ew] at h
 by_cases c1:8 < mx D (ar+1)
 ·rw [if_pos c1] at h;cases h
 rw [if_neg c1] at h
 have ha:ar≤7:=by rw [mx_eq] at c1;split at c1 <;> omega
 have hm0:0≤mx D (ar+1):=by rw [mx_eq];split <;> omega
 by_cases c2:2048 < W+1+mn (x.f2.size:Int) 2048
 ·rw [if_pos c2] at h;cases h
 rw [if_neg c2] at h
 obtain ⟨e2,s2⟩:=mb.mn_le c2 h3
 rw [e2] at h c2
 rw [qAa.f,Option.bind_some] at h
 cases hf:qAa.b x.f0 x.f1 x.f2 x.f3.length x.f4.length with
 | false=>rw [hf,if_neg (by decide)] at h;cases h
 | true =>
  rw [hf,if_pos rfl] at h
  have hlen:=form_len l3 l4 hf
  obtain ⟨g1,g2,g3,g4,g5⟩:=ihl x.f0 x.f1 x.f2 x.f3 x.f4 ar (mx D (ar+1)) (W+1+(x.f2.size:Int)) D' W' 0 k3 l3 hlen.1 k4 h0 ha hm0 (by omega) (by omega) (Nat.zero_le _) h
  have hkeys:((x.f4.map fun s=>1+s.size).sum:Nat)=if x.f0=5 then ((x.f4.drop 0).map fun s=>1+s.size).sum else 0:=by
   split
   ·simp
   ·rename_i k5
    have h40:x.f4=[]:=by
     rcases qCJ l3 l4 hf with z | z | z | z | z | z
     all_goals first | exact List.eq_nil_of_length_eq_zero z.2.2.2.2 | exact List.eq_nil_of_length_eq_zero z.2.2.2 | exact absurd z.1 k5
    rw [h40];rfl
  have e1:(wt x:Int)=1+(x.f2.size:Int)+(qCG x.f0 x.f3 x.f4 0:Int):=by
   rw [wt_eq,hkeys]
   unfold qCG
   simp only [List.drop_zero]
   omega
  refine ⟨?_,by omega,g4,g5⟩
  rw [show (8 - ar).toNat=(7 - ar).toNat+1 by omega]
  refine ⟨hf,fun h5=>⟨fun s hs => ?_,fun i hi => ?_⟩,fun y hy=>g1 y (by rw [List.drop_zero];exact hy)⟩
  ·obtain ⟨j,hj,rfl⟩:=List.getElem_of_mem hs
   have:=(g2 h5 j (Nat.zero_le _) hj).1
   unfold rdOf at this
   rw [Int.toNat_natCast,List.getD_eq_getElem?_getD,List.getElem?_eq_getElem hj] at this
   exact this
  ·have:=(g2 h5 (i+1) (Nat.zero_le _) hi).2 (by omega)
   rw [show ((i+1:Nat):Int) - 1=(i:Int) by omega] at this
   exact this
set_option maxHeartbeats 2000000 in
theorem mb.meas_l2 {K:Nat} (ihw:mb.MW K) (ihl:mb.ML K):mb.ML (K+1):=by
 intro f0 f1 f2 f3 f4 ar D W D' W' i hv hl h45 hs h0 h1 h2 h3 h4 hi h
 rw [qAE.l] at h
 by_cases c:(i:Int) < (f3.length:Int)
 ·rw [if_pos c,if_pos (by omega)] at h
  have ei:wrap64 ((i:Int)+1)=((i+1:Nat):Int):=by rw [X.w64 _ (by omega) (by omega)];omega
  have ea:wrap64 (ar+1)=ar+1:=X.w64 _ (by omega) (by omega)
  have hrs:=wrest_succ f0 f3 f4 i (by omega) h45
  have hd:=at_drop f3 i (by omega)
  have hvx:=hv _ (at_mem f3 i (by omega))
  rw [hd]
  generalize hx:qAO f3 (i:Int)=x at hrs h hvx ⊢
  have key:∀ V:Int,0≤V→V≤4096→((qAE.w K x.f0 x.f1 x.f2 x.f3 x.f4 (ar+1) D V).bind fun r=>if r.1=true then qAE.l K f0 f1 f2 f3 f4 ar r.2.1 r.2.2 ((i+1:Nat):Int) else some (false,r.2.1,r.2.2))=some (true,D',W') →
    (∀ y ∈ x :: f3.drop (i+1),mb.okV (7 - ar).toNat y)∧(f0=5→∀ j:Nat,i+1≤j→j < f4.length→(rdOf ByteArray.empty f4 (j:Int)).size≤32∧(0 < j→Op.bytesLess (rdOf ByteArray.empty f4 ((j:Int) - 1)).toList (rdOf ByteArray.empty f4 (j:Int)).toList=true))∧V+(wt x:Int)+(qCG f0 f3 f4 (i+1):Int)=W'∧W'≤2048∧0≤D':=by
   intro V v0 v1 hh
   obtain ⟨r,hr,hh⟩:=Option.bind_eq_some_iff.1 hh
   obtain ⟨t,D1,W1⟩:=r
   dsimp only at hh
   cases t with
   | false=>rw [if_neg (by decide)] at hh;cases hh
   | true =>
    rw [if_pos rfl] at hh
    obtain ⟨q1,q2,q3,q4⟩:=ihw x (ar+1) D V D1 W1 hvx (by omega) (by omega) h2 v0 v1 hr
    obtain ⟨g1,g2,g3,g4,g5⟩:=ihl f0 f1 f2 f3 f4 ar D1 W1 D' W' (i+1) hv hl h45 hs h0 h1 q4 (by omega) q3 (by omega) hh
    refine ⟨fun y hy => ?_,g2,by omega,g4,g5⟩
    rcases List.mem_cons.1 hy with rfl | hy
    ·rw [show (8 - (ar+1)).toNat=(7 - ar).toNat by omega] at q1;exact q1
    ·exact g1 y hy
  by_cases k5:f0=5
  ·have q4:(i:Int) < (f4.length:Int):=by have:=h45 k5;omega
   rw [if_pos k5,if_pos q4] at h
   by_cases g1:32 < ((rdOf ByteArray.empty f4 (i:Int)).size:Int)
   ·rw [if_pos g1] at h;cases h
   rw [if_neg g1] at h
   by_cases g2:0 < (i:Int)∧(Op.bytesLess ((rdOf ByteArray.empty f4 ((i:Int) - 1)).toList) ((rdOf ByteArray.empty f4 (i:Int)).toList))=false
   ·rw [if_pos g2] at h;cases h
   rw [if_neg g2] at h
   have et:wrap64 (W+wrap64 (1+((rdOf ByteArray.empty f4 (i:Int)).size:Int)))=W+1+((rdOf ByteArray.empty f4 (i:Int)).size:Int):=by
    rw [X.w64 (1+((rdOf ByteArray.empty f4 (i:Int)).size:Int)) (by omega) (by omega),X.w64 _ (by omega) (by omega)]
    omega
   rw [et,ea,ei] at h
   obtain ⟨p1,p2,p3,p4,p5⟩:=key _ (by omega) (by omega) h
   rw [if_pos k5] at hrs
   refine ⟨p1,fun h5 j hj1 hj2 => ?_,by omega,p4,p5⟩
   by_cases hj:i+1≤j
   ·exact p2 h5 j hj hj2
   ·obtain rfl:j=i:=by omega
    refine ⟨by omega,fun hp => ?_⟩
    cases hb:Op.bytesLess ((rdOf ByteArray.empty f4 ((j:Int) - 1)).toList) ((rdOf ByteArray.empty f4 (j:Int)).toList) with
    | true=>rfl
    | false =>
      have hp2:(0:Int) < (j:Int):=Int.natCast_pos.2 hp
      exact (g2 ⟨hp2,hb⟩).elim
  ·rw [if_neg k5,ea,ei] at h
   obtain ⟨p1,p2,p3,p4,p5⟩:=key W h3 (by omega) h
   rw [if_neg k5] at hrs
   exact ⟨p1,fun h5=>absurd h5 k5,by omega,p4,p5⟩
 ·rw [if_neg c] at h
  injection h with h
  injection h with e1 e2
  injection e2 with e2 e3
  subst e2;subst e3
  have hi2:f3.length≤i:=by omega
  rw [List.drop_eq_nil_of_le hi2,wrest_end f0 f3 f4 i hi2 h45]
  exact ⟨fun y hy=>(by cases hy),fun h5 j hj1 hj2=>absurd (h45 h5) (by omega),by omega,h4,h2⟩
theorem mb.meas_inv:∀ K:Nat,mb.MW K∧mb.ML K
 | 0=>by
  constructor
  ·intro x ar D W D' W' hv h0 h1 h2 h3 h4 h
   rw [qAE.w] at h
   cases h
  ·intro f0 f1 f2 f3 f4 ar D W D' W' i hv hl h45 hs h0 h1 h2 h3 h4 hi h
   rw [qAE.l] at h
   cases h
 | K+1=>⟨mb.meas_w (mb.meas_inv K).2,mb.meas_l2 (mb.meas_inv K).1 (mb.meas_inv K).2⟩
theorem Ev.uniq {α:Type} {g:Nat→Option α} {r s:α} (h:Ev g r) (k:Ev g s):r=s:=by
 obtain ⟨K,hK⟩:=h
 obtain ⟨L,hL⟩:=k
 have h1:=hK (K+L) (by omega)
 have h2:=hL (K+L) (by omega)
 rw [h1] at h2
 exact Option.some.inj h2
def mb.Rt (x:S48):Prop:=mb.okV 8 x∧wt x≤2048
theorem mb.okV_frm:∀ (d:Nat) (x:S48),mb.okV d x→Frm x
 | 0,x,h=>h.elim
 | d+1,x,h=>.mk x h.1 (fun y hy=>mb.okV_frm d y (h.2.2 y hy))
theorem mb.told1 (x:S48) (hv:Val x):(mb.Rt x∧0 < wt x∧Ev (fun k=>qBB.f k x.f0 x.f1 x.f2 x.f3 x.f4) true∧Ev (fun k=>qBK.f k x.f0 x.f1 x.f2 x.f3 x.f4) (wt x:Int)) ∨
  (¬ mb.Rt x∧Ev (fun k=>qBB.f k x.f0 x.f1 x.f2 x.f3 x.f4) false∧Ev (fun k=>qBK.f k x.f0 x.f1 x.f2 x.f3 x.f4) 0):=by
 rcases good x hv 0 0 0 (by omega) (by omega) (by omega) (by omega) (by omega) (by omega) with ⟨D',W',d,m,r,q,hD,hd,hD8,hW0,hW1,hF,hw⟩ | ⟨D',W',m,r⟩
 ·left
  have hm:Ev (fun k=>qAE.f k x.f0 x.f1 x.f2 x.f3 x.f4) (W',D'):=Ev.bind m (by simpa using Ev.const)
  have hW:Ev (fun k=>qBK.f k x.f0 x.f1 x.f2 x.f3 x.f4) W':=Ev.bind hm Ev.const
  have hR:Ev (fun k=>qBB.f k x.f0 x.f1 x.f2 x.f3 x.f4) true:=Ev.bind hW (by rw [decide_eq_true (by omega)];exact Ev.const)
  obtain ⟨K,hK⟩:=m
  have hi:=(mb.meas_inv K).1 x 0 0 0 D' W' hv (by omega) (by omega) (by omega) (by omega) (by omega) (hK K (Nat.le_refl _))
  have he:W'=(wt x:Int):=by have:=hi.2.1;omega
  exact ⟨⟨hi.1,by omega⟩,by omega,hR,he▸hW⟩
 ·right
  have hm:Ev (fun k=>qAE.f k x.f0 x.f1 x.f2 x.f3 x.f4) (0,0):=Ev.bind m (by simpa using Ev.const)
  have hW:Ev (fun k=>qBK.f k x.f0 x.f1 x.f2 x.f3 x.f4) 0:=Ev.bind hm Ev.const
  have hR:Ev (fun k=>qBB.f k x.f0 x.f1 x.f2 x.f3 x.f4) false:=Ev.bind hW (by rw [decide_eq_false (by omega)];exact Ev.const)
  refine ⟨fun hc => ?_,hR,hW⟩
  obtain ⟨D2,_,_,hm2⟩:=mb.meas_ok 8 x hc.1 0 0 0 (by omega) (by omega) (by omega) (by omega) (by omega) (by have:=hc.2;omega)
  have:=m.uniq hm2
  injection this with e1 _
  cases e1
end
end Go.Proofs.Ytmehfnikecmiiaa.X
namespace Go.Proofs.Ytmehfnikecmiiaa.X
open Go.RowKit Go.Proofs.YtmehfnikecmiiaaW.PrintWords Go.Proofs.YtmehfnikecmiiaaW.PrintLast Go.Proofs.YtmehfnikecmiiaaW.PrintMore Go.Proofs.YtmehfnikecmiiaaW
section
set_option maxRecDepth 100000
open Go.Proofs.Ytmehfnikecmiiaa
theorem mb.uin_of {bs:List Int} (hb:Pl.Bytes bs) (hl:bs.length≤140737488351232):mb.Uin bs (Pl.qAW bs) (Pl.qCX bs) where
 U:=⟨24,fun a=>Pl.Uint_eq 24 (Nat.le_refl _) bs hb (by omega) a⟩
 I:=⟨24,fun a=>Pl.Int_eq 24 (Nat.le_refl _) bs hb (by omega) a⟩
 R:=fun a=>Pl.qA2 bs hb a
 N:=fun a h=>by have:=Pl.qBT bs hb a h;omega
 M:=fun a h=>by have:=Pl.qBT bs hb a h;show 0≤a∧a < (Pl.qAW bs a).2.1∧(Pl.qAW bs a).2.1≤bs.length;omega
 V:=fun a=>Pl.unzz_range _ (Pl.qA2 bs hb a).1 (Pl.qA2 bs hb a).2
 L:=hl
 B:=hb
def mb.sm:Nat→S48→Prop
 | 0,_=>False
 | d+1,x=>(0≤x.f0∧x.f0≤5)∧(-9223372036854775808≤x.f1∧x.f1≤9223372036854775807)∧x.f2.size≤2048∧x.f3.length≤2048∧x.f4.length≤2048∧(∀ s ∈ x.f4,s.size≤2048)∧∀ y ∈ x.f3,mb.sm d y
theorem mb.sm.val:∀ (d:Nat) {x:S48},mb.sm d x→Val x∧Siz x
 | 0,x,h=>h.elim
 | d+1,x,h=>by
  obtain ⟨h0,h1,h2,h3,h4,k4,k3⟩:=h
  exact ⟨.mk x (by omega) (by omega) h1.1 h1.2 (by omega) (by omega) (by omega) (fun s hs=>by have:=k4 s hs;omega) (fun y hy=>(mb.sm.val d (k3 y hy)).1),.mk x (by omega) (by omega) (by omega) (fun s hs=>by have:=k4 s hs;omega) (fun y hy=>(mb.sm.val d (k3 y hy)).2)⟩
theorem mb.arrL_sm {n:Nat} {p:S48→Prop} {f:Int→Int→mb.R3 S48} (hf:∀ (a l:Int) (x:S48) (a2 l2:Int),mb.Bd n a l→f a l=.ok x a2 l2→p x∧mb.Bd n a2 l2):∀ (k:Nat) (acc:List S48) (a l:Int) (vs:List S48) (a2 l2:Int),mb.Bd n a l→(∀ y ∈ acc,p y)→mb.arrL f k acc a l=.ok vs a2 l2→(∀ y ∈ vs,p y)∧vs.length=acc.length+k
 | 0,acc,a,l,vs,a2,l2,hb,hp,h=>by
  unfold mb.arrL at h
  injection h with e1 _ _
  subst e1;exact ⟨hp,rfl⟩
 | k+1,acc,a,l,vs,a2,l2,hb,hp,h=>by
  unfold mb.arrL at h
  rcases hfa:f a l with ⟨x,a1,l1⟩ | ⟨e,q⟩
  ·rw [hfa] at h
   have hx:=hf a l x a1 l1 hb hfa
   have:=mb.arrL_sm hf k (acc ++ [x]) a1 l1 vs a2 l2 hx.2 (fun y hy=>by
    rcases List.mem_append.1 hy with hy | hy
    ·exact hp y hy
    ·rw [List.mem_singleton.1 hy];exact hx.1) h
   refine ⟨this.1, ?_⟩
   rw [this.2,List.length_append,List.length_singleton]
   omega
  ·rw [hfa] at h;cases h
theorem mb.keyS_sm {bs:List Int} {u i:Int→Int × Int × Int} (hU:mb.Uin bs u i) {ks:List ByteArray} {a l a2 l2:Int} {k:ByteArray} (h:mb.keyS bs u ks a l=.ok k a2 l2):k.size≤2048:=by
 unfold mb.keyS at h
 by_cases h1:(u a).2.2 ≠ 0
 ·rw [if_pos h1] at h;cases h
 rw [if_neg h1] at h
 by_cases h2:(u a).1 > 32
 ·rw [if_pos h2] at h;cases h
 rw [if_neg h2] at h
 by_cases h3:(u a).1 > (bs.length:Int) - (u a).2.1
 ·rw [if_pos h3] at h;cases h
 rw [if_neg h3] at h
 dsimp only at h
 split at h
 ·cases h
 split at h
 ·cases h
 ·injection h with e1 e2 e3
  subst e1
  rw [mb.qBf,List.length_take]
  have:=(hU.R a).1
  omega
theorem mb.recL_sm {bs:List Int} {u i:Int→Int × Int × Int} (hU:mb.Uin bs u i) {p:S48→Prop} {f:Int→Int→mb.R3 S48} (hf:∀ (a l:Int) (x:S48) (a2 l2:Int),mb.Bd bs.length a l→f a l=.ok x a2 l2→p x∧mb.Bd bs.length a2 l2):∀ (k:Nat) (ks:List ByteArray) (acc:List S48) (a l:Int) (vs:List ByteArray × List S48) (a2 l2:Int),mb.Bd bs.length a l→(∀ y ∈ acc,p y)→(∀ s ∈ ks,s.size≤2048)→mb.recL bs u f k ks acc a l=.ok vs a2 l2→(∀ y ∈ vs.2,p y)∧vs.2.length=acc.length+k∧(∀ s ∈ vs.1,s.size≤2048)∧vs.1.length=ks.length+k
 | 0,ks,acc,a,l,vs,a2,l2,hb,hp,hk,h=>by
  unfold mb.recL at h
  injection h with e1 _ _
  subst e1;exact ⟨hp,rfl,hk,rfl⟩
 | k+1,ks,acc,a,l,vs,a2,l2,hb,hp,hk,h=>by
  unfold mb.recL at h
  rcases hka:mb.keyS bs u ks a l with ⟨kk,a1,l1⟩ | ⟨e,q⟩
  ·rw [hka] at h
   have hb1:mb.Bd bs.length a1 l1:=mb.keyS_b hU ⟨hb.2.2.1,hb.2.2.2⟩ hka
   have hks:=mb.keyS_sm hU hka
   dsimp only at h
   rcases hfa:f a1 l1 with ⟨x,a3,l3⟩ | ⟨e,q⟩
   ·rw [hfa] at h
    have hx:=hf a1 l1 x a3 l3 hb1 hfa
    have:=mb.recL_sm hU hf k (ks ++ [kk]) (acc ++ [x]) a3 l3 vs a2 l2 hx.2 (fun y hy=>by
     rcases List.mem_append.1 hy with hy | hy
     ·exact hp y hy
     ·rw [List.mem_singleton.1 hy];exact hx.1) (fun s hs=>by
     rcases List.mem_append.1 hs with hs | hs
     ·exact hk s hs
     ·rw [List.mem_singleton.1 hs];exact hks) h
    refine ⟨this.1, ?_,this.2.2.1, ?_⟩
    ·rw [this.2.1,List.length_append,List.length_singleton];omega
    ·rw [this.2.2.2,List.length_append,List.length_singleton];omega
   ·rw [hfa] at h;cases h
  ·rw [hka] at h;cases h
theorem mb.sm.mk {d:Nat} {f0 f1:Int} {f2:ByteArray} {f3:List S48} {f4:List ByteArray} (h0:0≤f0∧f0≤5) (h1 : -9223372036854775808≤f1∧f1≤9223372036854775807) (h2:f2.size≤2048) (h3:f3.length≤2048) (h4:f4.length≤2048) (k4:∀ s ∈ f4,s.size≤2048) (k3:∀ y ∈ f3,mb.sm d y):mb.sm (d+1) ⟨f0,f1,f2,f3,f4⟩:=⟨h0,h1,h2,h3,h4,k4,k3⟩
theorem mb.valS_sm {bs:List Int} {u i:Int→Int × Int × Int} (hU:mb.Uin bs u i):∀ (d:Nat) (a l:Int) (x:S48) (a2 l2:Int),mb.Bd bs.length a l→mb.valS bs u i d a l=.ok x a2 l2→mb.sm d x
 | 0,a,l,x,a2,l2,hb,h=>by
  rw [mb.valS] at h
  split at h <;> cases h
 | d+1,a,l,x,a2,l2,hb,h=>by
  rw [mb.valS_s] at h
  have hbb:=hb
  obtain ⟨b1,b2,b3,b4⟩:=hb
  have leaf:∀ {f0 f1:Int} {f2:ByteArray} {b m:Int},(0≤f0∧f0≤5)→(-9223372036854775808≤f1∧f1≤9223372036854775807)→f2.size≤2048→mb.R3.ok (⟨f0,f1,f2,[],[]⟩:S48) b m=.ok x a2 l2→mb.sm (d+1) x:=fun q0 q1 q2 h=>by
   injection h with e1 _ _
   subst e1
   exact mb.sm.mk q0 q1 q2 (Nat.zero_le _) (Nat.zero_le _) (fun s hs=>by cases hs) (fun y hy=>by cases hy)
  have nb:∀ {e q:Int},mb.R3.bad e q=.ok x a2 l2→mb.sm (d+1) x:=fun h=>by cases h
  have hz:(⟨#[]⟩:ByteArray).size≤2048:=by decide
  have ih:∀ (a l:Int) (x:S48) (a2 l2:Int),mb.Bd bs.length a l→mb.valS bs u i d a l=.ok x a2 l2→mb.sm d x∧mb.Bd bs.length a2 l2:=fun a l x a2 l2 q h=>⟨mb.valS_sm hU d a l x a2 l2 q h,mb.valS_b hU d a l x a2 l2 q h⟩
  by_cases h0:a=(bs.length:Int) ∨ rd bs a > 6
  ·rw [if_pos h0] at h;exact nb h
  rw [if_neg h0] at h
  by_cases h1:1 > l
  ·rw [if_pos h1] at h;exact nb h
  rw [if_neg h1] at h
  by_cases k1:rd bs a=1
  ·rw [if_pos k1] at h;exact leaf (by omega) (by omega) hz h
  rw [if_neg k1] at h
  by_cases k2:rd bs a=2
  ·rw [if_pos k2] at h;exact leaf (by omega) (by omega) hz h
  rw [if_neg k2] at h
  by_cases k3:rd bs a=3
  ·rw [if_pos k3] at h
   by_cases e1:(i (a+1)).2.2 ≠ 0
   ·rw [if_pos e1] at h;exact nb h
   ·rw [if_neg e1] at h;exact leaf (by omega) (hU.V _) hz h
  rw [if_neg k3] at h
  by_cases k4:rd bs a=4
  ·rw [if_pos k4] at h
   by_cases e1:(u (a+1)).2.2 ≠ 0
   ·rw [if_pos e1] at h;exact nb h
   rw [if_neg e1] at h
   by_cases e2:(l - 1) / 1 < (u (a+1)).1
   ·rw [if_pos e2] at h;exact nb h
   rw [if_neg e2] at h
   rw [Int.ediv_one] at e2
   by_cases e3:(bs.length:Int) - (u (a+1)).2.1 < (u (a+1)).1
   ·rw [if_pos e3] at h;exact nb h
   ·rw [if_neg e3] at h
    refine leaf (by omega) (by omega) ?_ h
    rw [mb.qBf,List.length_take]
    have:=(hU.R (a+1)).1
    omega
  rw [if_neg k4] at h
  by_cases k5:rd bs a=5
  ·rw [if_pos k5] at h
   by_cases e1:(u (a+1)).2.2 ≠ 0
   ·rw [if_pos e1] at h;exact nb h
   rw [if_neg e1] at h
   by_cases e2:(l - 1) / 1 < (u (a+1)).1
   ·rw [if_pos e2] at h;exact nb h
   rw [if_neg e2] at h
   rw [Int.ediv_one] at e2
   have hN:=hU.N (a+1) (Classical.byContradiction e1)
   rcases hL:mb.arrL (mb.valS bs u i d) (u (a+1)).1.toNat [] (u (a+1)).2.1 (l - 1) with ⟨vs,a3,l3⟩ | ⟨e,p⟩
   ·rw [hL] at h
    have hp:=mb.arrL_sm (p:=mb.sm d) ih _ _ _ _ _ _ _ ⟨by omega,by omega,by omega,by omega⟩ (fun y hy=>by cases hy) hL
    injection h with e1 _ _
    subst e1
    have hlen:vs.length≤2048:=by rw [hp.2];simp;omega
    exact mb.sm.mk (by decide) (by decide) hz hlen (Nat.zero_le _) (fun s hs=>by cases hs) hp.1
   ·rw [hL] at h;exact nb h
  rw [if_neg k5] at h
  by_cases k6:rd bs a=6
  ·rw [if_pos k6] at h
   by_cases e1:(u (a+1)).2.2 ≠ 0
   ·rw [if_pos e1] at h;exact nb h
   rw [if_neg e1] at h
   by_cases e2:(l - 1) / 2 < (u (a+1)).1
   ·rw [if_pos e2] at h;exact nb h
   rw [if_neg e2] at h
   have hN:=hU.N (a+1) (Classical.byContradiction e1)
   have hle:(l - 1) / 2≤l - 1:=Int.ediv_le_self _ (by omega)
   rcases hL:mb.recL bs u (mb.valS bs u i d) (u (a+1)).1.toNat [] [] (u (a+1)).2.1 (l - 1) with ⟨⟨ks,vs⟩,a3,l3⟩ | ⟨e,p⟩
   ·rw [hL] at h
    have hp:=mb.recL_sm hU (p:=mb.sm d) ih _ _ _ _ _ _ _ _ ⟨by omega,by omega,by omega,by omega⟩ (fun y hy=>by cases hy) (fun s hs=>by cases hs) hL
    injection h with e1 _ _
    subst e1
    have hlen:vs.length≤2048:=by have:=hp.2.1;simp at this;omega
    have hlen4:ks.length≤2048:=by have:=hp.2.2.2;simp at this;omega
    exact mb.sm.mk (by decide) (by decide) hz hlen hlen4 hp.2.2.1 hp.1
   ·rw [hL] at h;exact nb h
  rw [if_neg k6] at h
  exact leaf (by omega) (by omega) hz h
theorem mb.keyS_bad {bs:List Int} {u:Int→Int × Int × Int} {ks:List ByteArray} {a l e p:Int} (h:mb.keyS bs u ks a l=.bad e p):e=41 ∨ e=42:=by
 unfold mb.keyS at h
 by_cases h1:(u a).2.2 ≠ 0
 ·rw [if_pos h1] at h;injection h with h _;exact Or.inl h.symm
 rw [if_neg h1] at h
 by_cases h2:(u a).1 > 32
 ·rw [if_pos h2] at h;injection h with h _;exact Or.inl h.symm
 rw [if_neg h2] at h
 by_cases h3:(u a).1 > (bs.length:Int) - (u a).2.1
 ·rw [if_pos h3] at h;injection h with h _;exact Or.inl h.symm
 rw [if_neg h3] at h
 dsimp only at h
 split at h
 ·injection h with h _;exact Or.inl h.symm
 ·split at h
  ·injection h with h _;exact Or.inr h.symm
  ·cases h
theorem mb.takeS_ok {bs:List Int} (hb:Pl.Bytes bs) (hl:bs.length≤140737488351232) {at_:Int} {x:S48} {a2 l2:Int} (hr:mb.takeS bs (Pl.qAW bs) (Pl.qCX bs) at_=.ok x a2 l2) :
  Val x∧Siz x∧mb.Rt x∧0≤at_∧at_ < a2∧a2≤(bs.length:Int)∧bs.drop at_.toNat=en x ++ bs.drop a2.toNat∧a2 - at_=((en x).length:Int):=by
 have hU:=mb.uin_of hb hl
 unfold mb.takeS at hr
 by_cases h:at_ < 0 ∨ at_ > (bs.length:Int)
 ·rw [if_pos h] at hr
  cases hr
 rw [if_neg h] at hr
 have h0:0≤at_:=by
  have:¬ at_ < 0:=fun e=>h (Or.inl e)
  omega
 have h1:at_≤(bs.length:Int):=by
  have:¬ at_ > (bs.length:Int):=fun e=>h (Or.inr e)
  omega
 have hbd:mb.Bd bs.length at_ 2048:=⟨h0,h1,by omega,by omega⟩
 have hs:=mb.valS_sm hU 8 at_ 2048 x a2 l2 hbd hr
 have hv:=mb.sm.val 8 hs
 have hk:=mb.valS_ok hU 8 at_ 2048 x a2 l2 hr
 obtain ⟨q1,q2⟩:=mb.valS_en hb hl hU 8 at_ 2048 x a2 l2 hbd hr
 obtain ⟨p0,p1,p2,p3⟩:=mb.valS_b hU 8 at_ 2048 x a2 l2 hbd hr
 have hp:=en_pos x
 have ha:=mb.at_len h0 q1 hp
 have hal:(mb.at_ bs a2).length=bs.length - a2.toNat:=by unfold mb.at_;rw [List.length_drop]
 rw [hal] at ha
 exact ⟨hv.1,hv.2,⟨hk,by omega⟩,h0,by omega,p1,q1,by omega⟩
theorem mb.takeS_put (x:S48) (hv:Val x) (hr:mb.Rt x) (es ys zs:List Int) (h:es ++ (en x ++ ys)=zs):∃ l2,mb.takeS zs (Pl.qAW zs) (Pl.qCX zs) (es.length:Int)=.ok x ((es.length:Int)+((en x).length:Int)) l2:=by
 have hq:=mb.valS_back (bs:=zs) 8 x hv hr.1 (es.length:Int) 2048 ys (Int.natCast_nonneg _) (by unfold mb.at_;rw [Int.toNat_natCast,← h,List.drop_left'];rfl) (by have:=hr.2;omega) (by omega)
 have hl:es.length≤zs.length:=by rw [← h,List.length_append];omega
 unfold mb.takeS
 rw [if_neg (by omega),hq]
 exact ⟨_,rfl⟩
end
end Go.Proofs.Ytmehfnikecmiiaa.X
namespace Go.Proofs.Ytmehfnikecmiiaa.X
open Go.RowKit Go.Proofs.YtmehfnikecmiiaaW.PrintWords Go.Proofs.YtmehfnikecmiiaaW.PrintLast Go.Proofs.YtmehfnikecmiiaaW.PrintMore Go.Proofs.YtmehfnikecmiiaaW
section
set_option maxRecDepth 100000
open Go.Proofs.Ytmehfnikecmiiaa
def mb.Pb (n:Nat) (e p:Int):Prop:=(e=41 ∨ e=42)∧0≤p∧p≤(n:Int)
theorem mb.keyS_pl {bs:List Int} {u:Int→Int × Int × Int} {ks:List ByteArray} {a l e p:Int} (hb:mb.Bd bs.length a l) (h:mb.keyS bs u ks a l=.bad e p):mb.Pb bs.length e p:=by
 refine ⟨mb.keyS_bad h, ?_⟩
 have hp:p=a:=by
  unfold mb.keyS at h
  by_cases h1:(u a).2.2 ≠ 0
  ·rw [if_pos h1] at h;injection h with _ h;exact h.symm
  rw [if_neg h1] at h
  by_cases h2:(u a).1 > 32
  ·rw [if_pos h2] at h;injection h with _ h;exact h.symm
  rw [if_neg h2] at h
  by_cases h3:(u a).1 > (bs.length:Int) - (u a).2.1
  ·rw [if_pos h3] at h;injection h with _ h;exact h.symm
  rw [if_neg h3] at h
  dsimp only at h
  split at h
  ·injection h with _ h;exact h.symm
  ·split at h
   ·injection h with _ h;exact h.symm
   ·cases h
 rw [hp]
 exact ⟨hb.1,hb.2.1⟩
theorem mb.arrL_pl {n:Nat} {f:Int→Int→mb.R3 S48} (hf:∀ (a l:Int) (x:S48) (a2 l2:Int),mb.Bd n a l→f a l=.ok x a2 l2→mb.Bd n a2 l2) (hg:∀ a l e p,mb.Bd n a l→f a l=.bad e p→mb.Pb n e p):∀ (k:Nat) (acc:List S48) (a l e p:Int),mb.Bd n a l→mb.arrL f k acc a l=.bad e p→mb.Pb n e p
 | 0,acc,a,l,e,p,hb,h=>by
  unfold mb.arrL at h
  cases h
 | k+1,acc,a,l,e,p,hb,h=>by
  unfold mb.arrL at h
  rcases hfa:f a l with ⟨x,a1,l1⟩ | ⟨e1,q⟩
  ·rw [hfa] at h
   exact mb.arrL_pl hf hg k (acc ++ [x]) a1 l1 e p (hf a l x a1 l1 hb hfa) h
  ·rw [hfa] at h
   injection h with e2 e3
   rw [← e2,← e3]
   exact hg a l e1 q hb hfa
theorem mb.recL_pl {bs:List Int} {u i:Int→Int × Int × Int} (hU:mb.Uin bs u i) {f:Int→Int→mb.R3 S48} (hf:∀ (a l:Int) (x:S48) (a2 l2:Int),mb.Bd bs.length a l→f a l=.ok x a2 l2→mb.Bd bs.length a2 l2) (hg:∀ a l e p,mb.Bd bs.length a l→f a l=.bad e p→mb.Pb bs.length e p):∀ (k:Nat) (ks:List ByteArray) (acc:List S48) (a l e p:Int),mb.Bd bs.length a l→mb.recL bs u f k ks acc a l=.bad e p→mb.Pb bs.length e p
 | 0,ks,acc,a,l,e,p,hb,h=>by
  unfold mb.recL at h
  cases h
 | k+1,ks,acc,a,l,e,p,hb,h=>by
  unfold mb.recL at h
  rcases hk:mb.keyS bs u ks a l with ⟨x,a1,l1⟩ | ⟨e1,q⟩
  ·have hb1:mb.Bd bs.length a1 l1:=mb.keyS_b hU ⟨hb.2.2.1,hb.2.2.2⟩ hk
   rw [hk] at h
   dsimp only at h
   rcases hfa:f a1 l1 with ⟨y,a2,l2⟩ | ⟨e1,q⟩
   ·rw [hfa] at h
    exact mb.recL_pl hU hf hg k (ks ++ [x]) (acc ++ [y]) a2 l2 e p (hf a1 l1 y a2 l2 hb1 hfa) h
   ·rw [hfa] at h
    injection h with e2 e3
    rw [← e2,← e3]
    exact hg a1 l1 e1 q hb1 hfa
  ·rw [hk] at h
   injection h with e2 e3
   rw [← e2,← e3]
   exact mb.keyS_pl hb hk
theorem mb.countS_pl {n:Nat} {u:Int→Int × Int × Int} {t c a l e p:Int} (h0:0≤t) (h1:t≤(n:Int)) (h2:0≤a) (h3:a≤(n:Int)) (h:mb.qCY u t c a l=.bad e p):mb.Pb n e p:=by
 unfold mb.qCY at h
 split at h
 ·injection h with h k;subst h;subst k;exact ⟨Or.inl rfl,h2,h3⟩
 ·split at h
  ·injection h with h k;subst h;subst k;exact ⟨Or.inr rfl,h0,h1⟩
  ·cases h
theorem mb.countS_to {bs:List Int} {u i:Int→Int × Int × Int} (hU:mb.Uin bs u i) {t c a l n a1 l1:Int} (hl:0≤l∧l≤2048) (h:mb.qCY u t c a l=.ok n a1 l1):mb.Bd bs.length a1 l1:=by
 unfold mb.qCY at h
 split at h
 ·cases h
 ·rename_i h1
  split at h
  ·cases h
  ·injection h with e1 e2 e3
   have:=hU.N a (by simpa using h1)
   exact ⟨by omega,by omega,by omega,by omega⟩
theorem mb.valS_pl {bs:List Int} {u i:Int→Int × Int × Int} (hU:mb.Uin bs u i):∀ (d:Nat) (a l e p:Int),mb.Bd bs.length a l→mb.valS bs u i d a l=.bad e p→mb.Pb bs.length e p:=by
 intro d
 induction d with
 | zero =>
  intro a l e p hb h
  unfold mb.valS at h
  split at h
  ·injection h with h k;subst h;subst k;exact ⟨Or.inl rfl,hb.1,hb.2.1⟩
  ·injection h with h k;subst h;subst k;exact ⟨Or.inr rfl,hb.1,hb.2.1⟩
 | succ d ih =>
  intro a l e p hb h
  unfold mb.valS at h
  split at h
  ·injection h with h k;subst h;subst k;exact ⟨Or.inl rfl,hb.1,hb.2.1⟩
  rename_i hne
  have ha1:a+1≤(bs.length:Int):=by
   have h1:a ≠ (bs.length:Int):=fun q=>hne (Or.inl q)
   have:=hb.2.1
   omega
  have h0:=hb.1
  have hle:=hb.2.1
  dsimp only at h
  split at h
  ·injection h with h k;subst h;subst k;exact ⟨Or.inr rfl,hb.1,hb.2.1⟩
  rename_i hl1
  have hl:0≤l - 1∧l - 1≤2048:=⟨by omega,by have:=hb.2.2.2;omega⟩
  split at h
  ·cases h
  split at h
  ·cases h
  split at h
  ·split at h
   ·injection h with h k;subst h;subst k;exact ⟨Or.inl rfl,by omega,ha1⟩
   ·cases h
  split at h
  ·rcases hc:mb.qCY u a 1 (a+1) (l - 1) with ⟨x,a1,l1⟩ | ⟨e1,q⟩
   ·rw [hc] at h
    dsimp only at h
    split at h
    ·injection h with h k;subst h;subst k;exact ⟨Or.inl rfl,by omega,ha1⟩
    ·cases h
   ·rw [hc] at h
    injection h with e2 e3
    rw [← e2,← e3]
    exact mb.countS_pl h0 hle (by omega) ha1 hc
  split at h
  ·rcases hc:mb.qCY u a 1 (a+1) (l - 1) with ⟨x,a1,l1⟩ | ⟨e1,q⟩
   ·have hb1:=mb.countS_to hU hl hc
    rw [hc] at h
    dsimp only at h
    rcases hr:mb.arrL (mb.valS bs u i d) x.toNat [] a1 l1 with ⟨y,a2,l2⟩ | ⟨e1,q⟩
    ·rw [hr] at h;cases h
    ·rw [hr] at h
     injection h with e2 e3
     rw [← e2,← e3]
     exact mb.arrL_pl (mb.valS_b hU d) ih _ _ _ _ _ _ hb1 hr
   ·rw [hc] at h
    injection h with e2 e3
    rw [← e2,← e3]
    exact mb.countS_pl h0 hle (by omega) ha1 hc
  split at h
  ·rcases hc:mb.qCY u a 2 (a+1) (l - 1) with ⟨x,a1,l1⟩ | ⟨e1,q⟩
   ·have hb1:=mb.countS_to hU hl hc
    rw [hc] at h
    dsimp only at h
    rcases hr:mb.recL bs u (mb.valS bs u i d) x.toNat [] [] a1 l1 with ⟨y,a2,l2⟩ | ⟨e1,q⟩
    ·rw [hr] at h;cases h
    ·rw [hr] at h
     injection h with e2 e3
     rw [← e2,← e3]
     exact mb.recL_pl hU (mb.valS_b hU d) ih _ _ _ _ _ _ _ hb1 hr
   ·rw [hc] at h
    injection h with e2 e3
    rw [← e2,← e3]
    exact mb.countS_pl h0 hle (by omega) ha1 hc
  ·cases h
theorem mb.takeS_bad {bs:List Int} (hb:Pl.Bytes bs) (hl:bs.length≤140737488351232) {at_ e p:Int} (hr:mb.takeS bs (Pl.qAW bs) (Pl.qCX bs) at_=.bad e p):mb.Pb bs.length e p:=by
 unfold mb.takeS at hr
 by_cases h:at_ < 0 ∨ at_ > (bs.length:Int)
 ·rw [if_pos h] at hr
  injection hr with h k;subst h;subst k
  exact ⟨Or.inl rfl,Int.le_refl _,Int.natCast_nonneg _⟩
 rw [if_neg h] at hr
 have h0:0≤at_:=by
  have:¬ at_ < 0:=fun e=>h (Or.inl e)
  omega
 have h1:at_≤(bs.length:Int):=by
  have:¬ at_ > (bs.length:Int):=fun e=>h (Or.inr e)
  omega
 exact mb.valS_pl (mb.uin_of hb hl) 8 at_ 2048 e p ⟨h0,h1,by omega,by omega⟩ hr
end
end Go.Proofs.Ytmehfnikecmiiaa.X
namespace Go.Proofs.Ytmehfnikecmiiaa.X
open Go.RowKit Go.Proofs.YtmehfnikecmiiaaW.PrintWords Go.Proofs.YtmehfnikecmiiaaW.PrintLast Go.Proofs.YtmehfnikecmiiaaW.PrintMore Go.Proofs.YtmehfnikecmiiaaW
section
set_option maxHeartbeats 1000000
set_option maxRecDepth 100000
open Go.Proofs.Ytmehfnikecmiiaa Go.Proofs.Ytmehfnikecmiiaa.Pl
section
variable {P:Program} {ops:Array Oper} {Q:Exit→Act→World→Prop} {md:Region.Mode} {S:World→Prop} {ds:List Nat}
end
structure mb.CT (w0 W W':World) (g:Nat) (B:Option Addr) (n cb:Nat) (a c d:Int) (v0 v1 v2:Value) (m0:List S48) (m1:List S52) (m2:List S56) (x:S48) (xs:List Value) (bv:Nat) (cs:Array Value):Prop where
 rm:mb.RM w0 W' g (fun k=>k ≠ g∧k < W.heap.size) B n cb a c d v0 v1 v2 m0 m1 m2
 fr:mb.FrS W W'
 kt:mb.kt.M W' w0.heap.size (fun k=>W.heap.size≤k∧k ≠ bv) x xs
 bx:W'.heap[bv]?=some (.cells cs 48 (0,0))
 ge:W.heap.size≤bv
 lt:g < W.heap.size
theorem mb.kt_new {w w1:World} {base:Nat} (hb:base≤w.heap.size) {d:Nat} {x:S48} {v3 v4:Value} (h3:mb.VRow w1 (fun k=>w.heap.size≤k∧k < w1.heap.size) d v3 x.f3) (h4:mb.KRow w1 (fun k=>w.heap.size≤k∧k < w1.heap.size) v4 x.f4):mb.kt.M w1 base (fun k=>w.heap.size≤k) x [.int .i64 x.f0,.int .i64 x.f1,.string x.f2,v3,v4] :=
 ⟨d,v3,v4,rfl,mb.VRow.move (fun k hk=>⟨hk.1,Nat.le_trans hb hk.1,hk.2⟩) (fun k _ _=>rfl) d h3,h4.move (fun k hk=>⟨hk.1,Nat.le_trans hb hk.1,hk.2⟩) (fun k _ _=>rfl)⟩
def mb.cstF (bs:List Int) (a c d:Int) (m0:List S48):List S48 × Int × Int × Int :=
 match mb.takeS bs (qAW bs) (qCX bs) a with
 | .ok x a2 _=>(m0 ++ [x],a2,c,d)
 | .bad e p=>(m0,a,mb.flC c (if e=42 then 92 else 91),mb.flD c d p)
theorem mb.arr5 {cur:Array Value} {v0 v1 v2 v3 v4:Value} (hs:cur.size=5) (h:mb.grp cur 0 v0 v1 v2 v3 v4):cur=#[v0,v1,v2,v3,v4]:=by
 obtain ⟨h0,h1,h2,h3,h4⟩:=h
 apply Array.ext (by simp [hs])
 intro i hi _
 have hi:i < 5:=by omega
 have e:=Array.getElem?_eq_getElem (xs:=cur) (i:=i) (by omega)
 obtain rfl | rfl | rfl | rfl | rfl:i=0 ∨ i=1 ∨ i=2 ∨ i=3 ∨ i=4:=by omega
 all_goals (first | (rw [h0] at e;exact (Option.some.inj e).symm) | (simp only [Nat.zero_add] at h1 h2 h3 h4;first | (rw [h1] at e;exact (Option.some.inj e).symm) | (rw [h2] at e;exact (Option.some.inj e).symm) | (rw [h3] at e;exact (Option.some.inj e).symm) | (rw [h4] at e;exact (Option.some.inj e).symm)))
section
variable {w0 W W1 W2:World} {g:Nat} {B:Option Addr} {n cb:Nat} {a c d:Int} {v0 v1 v2:Value} {m0:List S48} {m1:List S52} {m2:List S56} {x:S48} {xs:List Value} {bv:Nat} {cs:Array Value}
theorem mb.CT.below (h:mb.CT w0 W W1 g B n cb a c d v0 v1 v2 m0 m1 m2 x xs bv cs) (hb:Below W1.heap.size W1 W2):mb.CT w0 W W2 g B n cb a c d v0 v1 v2 m0 m1 m2 x xs bv cs :=
 ⟨h.rm.below hb,h.fr.trans (mb.FrS.of_below hb),Kd.M_below h.kt hb,qAL h.bx hb,h.ge,h.lt⟩
theorem mb.CT.ofA (h:mb.RM w0 W1 g (fun k=>k ≠ g∧k < W.heap.size) B n cb a c d v0 v1 v2 m0 m1 m2) (hf:Below W.heap.size W W1) (hk:mb.kt.M W1 w0.heap.size (fun k=>W.heap.size≤k) x xs) (hg:g < W.heap.size):mb.CT w0 W (W1.alloc (.cells cs 48)) g B n cb a c d v0 v1 v2 m0 m1 m2 x xs W1.heap.size cs :=
 ⟨h.below (qAH (Below.refl _ _) _),(mb.FrS.of_below hf).trans (mb.FrS.of_below (qAH (Below.refl _ _) _)),Kd.M_below (mb.kt.M_mono (fun k hk=>⟨hk.1,by have:=hk.2.2.1;omega⟩) (mb.kt.M_bound hk)) (qAH (Below.refl _ _) _),by simpa using heap_alloc_new W1 _,hf.size,hg⟩
theorem mb.CT.ofB (h:mb.RM w0 W1 g (fun k=>k ≠ g∧k < W.heap.size) B n cb a c d v0 v1 v2 m0 m1 m2) (hf:Below (W.alloc (.cells cs 48)).heap.size (W.alloc (.cells cs 48)) W1) (hk:mb.kt.M W1 w0.heap.size (fun k=>(W.alloc (.cells cs 48)).heap.size≤k) x xs) (hg:g < W.heap.size):mb.CT w0 W W1 g B n cb a c d v0 v1 v2 m0 m1 m2 x xs W.heap.size cs:=by
 have hs:(W.alloc (.cells cs 48)).heap.size=W.heap.size+1:=Deep.nblk_alloc _ _
 exact ⟨h,(mb.FrS.of_below (qAH (Below.refl W.heap.size W) (.cells cs 48))).trans (mb.FrS.of_below hf),mb.kt.M_mono (fun k hk=>by rw [hs] at hk;exact ⟨by omega,by omega⟩) hk,qAL (by simpa using heap_alloc_new W _) hf,Nat.le_refl _,hg⟩
theorem mb.CT.laid {cs2:Array Value} (h:mb.CT w0 W W1 g B n cb a c d v0 v1 v2 m0 m1 m2 x xs bv cs) (h2:W2.heap[bv]?=some (.cells cs2 48 (0,0))) (hg:W1.grownBy W2 (some bv)):mb.CT w0 W W2 g B n cb a c d v0 v1 v2 m0 m1 m2 x xs bv cs2:=by
 have hgb:g ≠ bv:=by have:=h.lt;have:=h.ge;omega
 have hne:∀ k,(k ≠ g∧k < W.heap.size)→some k ≠ some bv:=fun k hk e=>by have:=Option.some.inj e;have:=h.ge;omega
 have hW:w0.heap.size≤bv:=by have:=h.rm.ge;have:=h.lt;have:=h.ge;omega
 refine ⟨⟨qAg h.rm.blk hg (fun e=>hgb (Option.some.inj e)),Kd.qCh h.rm.r0 hg hne,Kd.qCh h.rm.r1 hg hne,Kd.qCh h.rm.r2 hg hne,Below.grown h.rm.bel hg h.rm.bel.size (fun k e=>by rw [← Option.some.inj e];exact hW),h.rm.ge,h.rm.hk⟩,h.fr.trans (mb.FrS.grown hg (fun b e=>by rw [← Option.some.inj e];exact ⟨cs,48,h.bx,by decide⟩)),Kd.M_grown h.kt hg (fun k hk e=>hk.2 (Option.some.inj e)),h2,h.ge,h.lt⟩
end
structure mb.AP (w0 W W':World) (g:Nat) (B:Option Addr) (n cb:Nat) (a c d:Int) (vc vn v1 v2:Value) (ms:List S48) (m1:List S52) (m2:List S56) (x:S48) (xs:List Value) (bv:Nat):Prop where
 blk:W'.heap[g]?=some (.cells #[.slice B n cb,.int .i64 a,.int .i64 c,.int .i64 d,vc,v1,v2] 69 (0,0))
 row:mb.kt.R 48 W' w0.heap.size (fun k=>k ≠ g) vn ms
 r1:k52.R 52 W' w0.heap.size (fun k=>k ≠ g) v1 m1
 r2:k56.R 56 W' w0.heap.size (fun k=>k ≠ g) v2 m2
 bel:Below w0.heap.size w0 W'
 ge:w0.heap.size≤g
 kt:mb.kt.M W' w0.heap.size (fun k=>W.heap.size≤k∧some k ≠ vn.ownBlock) x xs
 bx:W'.heap[bv]?=some (.cells xs.toArray 48 (0,0))
 bn:some bv ≠ vn.ownBlock
 fr:mb.FrS W W'
 lt:g < W.heap.size
section
variable {w0 W W1 W2:World} {g:Nat} {B:Option Addr} {n cb:Nat} {a c d:Int} {v0 vc vn v1 v2:Value} {m0 ms ms2:List S48} {m1:List S52} {m2:List S56} {x z:S48} {xs:List Value} {bv:Nat}
theorem mb.AP.of (h:mb.CT w0 W W1 g B n cb a c d v0 v1 v2 m0 m1 m2 x xs bv xs.toArray) (hr:mb.kt.R 48 W2 w0.heap.size (fun k=>k ≠ g) vn ms) (hb:Below w0.heap.size w0 W2) (hg:W1.grownBy W2 v0.ownBlock) (hat:vn.ownBlock=v0.ownBlock ∨ ∃ b,vn.ownBlock=some b∧W1.heap.size≤b):mb.AP w0 W W2 g B n cb a c d v0 vn v1 v2 ms m1 m2 x xs bv:=by
 have h0:∀ k,v0.ownBlock=some k→k < W.heap.size:=fun k hk=>((Kd.qBv h.rm.r0).1 k hk).1.2
 have hno:∀ k,W.heap.size≤k→k < W1.heap.size→some k ≠ vn.ownBlock:=fun k h1 h2 e=>by
  rcases hat with e1 | ⟨b,e1,e2⟩
  ·have:=h0 k (by rw [← e1];exact e.symm);omega
  ·rw [e1] at e;have:=Option.some.inj e;omega
 have hlt:=qAX h.bx
 refine ⟨qAg h.rm.blk hg (Kd.qCF h.rm.r0 (fun k hk=>hk.1)),hr,Kd.qBd (mb.qBC h.rm.r1 h.rm.r0 hg (by decide)) (fun k hk=>hk.1),Kd.qBd (mb.qBC h.rm.r2 h.rm.r0 hg (by decide)) (fun k hk=>hk.1),hb,h.rm.ge, ?_,qAg h.bx hg (fun e=>by have:=h0 bv e.symm;have:=h.ge;omega),hno bv h.ge hlt,h.fr.trans (mb.FrS.grown hg (mb.own_t h.rm.r0 (by decide))),h.lt⟩
 exact mb.kt.M_mono (fun k hk=>⟨hk.1,hno k hk.1 hk.2⟩) (Kd.M_grown (mb.kt.M_mono (ok':=fun k=>W.heap.size≤k∧k < W1.heap.size) (fun k hk=>⟨hk.1.1,hk.2.2.1⟩) (mb.kt.M_bound h.kt)) hg (fun k hk e=>by have:=h0 k e.symm;omega))
theorem mb.AP.seg (h:mb.AP w0 W W1 g B n cb a c d vc vn v1 v2 ms m1 m2 x xs bv) (hr:mb.kt.R 48 W2 w0.heap.size (fun k=>k ≠ g) vn ms2) (hb:Below w0.heap.size w0 W2) (hg:W1.grownBy W2 vn.ownBlock):mb.AP w0 W W2 g B n cb a c d vc vn v1 v2 ms2 m1 m2 x xs bv :=
 ⟨qAg h.blk hg (Kd.qCF h.row (fun k hk=>hk)),hr,mb.qBC h.r1 h.row hg (by decide),mb.qBC h.r2 h.row hg (by decide),hb,h.ge,Kd.M_grown h.kt hg (fun k hk=>hk.2),qAg h.bx hg h.bn,h.bn,h.fr.trans (mb.FrS.grown hg (mb.own_t h.row (by decide))),h.lt⟩
theorem mb.AP.set4 (h:mb.AP w0 W W1 g B n cb a c d vc vn v1 v2 ms m1 m2 x xs bv) (hbv:bv ≠ g) (u:Value) (hu:u=vn):mb.AP w0 W (W1.setCell ⟨g,4,none⟩ u) g B n cb a c d vn vn v1 v2 ms m1 m2 x xs bv:=by
 subst hu
 exact ⟨qAx h.blk 4 _ rfl,Kd.qBL h.row (p:=⟨g,4,none⟩) (fun k hk=>hk) _,Kd.qBL h.r1 (p:=⟨g,4,none⟩) (fun k hk=>hk) _,Kd.qBL h.r2 (p:=⟨g,4,none⟩) (fun k hk=>hk) _,qAQ h.bel h.ge,h.ge,Kd.M_far h.kt (p:=⟨g,4,none⟩) (fun k hk=>by have:=h.lt;have:=hk.1;show k ≠ g;omega) _,(Below.heap_setCell W1 ⟨g,4,none⟩ _ bv hbv).trans h.bx,h.bn,h.fr.trans (mb.FrS.setX h.blk),h.lt⟩
theorem mb.AP.rm (h:mb.AP w0 W W1 g B n cb a c d vn vn v1 v2 ms m1 m2 x xs bv):mb.RM w0 W1 g (fun k=>k ≠ g) B n cb a c d vn v1 v2 ms m1 m2:=⟨h.blk,h.row,h.r1,h.r2,h.bel,h.ge,fun k hk=>hk⟩
end
set_option maxHeartbeats 8000000 in
theorem mb.constant56 {bs:List Int} (hb:Bytes bs) (hl:bs.length≤140737488351232) {w0 W:World} {g:Nat} {B:Option Addr} {cb:Nat} {a c d:Int} {v0 v1 v2:Value} {m0:List S48} {m1:List S52} {m2:List S56} (h:mb.RM w0 W g (fun k=>k ≠ g) B bs.length cb a c d v0 v1 v2 m0 m1 m2) (hC:(Kd.int .u8).C w0 B bs.length bs) (hcb:bs.length≤cb) (hn:m0.length≤1000)
  {m:List S48} {a2 c2 d2:Int} (q:mb.cstF bs a c d m0=(m,a2,c2,d2)) :
  Calls Try.prog 56 #[.pointer (some ⟨g,0,none⟩)] W fun en W'=>en=.returned (.tuple #[])∧(∃ v,mb.RM w0 W' g (fun k=>k ≠ g) B bs.length cb a2 c2 d2 v v1 v2 m m1 m2)∧mb.FrS W W':=by
 have hu69:=Try.underlying69
 have hu48:=Try.underlying48
 have hu27:=Try.underlying27
 have hu23:=Try.underlying23
 obtain ⟨A0,cc0,e0⟩:=Kd.qAZ h.r0
 subst e0
 obtain ⟨n,hnn⟩:∃ n,n=m0.length:=⟨_,rfl⟩
 rw [← hnn] at h
 have HNN:=qAA.mk hnn
 have HN:=qAA.mk hn
 have H:=qAA.mk h
 have HGW:=qAA.mk (qAX h.blk)
 have TK:∃ (x:S48) (p ee:Int),(∀ (W1:World),Below w0.heap.size w0 W1→Calls Try.prog 75 #[.slice B bs.length cb,.int .i64 a] W1 (fun e w'=>∃ (A3:Option Addr) (c3:Nat) (A4:Option Addr) (c4:Nat),e=.returned (.tuple #[.agg #[.int .i64 x.f0,.int .i64 x.f1,.string x.f2,.slice A3 x.f3.length c3,.slice A4 x.f4.length c4],.int .i64 p,.int .i64 ee])∧mb.kt.M w' w0.heap.size (fun k=>W1.heap.size≤k) x [.int .i64 x.f0,.int .i64 x.f1,.string x.f2,.slice A3 x.f3.length c3,.slice A4 x.f4.length c4]∧Below W1.heap.size W1 w'))∧((ee=0∧m0 ++ [x]=m∧p=a2∧c=c2∧d=d2) ∨ ((ee=41 ∨ ee=42)∧m0=m∧a=a2∧mb.flC c (if ee=42 then 92 else 91)=c2∧mb.flD c d p=d2)):=by
  unfold mb.cstF at q
  rcases hr:mb.takeS bs (qAW bs) (qCX bs) a with ⟨x,p,l2⟩ | ⟨ee,p⟩
  ·rw [hr] at q
   dsimp only at q
   simp only [Prod.mk.injEq] at q
   obtain ⟨rfl,rfl,rfl,rfl⟩:=q
   refine ⟨x,p,0,fun W1 hb1 => ?_,Or.inl ⟨rfl,rfl,rfl,rfl,rfl⟩⟩
   have h1:=mb.take1 (mb.uin_of hb hl) a (Kd.qAS hC hb1) hcb
   rw [hr] at h1
   refine h1.mono fun e w' k => ?_
   obtain ⟨v3,v4,he,k3,k4,hbl⟩:=k
   obtain ⟨A3,c3,e3,l3,C3⟩:=k3.C 8
   obtain ⟨A4,c4,e4,l4,C4⟩:=k4.C
   subst e3;subst e4
   exact ⟨A3,c3,A4,c4,he,mb.kt_new hb1.size k3 k4,hbl⟩
  ·have hbad:=mb.takeS_bad hb hl hr
   rw [hr] at q
   dsimp only at q
   simp only [Prod.mk.injEq] at q
   obtain ⟨rfl,rfl,rfl,rfl⟩:=q
   refine ⟨z48,p,ee,fun W1 hb1 => ?_,Or.inr ⟨hbad.1,rfl,rfl,rfl,rfl⟩⟩
   have h1:=mb.take1 (mb.uin_of hb hl) a (Kd.qAS hC hb1) hcb
   rw [hr] at h1
   refine h1.mono fun e w' k => ?_
   obtain ⟨he,hbl⟩:=k
   exact ⟨none,0,none,0,he,⟨1,.slice none 0 0,.slice none 0 0,rfl,Or.inl ⟨rfl,rfl⟩,Or.inl ⟨rfl,rfl⟩⟩,hbl⟩
 clear q h hC hcb hb hl hn hnn
 obtain ⟨x,p,ee,TK,hcase⟩:=TK
 have TK:=qAA.mk TK
 rcases hcase with ⟨rfl,rfl,rfl,rfl,rfl⟩ | ⟨hee,rfl,rfl,rfl,rfl⟩
 case inl =>
  go_enter Try.func56,Try.ntmps56
  go_wp2
  refine qAn (n:=17) (S:=fun w'=>w'.cell? ⟨g,0,none⟩=some (.slice B bs.length cb)∧w'.cell? ⟨g,1,none⟩=some (.int .i64 a)) (ds:=[]) #[qF,qF,qF,qF,qF,qF,qF,qF,qF,qF,qF,qF,qF,qF,qF,qF,qF] (by kernel_rfl) rfl rfl ⟨(qAB (show W.drew.heap[g]?=_ from H.out.blk) 0).trans rfl,(qAB (show W.drew.heap[g]?=_ from H.out.blk) 1).trans rfl⟩ (fun hHeld => ?_)
  generalize hwd:W.drew=wd at hHeld ⊢
  have Hd:=qAA.mk (hwd▸H.out.below (qAM (Below.refl _ _)))
  have F0:=qAA.mk (show mb.FrS W wd from hwd▸mb.FrS.of_below (qAM (Below.refl _ _)))
  have HGd:=qAA.mk (show g < wd.heap.size from hwd▸HGW.out)
  clear hwd
  refine pU 0 6 ?_
  refine pU 1 7 ?_
  refine pU 2 8 ?_
  refine pU 4 10 ?_
  refine pU 5 11 ?_
  refine pU 6 12 ?_
  refine tK 3 9 hHeld ?_
  refine tK 7 13 hHeld ?_
  refine two_ (i:=8) (j:=13) (Ni:=some 14) (Nj:=some 2) #[qT,qT,qT,qT,qT,qT,qT,qT,qT,qF,qF,qF,qF,qF,qF,qF,qF] #[qT,qT,qT,qT,qT,qT,qT,qT,qF,qF,qF,qF,qF,qT,qF,qF,qF] rfl rfl rfl rfl (by kernel_rfl) (by decide) (by decide) (fun K hK => ?_) (fun K hK => ?_)
  focus
   refine qBJ Try.func75 (by kernel_rfl) rfl #[.slice B bs.length cb,.int .i64 a] (by rfl) rfl rfl (by (try simp only [List.map_toArray,List.map_cons,List.map_nil]);first | done | rfl) ?_
   refine (TK.out wd Hd.out.bel).mono ?_
   rintro e w3 ⟨A3,c3,A4,c4,rfl,hk,hb⟩
   refine ⟨_,rfl, ?_⟩
   have H3:=qAA.mk (Hd.out.sharp.below hb)
   have KT3:=qAA.mk hk
   have B3:=qAA.mk hb
   clear hk hb
   refine hK.out _ _ ⟨(qAB H3.out.blk 0).trans rfl,(qAB H3.out.blk 1).trans rfl⟩ (fun hHeld => ?_)
   clear hK K
   refine qAi (a' := ?_) ?_ ?_
   rotate_left
   ·show Act.put _ (some 14) _=_
    simp only [Act.put,qs1,qs2,qs3,qAR,qAT]
    rfl
   refine pU 9 5 ?_
   refine pU 10 15 ?_
   refine pU 11 16 ?_
   refine pU 12 17 ?_
   refine one_ (i:=13) (N:=some 2) #[qT,qT,qT,qT,qT,qT,qT,qT,qT,qT,qT,qT,qT,qT,qF,qF,qF] rfl rfl (by kernel_rfl) (by decide) (fun K hK => ?_)
   refine qBO (w1 := ?_) (v := ?_) (by rfl) rfl ?_ ?_
   rotate_left 2
   ·go_simp
    constructor
    ·rfl
    ·rfl
   have CT5:=qAA.mk (mb.CT.ofA (cs:=#[.int .i64 0,.int .i64 0,.string ⟨#[]⟩,.slice none 0 0,.slice none 0 0]) H3.out B3.out KT3.out HGd.out)
   refine hK.out _ _ ⟨(qAB CT5.out.rm.blk 0).trans rfl,(qAB CT5.out.rm.blk 1).trans rfl⟩ (fun hHeld => ?_)
   clear hK K
   refine qAi (a' := ?_) ?_ ?_
   rotate_left
   ·show Act.put _ (some 2) _=_
    simp only [Act.put,qs1,qs2,qs3,qAR,qAT]
    rfl
   refine one_ (i:=14) (N:=none) #[qT,qT,qT,qT,qT,qT,qT,qT,qT,qT,qT,qT,qT,qT,qT,qF,qF] rfl rfl (by kernel_rfl) (by decide) (fun K hK => ?_)
   refine mb.st25 48 (by rfl) rfl 2 (.tmp 15) rfl (by kernel_rfl) (w3.heap.size) 0 rfl (.int .i64 x.f0) (.int .i64 x.f1) (.string x.f2) (.slice A3 x.f3.length c3) (.slice A4 x.f4.length c4) rfl ?hone _ 48 (Nat.le_refl _) CT5.out.bx ?_
   (case hone=>exact fun q_ hq_=>by simp at hq_;rcases hq_ with rfl | rfl | rfl | rfl | rfl <;> rfl)
   intro w6 cur_ k1 k2 k3 _ hgr
   have CT6:=qAA.mk (CT5.out.laid k1 hgr)
   rw [mb.arr5 k2 k3] at CT6
   clear k1 k2 k3 hgr CT5
   refine hK.out _ _ ⟨(qAB CT6.out.rm.blk 0).trans rfl,(qAB CT6.out.rm.blk 1).trans rfl⟩ (fun hHeld => ?_)
   clear hK K
   refine pU 15 3 ?_
   refine pU 16 4 ?_
   refine qA6 (by kernel_rfl) ?_
   generalize w3.heap.size=bv at *
  rotate_left
  focus
   refine qBO (w1 := ?_) (v := ?_) (by rfl) rfl ?_ ?_
   rotate_left 2
   ·go_simp
    constructor
    ·rfl
    ·rfl
   have H2:=qAA.mk (Hd.out.sharp.below (qAH (Below.refl wd.heap.size wd) (.cells #[.int .i64 0,.int .i64 0,.string ⟨#[]⟩,.slice none 0 0,.slice none 0 0] 48)))
   refine hK.out _ _ ⟨(qAB H2.out.blk 0).trans rfl,(qAB H2.out.blk 1).trans rfl⟩ (fun hHeld => ?_)
   clear hK K
   refine qAi (a' := ?_) ?_ ?_
   rotate_left
   ·show Act.put _ (some 2) _=_
    simp only [Act.put,qs1,qs2,qs3,qAR,qAT]
    rfl
   refine one_ (i:=8) (N:=some 14) #[qT,qT,qT,qT,qT,qT,qT,qT,qT,qF,qF,qF,qF,qT,qF,qF,qF] rfl rfl (by kernel_rfl) (by decide) (fun K hK => ?_)
   refine qBJ Try.func75 (by kernel_rfl) rfl #[.slice B bs.length cb,.int .i64 a] (by rfl) rfl rfl (by (try simp only [List.map_toArray,List.map_cons,List.map_nil]);first | done | rfl) ?_
   refine (TK.out _ H2.out.bel).mono ?_
   rintro e w3 ⟨A3,c3,A4,c4,rfl,hk,hb⟩
   refine ⟨_,rfl, ?_⟩
   have CT5:=qAA.mk (mb.CT.ofB (cs:=#[.int .i64 0,.int .i64 0,.string ⟨#[]⟩,.slice none 0 0,.slice none 0 0]) (H2.out.below hb) hb hk HGd.out)
   clear hk hb
   refine hK.out _ _ ⟨(qAB CT5.out.rm.blk 0).trans rfl,(qAB CT5.out.rm.blk 1).trans rfl⟩ (fun hHeld => ?_)
   clear hK K
   refine qAi (a' := ?_) ?_ ?_
   rotate_left
   ·show Act.put _ (some 14) _=_
    simp only [Act.put,qs1,qs2,qs3,qAR,qAT]
    rfl
   refine pU 9 5 ?_
   refine pU 10 15 ?_
   refine pU 11 16 ?_
   refine pU 12 17 ?_
   refine one_ (i:=14) (N:=none) #[qT,qT,qT,qT,qT,qT,qT,qT,qT,qT,qT,qT,qT,qT,qT,qF,qF] rfl rfl (by kernel_rfl) (by decide) (fun K hK => ?_)
   refine mb.st25 48 (by rfl) rfl 2 (.tmp 15) rfl (by kernel_rfl) (wd.heap.size) 0 rfl (.int .i64 x.f0) (.int .i64 x.f1) (.string x.f2) (.slice A3 x.f3.length c3) (.slice A4 x.f4.length c4) rfl ?hone _ 48 (Nat.le_refl _) CT5.out.bx ?_
   (case hone=>exact fun q_ hq_=>by simp at hq_;rcases hq_ with rfl | rfl | rfl | rfl | rfl <;> rfl)
   intro w6 cur_ k1 k2 k3 _ hgr
   have CT6:=qAA.mk (CT5.out.laid k1 hgr)
   rw [mb.arr5 k2 k3] at CT6
   clear k1 k2 k3 hgr CT5
   refine hK.out _ _ ⟨(qAB CT6.out.rm.blk 0).trans rfl,(qAB CT6.out.rm.blk 1).trans rfl⟩ (fun hHeld => ?_)
   clear hK K
   refine pU 15 3 ?_
   refine pU 16 4 ?_
   refine qA6 (by kernel_rfl) ?_
   generalize wd.heap.size=bv at *
  all_goals
   go_wp2
   have hk8:(n:Int) < (n:Int)+1:=by omega
   have hk9:((n:Int) < (n:Int)+1)=True:=eq_true hk8
   have hk0:(0:Int)≤(n:Int):=by omega
   have HBV:=qAA.mk (show bv ≠ g from by have:=CT6.out.ge;have:=HGd.out;have:=CT6.out.lt;omega)
   refine qAn (n:=15) (S:=fun w'=>w'.cell? ⟨bv,0,none⟩=some (.int .i64 x.f0)∧w'.cell? ⟨bv,1,none⟩=some (.int .i64 x.f1)∧w'.cell? ⟨bv,2,none⟩=some (.string x.f2)∧w'.cell? ⟨bv,3,none⟩=some (.slice A3 x.f3.length c3)∧w'.cell? ⟨bv,4,none⟩=some (.slice A4 x.f4.length c4)) (ds:=[]) #[qF,qF,qF,qF,qF,qF,qF,qF,qF,qF,qF,qF,qF,qF,qF] (by kernel_rfl) rfl rfl ⟨(qAB (qAJ CT6.out.bx) 0).trans rfl,(qAB (qAJ CT6.out.bx) 1).trans rfl,(qAB (qAJ CT6.out.bx) 2).trans rfl,(qAB (qAJ CT6.out.bx) 3).trans rfl,(qAB (qAJ CT6.out.bx) 4).trans rfl⟩ (fun hHeld => ?_)
   generalize hwd6:w6.drew=wd6 at hHeld ⊢
   have CTd:=qAA.mk (hwd6▸CT6.out.below (qAM (Below.refl _ _)))
   clear hwd6
   refine pU 0 24 ?_
   refine pU 1 25 ?_
   refine pU 2 26 ?_
   refine pU 3 27 ?_
   refine tK 5 29 hHeld ?_
   refine join_ (σ:=Unit) 7 #[qT,qT,qT,qT,qT,qT,qT,qT,qF,qF,qF,qF,qF,qF,qF] (fun _=>[(28,.slice A0 n cc0),(31,.slice (some ⟨wd6.heap.size,0,none⟩) 1 1),(30,.int .i64 (n:Int))]) (fun _ w'=>w'=wd6.alloc (.cells #[.int .i64 0,.int .i64 0,.string ⟨#[]⟩,.slice none 0 0,.slice none 0 0] 48)) ?_ ?_
   rotate_left
   ·intro hCont
    refine two_ (i:=4) (j:=7) (Ni:=some 28) (Nj:=some 31) #[qT,qT,qT,qT,qT,qT,qF,qF,qF,qF,qF,qF,qF,qF,qF] #[qT,qT,qT,qT,qF,qT,qF,qT,qF,qF,qF,qF,qF,qF,qF] rfl rfl rfl rfl (by kernel_rfl) (by decide) (by decide) (fun K hK => ?_) (fun K hK => ?_)
    ·skip
     have z4:wd6.cell? ⟨g,4,none⟩=some (.slice A0 n cc0):=(qAB CTd.out.rm.blk 4).trans rfl
     refine qBO (w1 := ?_) (v := ?_) (by rfl) rfl ?_ ?_
     rotate_left 2
     ·go_simp
      constructor
      ·rfl
      ·rfl
     clear z4
     refine hK.out _ _ ⟨(qAB CTd.out.bx 0).trans rfl,(qAB CTd.out.bx 1).trans rfl,(qAB CTd.out.bx 2).trans rfl,(qAB CTd.out.bx 3).trans rfl,(qAB CTd.out.bx 4).trans rfl⟩ (fun hHeld => ?_)
     clear hK K
     refine qAi (a' := ?_) ?_ ?_
     rotate_left
     ·show Act.put _ (some 28) _=_
      simp only [Act.put,qs1,qs2,qs3,qAR,qAT]
      rfl
     refine pU 6 30 ?_
     refine one_ (i:=7) (N:=some 31) #[qT,qT,qT,qT,qT,qT,qT,qT,qF,qF,qF,qF,qF,qF,qF] rfl rfl (by kernel_rfl) (by decide) (fun K hK => ?_)
     refine qBO (w1 := ?_) (v := ?_) (by rfl) rfl ?_ ?_
     rotate_left 2
     ·go_simp
      constructor
      ·rfl
      ·rfl
     refine hK.out _ _ ⟨(qAB (qAK CTd.out.bx _) 0).trans rfl,(qAB (qAK CTd.out.bx _) 1).trans rfl,(qAB (qAK CTd.out.bx _) 2).trans rfl,(qAB (qAK CTd.out.bx _) 3).trans rfl,(qAB (qAK CTd.out.bx _) 4).trans rfl⟩ (fun hHeld => ?_)
     clear hK K
     refine qAi (a' := ?_) ?_ ?_
     rotate_left
     ·show Act.put _ (some 31) _=_
      simp only [Act.put,qs1,qs2,qs3,qAR,qAT]
      rfl
     exact qAi (by simp only [putAll,Act.put,qs1,qs2,qs3]) (hCont () _ rfl)
    ·skip
     refine qBO (w1 := ?_) (v := ?_) (by rfl) rfl ?_ ?_
     rotate_left 2
     ·go_simp
      constructor
      ·rfl
      ·rfl
     refine hK.out _ _ ⟨(qAB (qAK CTd.out.bx _) 0).trans rfl,(qAB (qAK CTd.out.bx _) 1).trans rfl,(qAB (qAK CTd.out.bx _) 2).trans rfl,(qAB (qAK CTd.out.bx _) 3).trans rfl,(qAB (qAK CTd.out.bx _) 4).trans rfl⟩ (fun hHeld => ?_)
     clear hK K
     refine qAi (a' := ?_) ?_ ?_
     rotate_left
     ·show Act.put _ (some 31) _=_
      simp only [Act.put,qs1,qs2,qs3,qAR,qAT]
      rfl
     refine one_ (i:=4) (N:=some 28) #[qT,qT,qT,qT,qT,qT,qF,qT,qF,qF,qF,qF,qF,qF,qF] rfl rfl (by kernel_rfl) (by decide) (fun K hK => ?_)
     have z4:(wd6.alloc (.cells #[.int .i64 0,.int .i64 0,.string ⟨#[]⟩,.slice none 0 0,.slice none 0 0] 48)).cell? ⟨g,4,none⟩=some (.slice A0 n cc0):=(qAB (qAK CTd.out.rm.blk _) 4).trans rfl
     refine qBO (w1 := ?_) (v := ?_) (by rfl) rfl ?_ ?_
     rotate_left 2
     ·go_simp
      constructor
      ·rfl
      ·rfl
     clear z4
     refine hK.out _ _ ⟨(qAB (qAK CTd.out.bx _) 0).trans rfl,(qAB (qAK CTd.out.bx _) 1).trans rfl,(qAB (qAK CTd.out.bx _) 2).trans rfl,(qAB (qAK CTd.out.bx _) 3).trans rfl,(qAB (qAK CTd.out.bx _) 4).trans rfl⟩ (fun hHeld => ?_)
     clear hK K
     refine qAi (a' := ?_) ?_ ?_
     rotate_left
     ·show Act.put _ (some 28) _=_
      simp only [Act.put,qs1,qs2,qs3,qAR,qAT]
      rfl
     refine pU 6 30 ?_
     exact qAi (by simp only [putAll,Act.put,qs1,qs2,qs3]) (hCont () _ rfl)
   rintro _ w' rfl
   have hHeld:(wd6.alloc (.cells #[.int .i64 0,.int .i64 0,.string ⟨#[]⟩,.slice none 0 0,.slice none 0 0] 48)).cell? ⟨bv,0,none⟩=some (.int .i64 x.f0)∧(wd6.alloc (.cells #[.int .i64 0,.int .i64 0,.string ⟨#[]⟩,.slice none 0 0,.slice none 0 0] 48)).cell? ⟨bv,1,none⟩=some (.int .i64 x.f1)∧(wd6.alloc (.cells #[.int .i64 0,.int .i64 0,.string ⟨#[]⟩,.slice none 0 0,.slice none 0 0] 48)).cell? ⟨bv,2,none⟩=some (.string x.f2)∧(wd6.alloc (.cells #[.int .i64 0,.int .i64 0,.string ⟨#[]⟩,.slice none 0 0,.slice none 0 0] 48)).cell? ⟨bv,3,none⟩=some (.slice A3 x.f3.length c3)∧(wd6.alloc (.cells #[.int .i64 0,.int .i64 0,.string ⟨#[]⟩,.slice none 0 0,.slice none 0 0] 48)).cell? ⟨bv,4,none⟩=some (.slice A4 x.f4.length c4):=⟨(qAB (qAK CTd.out.bx _) 0).trans rfl,(qAB (qAK CTd.out.bx _) 1).trans rfl,(qAB (qAK CTd.out.bx _) 2).trans rfl,(qAB (qAK CTd.out.bx _) 3).trans rfl,(qAB (qAK CTd.out.bx _) 4).trans rfl⟩
   refine qAi (a' := ?_) ?_ ?_
   rotate_left
   ·simp only [putAll,Act.put,qs1,qs2,qs3]
    rfl
   refine one_ (i:=8) (N:=some 32) #[qT,qT,qT,qT,qT,qT,qT,qT,qT,qF,qF,qF,qF,qF,qF] rfl rfl (by kernel_rfl) (by decide) (fun K hK => ?_)
   refine Kd.qAq mb.kt (w0:=w0) w0.heap.size (by rfl) (.tmp 28) (.tmp 31) 23 48 (.agg #[.int .i64 0,.int .i64 0,.string ⟨#[]⟩,.slice none 0 0,.slice none 0 0]) 80 rfl Try.underlying23 info48 rfl (by decide) (by omega) (.slice A0 n cc0) m0 z48 [.int .i64 0,.int .i64 0,.string ⟨#[]⟩,.slice none 0 0,.slice none 0 0] (fun k=>k ≠ g) (fun _=>False) rfl rfl ?aM (fun _ q=>q.elim) ?aN ?aO ?aB ?aS ?aL ?_
   (case aM=>exact ⟨1,.slice none 0 0,.slice none 0 0,rfl,Or.inl ⟨rfl,rfl⟩,Or.inl ⟨rfl,rfl⟩⟩)
   (case aN=>exact fun k hk=>by have:=qAX CTd.out.rm.blk;omega)
   (case aO=>exact CTd.out.rm.weak.r0)
   (case aB=>exact CTd.out.rm.bel)
   (case aS=>exact CTd.out.rm.bel.size)
   (case aL=>have:=HN.out;omega)
   intro v11 w7 hr hb hg hat
   obtain ⟨b11,c11,e11,_⟩:=Kd.R_form hr (by simp)
   rw [show (m0 ++ [z48]).length=n+1 from by rw [HNN.out];simp] at e11
   subst e11
   have AP7:=qAA.mk (mb.AP.of (xs:=[.int .i64 x.f0,.int .i64 x.f1,.string x.f2,.slice A3 x.f3.length c3,.slice A4 x.f4.length c4]) CTd.out hr hb hg hat)
   clear hr hb hg hat
   refine hK.out _ _ ⟨(qAB AP7.out.bx 0).trans rfl,(qAB AP7.out.bx 1).trans rfl,(qAB AP7.out.bx 2).trans rfl,(qAB AP7.out.bx 3).trans rfl,(qAB AP7.out.bx 4).trans rfl⟩ (fun hHeld => ?_)
   clear hK K
   refine qAi (a' := ?_) ?_ ?_
   rotate_left
   ·show Act.put _ (some 32) _=_
    simp only [Act.put,qs1,qs2,qs3,qAR,qAT]
    rfl
   refine pU 9 33 ?_
   refine pU 11 34 ?_
   refine pU 12 35 ?_
   refine pU 13 36 ?_
   refine join_ (σ:=Unit) 0 #[qT,qT,qT,qT,qT,qT,qT,qT,qT,qT,qT,qT,qT,qT,qT] (fun _=>[]) (fun _ w'=>mb.AP w0 wd w' g B bs.length cb a c d (.slice (some ⟨b11,0,none⟩) (n+1) c11) (.slice (some ⟨b11,0,none⟩) (n+1) c11) v1 v2 (m0 ++ [x]) m1 m2 x [.int .i64 x.f0,.int .i64 x.f1,.string x.f2,.slice A3 x.f3.length c3,.slice A4 x.f4.length c4] bv) ?_ ?_
   rotate_left
   ·intro hCont
    refine two_ (i:=10) (j:=14) (Ni:=none) (Nj:=none) #[qT,qT,qT,qT,qT,qT,qT,qT,qT,qT,qT,qT,qT,qT,qF] #[qT,qT,qT,qT,qT,qT,qT,qT,qT,qT,qF,qT,qT,qT,qT] rfl rfl rfl rfl (by kernel_rfl) (by decide) (by decide) (fun K hK => ?_) (fun K hK => ?_)
    ·skip
     obtain ⟨cz,hcl,_,hcc,_⟩:=Kd.R_elem AP7.out.row z48 (n:Int) hk0 (by omega)
     refine mb.store_seg mb.kt (w0:=w0) w0.heap.size (by rfl) rfl 48 (.tmp 33) (.tmp 29) rfl 48 (n:Int) (m0 ++ [z48]) x (.agg #[.int .i64 x.f0,.int .i64 x.f1,.string x.f2,.slice A3 x.f3.length c3,.slice A4 x.f4.length c4]) [.int .i64 x.f0,.int .i64 x.f1,.string x.f2,.slice A3 x.f3.length c3,.slice A4 x.f4.length c4] cz (fun k=>k ≠ g) (fun k=>wd.heap.size≤k∧some k ≠ some b11) ?haddr rfl (by simp [Value.cells]) (by kernel_rfl) ?hone rfl AP7.out.row hk0 (by omega) hcl hcc ?hM ?hk AP7.out.bel ?_
     (case haddr=>first | rfl | (show Value.pointer _=_;simp [add_plain,Addr.add]))
     (case hone=>exact fun q_ hq_=>by simp at hq_;rcases hq_ with rfl | rfl | rfl | rfl | rfl <;> rfl)
     (case hM=>exact AP7.out.kt)
     (case hk=>exact fun k hk=>⟨by have:=AP7.out.lt;omega,fun e=>hk.2 (by rw [e])⟩)
     intro w9 hr9 hb9 hg9
     rw [show (m0 ++ [z48]).set ((n:Int)).toNat x=m0 ++ [x] from by rw [Int.toNat_natCast,HNN.out];simp] at hr9
     have APa:=qAA.mk (AP7.out.seg hr9 hb9 hg9)
     clear hcl hcc hr9 hb9 hg9
     refine hK.out _ _ ⟨(qAB APa.out.bx 0).trans rfl,(qAB APa.out.bx 1).trans rfl,(qAB APa.out.bx 2).trans rfl,(qAB APa.out.bx 3).trans rfl,(qAB APa.out.bx 4).trans rfl⟩ (fun hHeld => ?_)
     clear hK K
     refine one_ (i:=14) (N:=none) #[qT,qT,qT,qT,qT,qT,qT,qT,qT,qT,qT,qT,qT,qT,qT] rfl rfl (by kernel_rfl) (by decide) (fun K hK => ?_)
     have s4:=(qAB APa.out.blk 4).trans rfl
     have s4f:=qAC APa.out.blk 4
     refine qCH (w1 := ?_) (by rfl) rfl ?_ ?_
     rotate_left
     ·go_simp
      rfl
     clear s4 s4f
     have APb:=qAA.mk (APa.out.set4 HBV.out (.slice (some ⟨b11,0,none⟩) (n+1) c11) rfl)
     refine hK.out _ _ ⟨(qAB APb.out.bx 0).trans rfl,(qAB APb.out.bx 1).trans rfl,(qAB APb.out.bx 2).trans rfl,(qAB APb.out.bx 3).trans rfl,(qAB APb.out.bx 4).trans rfl⟩ (fun hHeld => ?_)
     clear hK K
     exact qAi (by simp only [putAll,Act.put,qs1,qs2,qs3]) (hCont () _ APb.out)
    ·skip
     have s4:=(qAB AP7.out.blk 4).trans rfl
     have s4f:=qAC AP7.out.blk 4
     refine qCH (w1 := ?_) (by rfl) rfl ?_ ?_
     rotate_left
     ·go_simp
      rfl
     clear s4 s4f
     have APc:=qAA.mk (AP7.out.set4 HBV.out (.slice (some ⟨b11,0,none⟩) (n+1) c11) rfl)
     refine hK.out _ _ ⟨(qAB APc.out.bx 0).trans rfl,(qAB APc.out.bx 1).trans rfl,(qAB APc.out.bx 2).trans rfl,(qAB APc.out.bx 3).trans rfl,(qAB APc.out.bx 4).trans rfl⟩ (fun hHeld => ?_)
     clear hK K
     refine one_ (i:=10) (N:=none) #[qT,qT,qT,qT,qT,qT,qT,qT,qT,qT,qT,qT,qT,qT,qT] rfl rfl (by kernel_rfl) (by decide) (fun K hK => ?_)
     obtain ⟨cz,hcl,_,hcc,_⟩:=Kd.R_elem APc.out.row z48 (n:Int) hk0 (by omega)
     refine mb.store_seg mb.kt (w0:=w0) w0.heap.size (by rfl) rfl 48 (.tmp 33) (.tmp 29) rfl 48 (n:Int) (m0 ++ [z48]) x (.agg #[.int .i64 x.f0,.int .i64 x.f1,.string x.f2,.slice A3 x.f3.length c3,.slice A4 x.f4.length c4]) [.int .i64 x.f0,.int .i64 x.f1,.string x.f2,.slice A3 x.f3.length c3,.slice A4 x.f4.length c4] cz (fun k=>k ≠ g) (fun k=>wd.heap.size≤k∧some k ≠ some b11) ?haddr rfl (by simp [Value.cells]) (by kernel_rfl) ?hone rfl APc.out.row hk0 (by omega) hcl hcc ?hM ?hk APc.out.bel ?_
     (case haddr=>first | rfl | (show Value.pointer _=_;simp [add_plain,Addr.add]))
     (case hone=>exact fun q_ hq_=>by simp at hq_;rcases hq_ with rfl | rfl | rfl | rfl | rfl <;> rfl)
     (case hM=>exact APc.out.kt)
     (case hk=>exact fun k hk=>⟨by have:=APc.out.lt;omega,fun e=>hk.2 (by rw [e])⟩)
     intro w9 hr9 hb9 hg9
     rw [show (m0 ++ [z48]).set ((n:Int)).toNat x=m0 ++ [x] from by rw [Int.toNat_natCast,HNN.out];simp] at hr9
     have APd:=qAA.mk (APc.out.seg hr9 hb9 hg9)
     clear hcl hcc hr9 hb9 hg9
     refine hK.out _ _ ⟨(qAB APd.out.bx 0).trans rfl,(qAB APd.out.bx 1).trans rfl,(qAB APd.out.bx 2).trans rfl,(qAB APd.out.bx 3).trans rfl,(qAB APd.out.bx 4).trans rfl⟩ (fun hHeld => ?_)
     clear hK K
     exact qAi (by simp only [putAll,Act.put,qs1,qs2,qs3]) (hCont () _ APd.out)
   rintro _ w' hap
   have AP9:=qAA.mk hap
   have hHeld:w'.cell? ⟨bv,0,none⟩=some (.int .i64 x.f0)∧w'.cell? ⟨bv,1,none⟩=some (.int .i64 x.f1)∧w'.cell? ⟨bv,2,none⟩=some (.string x.f2)∧w'.cell? ⟨bv,3,none⟩=some (.slice A3 x.f3.length c3)∧w'.cell? ⟨bv,4,none⟩=some (.slice A4 x.f4.length c4):=⟨(qAB AP9.out.bx 0).trans rfl,(qAB AP9.out.bx 1).trans rfl,(qAB AP9.out.bx 2).trans rfl,(qAB AP9.out.bx 3).trans rfl,(qAB AP9.out.bx 4).trans rfl⟩
   clear hap
   refine qAi (a' := ?_) ?_ ?_
   rotate_left
   ·simp only [putAll,Act.put,qs1,qs2,qs3]
    rfl
   refine qA6 (by kernel_rfl) ?_
   have x1:=(qAB AP9.out.blk 1).trans rfl
   have x1f:=qAC AP9.out.blk 1
   go_wp2
   clear x1 x1f
   first | go_end0 | ((try simp only [Exit.inBlock,Exit.then]);refine bodyPost_ret (results_none rfl _ _ _) rfl ?_)
   exact ⟨rfl,⟨_,AP9.out.rm.seta p⟩,(F0.out.trans AP9.out.fr).trans (mb.FrS.setX AP9.out.blk)⟩
 have d1:(ee == 0)=false:=beq_eq_false_iff_ne.2 (by omega)
 have d2:decide (ee=0)=false:=decide_eq_false (by omega)
 rcases hee with rfl | rfl
 ·rw [if_neg (by decide)]
  clear d1 d2
  go_enter Try.func56,Try.ntmps56
  go_wp2
  refine qAn (n:=17) (S:=fun w'=>w'.cell? ⟨g,0,none⟩=some (.slice B bs.length cb)∧w'.cell? ⟨g,1,none⟩=some (.int .i64 a)) (ds:=[]) #[qF,qF,qF,qF,qF,qF,qF,qF,qF,qF,qF,qF,qF,qF,qF,qF,qF] (by kernel_rfl) rfl rfl ⟨(qAB (show W.drew.heap[g]?=_ from H.out.blk) 0).trans rfl,(qAB (show W.drew.heap[g]?=_ from H.out.blk) 1).trans rfl⟩ (fun hHeld => ?_)
  generalize hwd:W.drew=wd at hHeld ⊢
  have Hd:=qAA.mk (hwd▸H.out.below (qAM (Below.refl _ _)))
  have F0:=qAA.mk (show mb.FrS W wd from hwd▸mb.FrS.of_below (qAM (Below.refl _ _)))
  have HGd:=qAA.mk (show g < wd.heap.size from hwd▸HGW.out)
  clear hwd
  refine pU 0 6 ?_
  refine pU 1 7 ?_
  refine pU 2 8 ?_
  refine pU 4 10 ?_
  refine pU 5 11 ?_
  refine pU 6 12 ?_
  refine tK 3 9 hHeld ?_
  refine tK 7 13 hHeld ?_
  refine two_ (i:=8) (j:=13) (Ni:=some 14) (Nj:=some 2) #[qT,qT,qT,qT,qT,qT,qT,qT,qT,qF,qF,qF,qF,qF,qF,qF,qF] #[qT,qT,qT,qT,qT,qT,qT,qT,qF,qF,qF,qF,qF,qT,qF,qF,qF] rfl rfl rfl rfl (by kernel_rfl) (by decide) (by decide) (fun K hK => ?_) (fun K hK => ?_)
  focus
   refine qBJ Try.func75 (by kernel_rfl) rfl #[.slice B bs.length cb,.int .i64 a] (by rfl) rfl rfl (by (try simp only [List.map_toArray,List.map_cons,List.map_nil]);first | done | rfl) ?_
   refine (TK.out wd Hd.out.bel).mono ?_
   rintro e w3 ⟨A3,c3,A4,c4,rfl,hk,hb⟩
   refine ⟨_,rfl, ?_⟩
   have H3:=qAA.mk (Hd.out.sharp.below hb)
   have KT3:=qAA.mk hk
   have B3:=qAA.mk hb
   clear hk hb
   refine hK.out _ _ ⟨(qAB H3.out.blk 0).trans rfl,(qAB H3.out.blk 1).trans rfl⟩ (fun hHeld => ?_)
   clear hK K
   refine qAi (a' := ?_) ?_ ?_
   rotate_left
   ·show Act.put _ (some 14) _=_
    simp only [Act.put,qs1,qs2,qs3,qAR,qAT]
    rfl
   refine pU 9 5 ?_
   refine pU 10 15 ?_
   refine pU 11 16 ?_
   refine pU 12 17 ?_
   refine one_ (i:=13) (N:=some 2) #[qT,qT,qT,qT,qT,qT,qT,qT,qT,qT,qT,qT,qT,qT,qF,qF,qF] rfl rfl (by kernel_rfl) (by decide) (fun K hK => ?_)
   refine qBO (w1 := ?_) (v := ?_) (by rfl) rfl ?_ ?_
   rotate_left 2
   ·go_simp
    constructor
    ·rfl
    ·rfl
   have CT5:=qAA.mk (mb.CT.ofA (cs:=#[.int .i64 0,.int .i64 0,.string ⟨#[]⟩,.slice none 0 0,.slice none 0 0]) H3.out B3.out KT3.out HGd.out)
   refine hK.out _ _ ⟨(qAB CT5.out.rm.blk 0).trans rfl,(qAB CT5.out.rm.blk 1).trans rfl⟩ (fun hHeld => ?_)
   clear hK K
   refine qAi (a' := ?_) ?_ ?_
   rotate_left
   ·show Act.put _ (some 2) _=_
    simp only [Act.put,qs1,qs2,qs3,qAR,qAT]
    rfl
   refine one_ (i:=14) (N:=none) #[qT,qT,qT,qT,qT,qT,qT,qT,qT,qT,qT,qT,qT,qT,qT,qF,qF] rfl rfl (by kernel_rfl) (by decide) (fun K hK => ?_)
   refine mb.st25 48 (by rfl) rfl 2 (.tmp 15) rfl (by kernel_rfl) (w3.heap.size) 0 rfl (.int .i64 x.f0) (.int .i64 x.f1) (.string x.f2) (.slice A3 x.f3.length c3) (.slice A4 x.f4.length c4) rfl ?hone _ 48 (Nat.le_refl _) CT5.out.bx ?_
   (case hone=>exact fun q_ hq_=>by simp at hq_;rcases hq_ with rfl | rfl | rfl | rfl | rfl <;> rfl)
   intro w6 cur_ k1 k2 k3 _ hgr
   have CT6:=qAA.mk (CT5.out.laid k1 hgr)
   rw [mb.arr5 k2 k3] at CT6
   clear k1 k2 k3 hgr CT5
   refine hK.out _ _ ⟨(qAB CT6.out.rm.blk 0).trans rfl,(qAB CT6.out.rm.blk 1).trans rfl⟩ (fun hHeld => ?_)
   clear hK K
   refine pU 15 3 ?_
   refine pU 16 4 ?_
   refine qA6 (by kernel_rfl) ?_
   generalize w3.heap.size=bv at *
  rotate_left
  focus
   refine qBO (w1 := ?_) (v := ?_) (by rfl) rfl ?_ ?_
   rotate_left 2
   ·go_simp
    constructor
    ·rfl
    ·rfl
   have H2:=qAA.mk (Hd.out.sharp.below (qAH (Below.refl wd.heap.size wd) (.cells #[.int .i64 0,.int .i64 0,.string ⟨#[]⟩,.slice none 0 0,.slice none 0 0] 48)))
   refine hK.out _ _ ⟨(qAB H2.out.blk 0).trans rfl,(qAB H2.out.blk 1).trans rfl⟩ (fun hHeld => ?_)
   clear hK K
   refine qAi (a' := ?_) ?_ ?_
   rotate_left
   ·show Act.put _ (some 2) _=_
    simp only [Act.put,qs1,qs2,qs3,qAR,qAT]
    rfl
   refine one_ (i:=8) (N:=some 14) #[qT,qT,qT,qT,qT,qT,qT,qT,qT,qF,qF,qF,qF,qT,qF,qF,qF] rfl rfl (by kernel_rfl) (by decide) (fun K hK => ?_)
   refine qBJ Try.func75 (by kernel_rfl) rfl #[.slice B bs.length cb,.int .i64 a] (by rfl) rfl rfl (by (try simp only [List.map_toArray,List.map_cons,List.map_nil]);first | done | rfl) ?_
   refine (TK.out _ H2.out.bel).mono ?_
   rintro e w3 ⟨A3,c3,A4,c4,rfl,hk,hb⟩
   refine ⟨_,rfl, ?_⟩
   have CT5:=qAA.mk (mb.CT.ofB (cs:=#[.int .i64 0,.int .i64 0,.string ⟨#[]⟩,.slice none 0 0,.slice none 0 0]) (H2.out.below hb) hb hk HGd.out)
   clear hk hb
   refine hK.out _ _ ⟨(qAB CT5.out.rm.blk 0).trans rfl,(qAB CT5.out.rm.blk 1).trans rfl⟩ (fun hHeld => ?_)
   clear hK K
   refine qAi (a' := ?_) ?_ ?_
   rotate_left
   ·show Act.put _ (some 14) _=_
    simp only [Act.put,qs1,qs2,qs3,qAR,qAT]
    rfl
   refine pU 9 5 ?_
   refine pU 10 15 ?_
   refine pU 11 16 ?_
   refine pU 12 17 ?_
   refine one_ (i:=14) (N:=none) #[qT,qT,qT,qT,qT,qT,qT,qT,qT,qT,qT,qT,qT,qT,qT,qF,qF] rfl rfl (by kernel_rfl) (by decide) (fun K hK => ?_)
   refine mb.st25 48 (by rfl) rfl 2 (.tmp 15) rfl (by kernel_rfl) (wd.heap.size) 0 rfl (.int .i64 x.f0) (.int .i64 x.f1) (.string x.f2) (.slice A3 x.f3.length c3) (.slice A4 x.f4.length c4) rfl ?hone _ 48 (Nat.le_refl _) CT5.out.bx ?_
   (case hone=>exact fun q_ hq_=>by simp at hq_;rcases hq_ with rfl | rfl | rfl | rfl | rfl <;> rfl)
   intro w6 cur_ k1 k2 k3 _ hgr
   have CT6:=qAA.mk (CT5.out.laid k1 hgr)
   rw [mb.arr5 k2 k3] at CT6
   clear k1 k2 k3 hgr CT5
   refine hK.out _ _ ⟨(qAB CT6.out.rm.blk 0).trans rfl,(qAB CT6.out.rm.blk 1).trans rfl⟩ (fun hHeld => ?_)
   clear hK K
   refine pU 15 3 ?_
   refine pU 16 4 ?_
   refine qA6 (by kernel_rfl) ?_
   generalize wd.heap.size=bv at *
  all_goals
   go_wp2_with (first | (go_at_call 61;refine (mb.qB2 CT6.out.rm 91 p).mono ?_;rintro e_ w8 ⟨rfl,hr,hf⟩;have H8:=qAA.mk hr.weak;have F8:=qAA.mk ((F0.out.trans CT6.out.fr).trans (mb.FrS.qBl hf CT6.out.rm.blk));clear hr hf))
   first | go_end0 | ((try simp only [Exit.inBlock,Exit.then]);refine bodyPost_ret (results_none rfl _ _ _) rfl ?_)
   exact ⟨rfl,⟨_,H8.out⟩,F8.out⟩
 ·rw [if_pos (by decide)]
  clear d1 d2
  go_enter Try.func56,Try.ntmps56
  go_wp2
  refine qAn (n:=17) (S:=fun w'=>w'.cell? ⟨g,0,none⟩=some (.slice B bs.length cb)∧w'.cell? ⟨g,1,none⟩=some (.int .i64 a)) (ds:=[]) #[qF,qF,qF,qF,qF,qF,qF,qF,qF,qF,qF,qF,qF,qF,qF,qF,qF] (by kernel_rfl) rfl rfl ⟨(qAB (show W.drew.heap[g]?=_ from H.out.blk) 0).trans rfl,(qAB (show W.drew.heap[g]?=_ from H.out.blk) 1).trans rfl⟩ (fun hHeld => ?_)
  generalize hwd:W.drew=wd at hHeld ⊢
  have Hd:=qAA.mk (hwd▸H.out.below (qAM (Below.refl _ _)))
  have F0:=qAA.mk (show mb.FrS W wd from hwd▸mb.FrS.of_below (qAM (Below.refl _ _)))
  have HGd:=qAA.mk (show g < wd.heap.size from hwd▸HGW.out)
  clear hwd
  refine pU 0 6 ?_
  refine pU 1 7 ?_
  refine pU 2 8 ?_
  refine pU 4 10 ?_
  refine pU 5 11 ?_
  refine pU 6 12 ?_
  refine tK 3 9 hHeld ?_
  refine tK 7 13 hHeld ?_
  refine two_ (i:=8) (j:=13) (Ni:=some 14) (Nj:=some 2) #[qT,qT,qT,qT,qT,qT,qT,qT,qT,qF,qF,qF,qF,qF,qF,qF,qF] #[qT,qT,qT,qT,qT,qT,qT,qT,qF,qF,qF,qF,qF,qT,qF,qF,qF] rfl rfl rfl rfl (by kernel_rfl) (by decide) (by decide) (fun K hK => ?_) (fun K hK => ?_)
  focus
   refine qBJ Try.func75 (by kernel_rfl) rfl #[.slice B bs.length cb,.int .i64 a] (by rfl) rfl rfl (by (try simp only [List.map_toArray,List.map_cons,List.map_nil]);first | done | rfl) ?_
   refine (TK.out wd Hd.out.bel).mono ?_
   rintro e w3 ⟨A3,c3,A4,c4,rfl,hk,hb⟩
   refine ⟨_,rfl, ?_⟩
   have H3:=qAA.mk (Hd.out.sharp.below hb)
   have KT3:=qAA.mk hk
   have B3:=qAA.mk hb
   clear hk hb
   refine hK.out _ _ ⟨(qAB H3.out.blk 0).trans rfl,(qAB H3.out.blk 1).trans rfl⟩ (fun hHeld => ?_)
   clear hK K
   refine qAi (a' := ?_) ?_ ?_
   rotate_left
   ·show Act.put _ (some 14) _=_
    simp only [Act.put,qs1,qs2,qs3,qAR,qAT]
    rfl
   refine pU 9 5 ?_
   refine pU 10 15 ?_
   refine pU 11 16 ?_
   refine pU 12 17 ?_
   refine one_ (i:=13) (N:=some 2) #[qT,qT,qT,qT,qT,qT,qT,qT,qT,qT,qT,qT,qT,qT,qF,qF,qF] rfl rfl (by kernel_rfl) (by decide) (fun K hK => ?_)
   refine qBO (w1 := ?_) (v := ?_) (by rfl) rfl ?_ ?_
   rotate_left 2
   ·go_simp
    constructor
    ·rfl
    ·rfl
   have CT5:=qAA.mk (mb.CT.ofA (cs:=#[.int .i64 0,.int .i64 0,.string ⟨#[]⟩,.slice none 0 0,.slice none 0 0]) H3.out B3.out KT3.out HGd.out)
   refine hK.out _ _ ⟨(qAB CT5.out.rm.blk 0).trans rfl,(qAB CT5.out.rm.blk 1).trans rfl⟩ (fun hHeld => ?_)
   clear hK K
   refine qAi (a' := ?_) ?_ ?_
   rotate_left
   ·show Act.put _ (some 2) _=_
    simp only [Act.put,qs1,qs2,qs3,qAR,qAT]
    rfl
   refine one_ (i:=14) (N:=none) #[qT,qT,qT,qT,qT,qT,qT,qT,qT,qT,qT,qT,qT,qT,qT,qF,qF] rfl rfl (by kernel_rfl) (by decide) (fun K hK => ?_)
   refine mb.st25 48 (by rfl) rfl 2 (.tmp 15) rfl (by kernel_rfl) (w3.heap.size) 0 rfl (.int .i64 x.f0) (.int .i64 x.f1) (.string x.f2) (.slice A3 x.f3.length c3) (.slice A4 x.f4.length c4) rfl ?hone _ 48 (Nat.le_refl _) CT5.out.bx ?_
   (case hone=>exact fun q_ hq_=>by simp at hq_;rcases hq_ with rfl | rfl | rfl | rfl | rfl <;> rfl)
   intro w6 cur_ k1 k2 k3 _ hgr
   have CT6:=qAA.mk (CT5.out.laid k1 hgr)
   rw [mb.arr5 k2 k3] at CT6
   clear k1 k2 k3 hgr CT5
   refine hK.out _ _ ⟨(qAB CT6.out.rm.blk 0).trans rfl,(qAB CT6.out.rm.blk 1).trans rfl⟩ (fun hHeld => ?_)
   clear hK K
   refine pU 15 3 ?_
   refine pU 16 4 ?_
   refine qA6 (by kernel_rfl) ?_
   generalize w3.heap.size=bv at *
  rotate_left
  focus
   refine qBO (w1 := ?_) (v := ?_) (by rfl) rfl ?_ ?_
   rotate_left 2
   ·go_simp
    constructor
    ·rfl
    ·rfl
   have H2:=qAA.mk (Hd.out.sharp.below (qAH (Below.refl wd.heap.size wd) (.cells #[.int .i64 0,.int .i64 0,.string ⟨#[]⟩,.slice none 0 0,.slice none 0 0] 48)))
   refine hK.out _ _ ⟨(qAB H2.out.blk 0).trans rfl,(qAB H2.out.blk 1).trans rfl⟩ (fun hHeld => ?_)
   clear hK K
   refine qAi (a' := ?_) ?_ ?_
   rotate_left
   ·show Act.put _ (some 2) _=_
    simp only [Act.put,qs1,qs2,qs3,qAR,qAT]
    rfl
   refine one_ (i:=8) (N:=some 14) #[qT,qT,qT,qT,qT,qT,qT,qT,qT,qF,qF,qF,qF,qT,qF,qF,qF] rfl rfl (by kernel_rfl) (by decide) (fun K hK => ?_)
   refine qBJ Try.func75 (by kernel_rfl) rfl #[.slice B bs.length cb,.int .i64 a] (by rfl) rfl rfl (by (try simp only [List.map_toArray,List.map_cons,List.map_nil]);first | done | rfl) ?_
   refine (TK.out _ H2.out.bel).mono ?_
   rintro e w3 ⟨A3,c3,A4,c4,rfl,hk,hb⟩
   refine ⟨_,rfl, ?_⟩
   have CT5:=qAA.mk (mb.CT.ofB (cs:=#[.int .i64 0,.int .i64 0,.string ⟨#[]⟩,.slice none 0 0,.slice none 0 0]) (H2.out.below hb) hb hk HGd.out)
   clear hk hb
   refine hK.out _ _ ⟨(qAB CT5.out.rm.blk 0).trans rfl,(qAB CT5.out.rm.blk 1).trans rfl⟩ (fun hHeld => ?_)
   clear hK K
   refine qAi (a' := ?_) ?_ ?_
   rotate_left
   ·show Act.put _ (some 14) _=_
    simp only [Act.put,qs1,qs2,qs3,qAR,qAT]
    rfl
   refine pU 9 5 ?_
   refine pU 10 15 ?_
   refine pU 11 16 ?_
   refine pU 12 17 ?_
   refine one_ (i:=14) (N:=none) #[qT,qT,qT,qT,qT,qT,qT,qT,qT,qT,qT,qT,qT,qT,qT,qF,qF] rfl rfl (by kernel_rfl) (by decide) (fun K hK => ?_)
   refine mb.st25 48 (by rfl) rfl 2 (.tmp 15) rfl (by kernel_rfl) (wd.heap.size) 0 rfl (.int .i64 x.f0) (.int .i64 x.f1) (.string x.f2) (.slice A3 x.f3.length c3) (.slice A4 x.f4.length c4) rfl ?hone _ 48 (Nat.le_refl _) CT5.out.bx ?_
   (case hone=>exact fun q_ hq_=>by simp at hq_;rcases hq_ with rfl | rfl | rfl | rfl | rfl <;> rfl)
   intro w6 cur_ k1 k2 k3 _ hgr
   have CT6:=qAA.mk (CT5.out.laid k1 hgr)
   rw [mb.arr5 k2 k3] at CT6
   clear k1 k2 k3 hgr CT5
   refine hK.out _ _ ⟨(qAB CT6.out.rm.blk 0).trans rfl,(qAB CT6.out.rm.blk 1).trans rfl⟩ (fun hHeld => ?_)
   clear hK K
   refine pU 15 3 ?_
   refine pU 16 4 ?_
   refine qA6 (by kernel_rfl) ?_
   generalize wd.heap.size=bv at *
  all_goals
   go_wp2_with (first | (go_at_call 61;refine (mb.qB2 CT6.out.rm 92 p).mono ?_;rintro e_ w8 ⟨rfl,hr,hf⟩;have H8:=qAA.mk hr.weak;have F8:=qAA.mk ((F0.out.trans CT6.out.fr).trans (mb.FrS.qBl hf CT6.out.rm.blk));clear hr hf))
   first | go_end0 | ((try simp only [Exit.inBlock,Exit.then]);refine bodyPost_ret (results_none rfl _ _ _) rfl ?_)
   exact ⟨rfl,⟨_,H8.out⟩,F8.out⟩
end
end Go.Proofs.Ytmehfnikecmiiaa.X
namespace Go.Proofs.Ytmehfnikecmiiaa.X
open Go.RowKit Go.Proofs.YtmehfnikecmiiaaW.PrintWords Go.Proofs.YtmehfnikecmiiaaW.PrintLast Go.Proofs.YtmehfnikecmiiaaW.PrintMore Go.Proofs.YtmehfnikecmiiaaW
section
set_option maxHeartbeats 1000000
set_option maxRecDepth 100000
open Go.Proofs.Ytmehfnikecmiiaa Go.Proofs.Ytmehfnikecmiiaa.Pl
def mb.openF (bs:List Int) (id a c d:Int):Int × Int × Int × Int :=
 if (bs.length:Int)≤a ∨ bs.getD a.toNat 0 ≠ id then (a,a,mb.flC c 91,mb.flD c d a)
 else if (qAW bs (a+1)).2.2 ≠ 0 ∨ (qAW bs (a+1)).1 > (bs.length:Int) - (qAW bs (a+1)).2.1 then (a,a,mb.flC c 91,mb.flD c d (a+1))
 else ((qAW bs (a+1)).2.1+(qAW bs (a+1)).1,(qAW bs (a+1)).2.1,c,d)
set_option maxHeartbeats 4000000 in
theorem mb.open59 {bs:List Int} (hb:Bytes bs) (hl:bs.length≤140737488351232) {w0 W:World} {g:Nat} {ok:Nat→Prop} {B A:Option Addr} {n cb ca:Nat} {c d:Int} {v0 v1 v2:Value} {m0:List S48} {m1:List S52} {m2:List S56} (j:Nat) (h:mb.RM w0 W g ok B n cb (j:Int) c d v0 v1 v2 m0 m1 m2) (hC:(Kd.int .u8).C w0 A bs.length bs) (hca:bs.length≤ca) (id:Int) :
  Calls Try.prog 59 #[.pointer (some ⟨g,0,none⟩),.slice A bs.length ca,.int .i64 id] W fun en W'=>en=.returned (.int .i64 (mb.openF bs id (j:Int) c d).1)∧mb.RM w0 W' g ok B n cb (mb.openF bs id (j:Int) c d).2.1 (mb.openF bs id (j:Int) c d).2.2.1 (mb.openF bs id (j:Int) c d).2.2.2 v0 v1 v2 m0 m1 m2∧mb.Fr g W W':=by
 have hu69:=Try.underlying69
 have hu29:=Try.underlying29
 have H:=qAA.mk h
 have z1:W.cell? ⟨g,1,none⟩=some (.int .i64 (j:Int)):=(qAB h.blk 1).trans rfl
 unfold mb.openF
 by_cases h1:(bs.length:Int)≤(j:Int)
 ·rw [if_pos (Or.inl h1)]
  have d1:decide ((j:Int) ≥ (bs.length:Int))=true:=decide_eq_true h1
  have d2:decide ((bs.length:Int)≤(j:Int))=true:=decide_eq_true h1
  have d3:decide (bs.length≤j)=true:=decide_eq_true (by omega)
  dsimp only
  clear hb hl h hC hca h1
  go_enter Try.func59,Try.ntmps59
  go_wp2_with (first | (go_at_call 61;refine (mb.qB2 H.out 91 (j:Int)).mono ?_;rintro e_ w3 ⟨rfl,hr,hf⟩;have H3:=qAA.mk hr;have F3:=qAA.mk hf;clear hr hf z1;have z1:=(qAB H3.out.blk 1).trans rfl))
  go_ret
  exact ⟨rfl,H3.out,F3.out⟩
 have hjn:j < bs.length:=by omega
 have d1:decide ((j:Int) ≥ (bs.length:Int))=false:=decide_eq_false (by omega)
 have d2:decide ((bs.length:Int)≤(j:Int))=false:=decide_eq_false (by omega)
 have d3:decide (bs.length≤j)=false:=decide_eq_false (by omega)
 have k1:(0:Int)≤(j:Int):=by omega
 have k2:(j:Int) < (bs.length:Int):=by omega
 have RA:qA7 (Value.int .u8) (0:Int) W A bs.length bs:=Kd.qBm (enc:=Value.int .u8) (d:=(0:Int)) (h1:=fun _=>rfl) (Kd.qAS hC h.bel)
 obtain ⟨ad,eA,hcell⟩:=RA.2.2 (by omega)
 subst eA
 have x0:=hcell j hjn
 have hby:0≤bs.getD j 0∧bs.getD j 0≤255:=by
  rw [List.getD_eq_getElem?_getD,List.getElem?_eq_getElem hjn]
  exact hb _ (List.getElem_mem hjn)
 rw [Int.toNat_natCast]
 generalize bs.getD j 0=y at x0 hby ⊢
 have hwy:wrap64 y=y:=by unfold wrap64;omega
 have hwy2:IntKind.i64.wrap y=y:=(qAR _).trans hwy
 have UI:=qAA.mk (fun (W1:World) (hb1:Below w0.heap.size w0 W1)=>qAe.calls 24 (some ad) ca bs ((j:Int)+1) (qAW bs ((j:Int)+1)).1 (qAW bs ((j:Int)+1)).2.1 (qAW bs ((j:Int)+1)).2.2 W1 (Kd.qAS hC hb1) hca (by rw [Uint_eq 24 (Nat.le_refl _) bs hb (by omega) ((j:Int)+1)]))
 have UR:=qA2 bs hb ((j:Int)+1)
 have UO:=fun q=>qBT bs hb ((j:Int)+1) q
 have hw1:wrap64 ((j:Int)+1)=(j:Int)+1:=by unfold wrap64;omega
 have hw2:IntKind.i64.wrap ((j:Int)+1)=(j:Int)+1:=(qAR _).trans hw1
 have HLL:=qAA.mk hl
 by_cases h2:y ≠ id
 ·rw [if_pos (Or.inr h2)]
  have e1:(y != id)=true:=bne_iff_ne.2 h2
  have e2:(y == id)=false:=beq_eq_false_iff_ne.2 h2
  have e3:decide (y=id)=false:=decide_eq_false h2
  dsimp only
  clear hb hl h hC hca h1 h2 hcell RA UR UO hby hjn
  go_enter Try.func59,Try.ntmps59
  go_wp2_with (first | (go_at_call 61;refine (mb.qB2 H.out 91 (j:Int)).mono ?_;rintro e_ w3 ⟨rfl,hr,hf⟩;have H3:=qAA.mk hr;have F3:=qAA.mk hf;clear hr hf z1 x0;have z1:=(qAB H3.out.blk 1).trans rfl))
  go_ret
  exact ⟨rfl,H3.out,F3.out⟩
 have hyid:y=id:=Classical.byContradiction h2
 subst hyid
 rw [if_neg (by
   rintro (q | q);· exact h1 q
   ·exact q rfl)]
 generalize qAW bs ((j:Int)+1)=u at *
 obtain ⟨x,nx,e1⟩:=u
 dsimp only at UI UR UO ⊢
 clear hb hl h hC hca h1 h2 hcell RA hby hjn
 have UC:=qAA.mk UR
 by_cases h3:e1 ≠ 0
 ·rw [if_pos (Or.inl h3)]
  have f1:(e1 != 0)=true:=bne_iff_ne.2 h3
  have f2:(e1 == 0)=false:=beq_eq_false_iff_ne.2 h3
  have f3:decide (e1=0)=false:=decide_eq_false h3
  dsimp only
  clear h3 UR UO
  go_enter Try.func59,Try.ntmps59
  go_wp2_with (first | (go_at_call 77;refine (UI.out _ H.out.bel).mono ?_;rintro e_ w2 ⟨rfl,hb⟩;have H2:=qAA.mk (H.out.below hb.below);have F2:=qAA.mk (mb.Fr.of_below (g:=g) hb.below);clear hb z1 x0;have z1:=(qAB H2.out.blk 1).trans rfl) | (go_at_call 61;refine (mb.qB2 H2.out 91 ((j:Int)+1)).mono ?_;rintro e_ w3 ⟨rfl,hr,hf⟩;have H3:=qAA.mk hr;have F3:=qAA.mk hf;clear hr hf z1;have z1:=(qAB H3.out.blk 1).trans rfl))
  go_ret
  exact ⟨rfl,H3.out,F2.out.trans F3.out⟩
 have he:e1=0:=Classical.byContradiction h3
 subst he
 obtain ⟨u1,u2,u3,u4,_⟩:=UO rfl
 have hw3:wrap64 ((bs.length:Int) - nx)=(bs.length:Int) - nx:=by have:=HLL.out;unfold wrap64;omega
 have hw3b:IntKind.i64.wrap ((bs.length:Int) - nx)=(bs.length:Int) - nx:=(qAR _).trans hw3
 have hw4:IntKind.u64.wrap ((bs.length:Int) - nx)=(bs.length:Int) - nx:=u64w _ (by omega) (by have:=HLL.out;omega)
 by_cases h4:x > (bs.length:Int) - nx
 ·rw [if_pos (Or.inr h4)]
  have f1:decide (x > (bs.length:Int) - nx)=true:=decide_eq_true h4
  have f2:decide ((bs.length:Int) - nx < x)=true:=decide_eq_true h4
  dsimp only
  clear h3 h4 UR UO u1 u2 u3 u4
  go_enter Try.func59,Try.ntmps59
  go_wp2_with (first | (go_at_call 77;refine (UI.out _ H.out.bel).mono ?_;rintro e_ w2 ⟨rfl,hb⟩;have H2:=qAA.mk (H.out.below hb.below);have F2:=qAA.mk (mb.Fr.of_below (g:=g) hb.below);clear hb z1 x0;have z1:=(qAB H2.out.blk 1).trans rfl) | (go_at_call 61;refine (mb.qB2 H2.out 91 ((j:Int)+1)).mono ?_;rintro e_ w3 ⟨rfl,hr,hf⟩;have H3:=qAA.mk hr;have F3:=qAA.mk hf;clear hr hf z1;have z1:=(qAB H3.out.blk 1).trans rfl))
  go_ret
  exact ⟨rfl,H3.out,F2.out.trans F3.out⟩
 rw [if_neg (by
   rintro (q | q);· exact q rfl
   ·exact h4 q)]
 have f1:decide (x > (bs.length:Int) - nx)=false:=decide_eq_false h4
 have f2:decide ((bs.length:Int) - nx < x)=false:=decide_eq_false h4
 have hw5:wrap64 x=x:=by have:=HLL.out;unfold wrap64;omega
 have hw5b:IntKind.i64.wrap x=x:=(qAR _).trans hw5
 have hw6:wrap64 (nx+x)=nx+x:=by have:=HLL.out;unfold wrap64;omega
 have hw6b:IntKind.i64.wrap (nx+x)=nx+x:=(qAR _).trans hw6
 dsimp only
 clear h3 h4 UR UO u1 u2 u3 u4
 go_enter Try.func59,Try.ntmps59
 go_wp2_with (first | (go_at_call 77;refine (UI.out _ H.out.bel).mono ?_;rintro e_ w2 ⟨rfl,hb⟩;have H2:=qAA.mk (H.out.below hb.below);have F2:=qAA.mk (mb.Fr.of_below (g:=g) hb.below);clear hb z1 x0;have z1:=(qAB H2.out.blk 1).trans rfl;have g1:=qAC H2.out.blk 1))
 go_ret
 exact ⟨rfl,H2.out.seta nx,F2.out.trans (mb.Fr.set _ _ _ _)⟩
end
end Go.Proofs.Ytmehfnikecmiiaa.X
namespace Go.Proofs.Ytmehfnikecmiiaa.X
open Go.RowKit Go.Proofs.YtmehfnikecmiiaaW.PrintWords Go.Proofs.YtmehfnikecmiiaaW.PrintLast Go.Proofs.YtmehfnikecmiiaaW.PrintMore Go.Proofs.YtmehfnikecmiiaaW
section
set_option maxHeartbeats 1000000
set_option maxRecDepth 100000
open Go.Proofs.Ytmehfnikecmiiaa Go.Proofs.Ytmehfnikecmiiaa.Pl
structure mb.RS where
 a:Int
 c:Int
 d:Int
 m0:List S48
 m1:List S52
 m2:List S56
def mb.RMS (w0 W:World) (g:Nat) (B:Option Addr) (n cb:Nat) (s:mb.RS):Prop:=∃ v0 v1 v2,mb.RM w0 W g (fun k=>k ≠ g) B n cb s.a s.c s.d v0 v1 v2 s.m0 s.m1 s.m2
def mb.In (n:Nat) (s:mb.RS):Prop:=(0≤s.a∧s.a≤(n:Int))∧(0≤s.d∧s.d≤(n:Int))
def mb.Ln (b:Nat) (s:mb.RS):Prop:=s.m0.length≤b∧s.m1.length≤b∧s.m2.length≤b
theorem mb.Ln.mono {b b2:Nat} {s:mb.RS} (h:mb.Ln b s) (hb:b≤b2):mb.Ln b2 s:=⟨Nat.le_trans h.1 hb,Nat.le_trans h.2.1 hb,Nat.le_trans h.2.2 hb⟩
theorem mb.flC_z {c e:Int} (he:e ≠ 0) (h:mb.flC c e=0):False:=by
 unfold mb.flC at h
 split at h
 ·exact he h
 ·rename_i h1;exact h1 h
theorem mb.flC_n {c:Int} (e:Int) (h:c ≠ 0):mb.flC c e=c:=if_neg h
theorem mb.flD_n {c:Int} (d e:Int) (h:c ≠ 0):mb.flD c d e=d:=if_neg h
theorem mb.flD_in {n:Nat} {c d e:Int} (h:0≤d∧d≤(n:Int)) (k:0≤e∧e≤(n:Int)):0≤mb.flD c d e∧mb.flD c d e≤(n:Int):=by
 unfold mb.flD
 split
 ·exact k
 ·exact h
theorem mb.numF_in {bs:List Int} (hb:Bytes bs) {N:Nat} (hN:bs.length≤N) {most ab a c d:Int} (hm:0≤most) (ha:0≤a∧a≤(N:Int)) (hd:0≤d∧d≤(N:Int)) :
  (0≤(mb.numF bs most ab a c d).1∧(mb.numF bs most ab a c d).1≤most)∧(0≤(mb.numF bs most ab a c d).2.1∧(mb.numF bs most ab a c d).2.1≤(N:Int))∧(0≤(mb.numF bs most ab a c d).2.2.2∧(mb.numF bs most ab a c d).2.2.2≤(N:Int)):=by
 unfold mb.numF
 by_cases h1:(qAW bs a).2.2 ≠ 0
 ·rw [if_pos h1];exact ⟨⟨Int.le_refl _,hm⟩,ha,mb.flD_in hd ha⟩
 rw [if_neg h1]
 have h1:(qAW bs a).2.2=0:=Classical.byContradiction h1
 by_cases h2:(qAW bs a).1 > most
 ·rw [if_pos h2];exact ⟨⟨Int.le_refl _,hm⟩,ha,mb.flD_in hd ha⟩
 rw [if_neg h2]
 have h3:=qA2 bs hb a
 have h4:=qBT bs hb a h1
 exact ⟨⟨h3.1,by omega⟩,⟨by show 0≤(qAW bs a).2.1;omega,by show (qAW bs a).2.1≤(N:Int);omega⟩,hd⟩
theorem mb.txtF_in {bs:List Int} (hb:Bytes bs) {N:Nat} (hN:bs.length≤N) {most a c d:Int} (ha:0≤a∧a≤(N:Int)) (hd:0≤d∧d≤(N:Int)) :
  (0≤(mb.txtF bs most a c d).2.1∧(mb.txtF bs most a c d).2.1≤(N:Int))∧(0≤(mb.txtF bs most a c d).2.2.2∧(mb.txtF bs most a c d).2.2.2≤(N:Int)):=by
 unfold mb.txtF
 by_cases h1:(qBP bs a most).2.2=0
 ·rw [if_pos h1]
  have h4:=textAt_ok hb h1
  exact ⟨⟨by show 0≤(qBP bs a most).2.1;omega,by show (qBP bs a most).2.1≤(N:Int);omega⟩,hd⟩
 rw [if_neg h1]
 by_cases h2:(qBP bs a most).2.2=13
 ·rw [if_pos h2];exact ⟨ha,mb.flD_in hd ha⟩
 ·rw [if_neg h2];exact ⟨ha,mb.flD_in hd ha⟩
theorem mb.txtF_size {bs:List Int} (hb:Bytes bs) (hl:bs.length≤140737488351232) (most a c d:Int):(mb.txtF bs most a c d).1.size≤140737488351232:=by
 have h:(qBP bs a most).1.size≤140737488351232:=by
  unfold qBP
  dsimp only
  split
  ·split
   ·show (0:Nat)≤_;omega
   ·split
    ·show (0:Nat)≤_;omega
    ·rw [qBf,List.length_drop,List.length_take];omega
  ·show (0:Nat)≤_;omega
 unfold mb.txtF
 split
 ·exact h
 ·split
  ·exact h
  ·exact h
def mb.cstS (bs:List Int) (s:mb.RS):mb.RS :=
 ⟨(mb.cstF bs s.a s.c s.d s.m0).2.1,(mb.cstF bs s.a s.c s.d s.m0).2.2.1,(mb.cstF bs s.a s.c s.d s.m0).2.2.2,(mb.cstF bs s.a s.c s.d s.m0).1,s.m1,s.m2⟩
def mb.fun0 (bs:List Int) (s:mb.RS):=mb.numF bs 8 92 s.a s.c s.d
def mb.fun1 (bs:List Int) (s:mb.RS):=mb.numF bs 32 92 (mb.fun0 bs s).2.1 (mb.fun0 bs s).2.2.1 (mb.fun0 bs s).2.2.2
def mb.fun2 (bs:List Int) (s:mb.RS):Int × Int:=if (mb.fun1 bs s).1 < (mb.fun0 bs s).1 then (mb.flC (mb.fun1 bs s).2.2.1 90,mb.flD (mb.fun1 bs s).2.2.1 (mb.fun1 bs s).2.2.2 (mb.fun0 bs s).2.1) else ((mb.fun1 bs s).2.2.1,(mb.fun1 bs s).2.2.2)
def mb.fun3 (bs:List Int) (s:mb.RS):=mb.numF bs 40 92 (mb.fun1 bs s).2.1 (mb.fun2 bs s).1 (mb.fun2 bs s).2
def mb.fun4 (bs:List Int) (s:mb.RS):=mb.txtF bs 4000 (mb.fun3 bs s).2.1 (mb.fun3 bs s).2.2.1 (mb.fun3 bs s).2.2.2
def mb.funS (bs:List Int) (s:mb.RS):mb.RS :=
 ⟨(mb.fun4 bs s).2.1,(mb.fun4 bs s).2.2.1,(mb.fun4 bs s).2.2.2,s.m0,s.m1 ++ [⟨(mb.fun0 bs s).1,(mb.fun1 bs s).1,(mb.fun3 bs s).1,(mb.fun4 bs s).1⟩],s.m2⟩
def mb.exp0 (bs:List Int) (s:mb.RS):=mb.txtF bs 20 s.a s.c s.d
def mb.exp1 (bs:List Int) (s:mb.RS):Int × Int:=if mb.exBad (mb.exp0 bs s).1 s.m2 then (mb.flC (mb.exp0 bs s).2.2.1 90,mb.flD (mb.exp0 bs s).2.2.1 (mb.exp0 bs s).2.2.2 s.a) else ((mb.exp0 bs s).2.2.1,(mb.exp0 bs s).2.2.2)
def mb.exp2 (bs:List Int) (s:mb.RS):=mb.numF bs 24 90 (mb.exp0 bs s).2.1 (mb.exp1 bs s).1 (mb.exp1 bs s).2
def mb.exp3 (bs:List Int) (s:mb.RS):Int × Int:=if (mb.exp2 bs s).1 ≥ (s.m1.length:Int) then (mb.flC (mb.exp2 bs s).2.2.1 90,mb.flD (mb.exp2 bs s).2.2.1 (mb.exp2 bs s).2.2.2 (mb.exp0 bs s).2.1) else ((mb.exp2 bs s).2.2.1,(mb.exp2 bs s).2.2.2)
def mb.expS (bs:List Int) (s:mb.RS):mb.RS :=
 ⟨(mb.exp2 bs s).2.1,(mb.exp3 bs s).1,(mb.exp3 bs s).2,s.m0,s.m1,s.m2 ++ [⟨(mb.exp0 bs s).1,(mb.exp2 bs s).1⟩]⟩
def mb.one (i:Nat) (bs:List Int) (s:mb.RS):mb.RS:=if i=0 then mb.cstS bs s else if i=1 then mb.funS bs s else mb.expS bs s
theorem mb.fun2_in {bs:List Int} (hb:Bytes bs) {N:Nat} (hN:bs.length≤N) {s:mb.RS} (h:mb.In N s):0≤(mb.fun2 bs s).2∧(mb.fun2 bs s).2≤(N:Int):=by
 have h0:=mb.numF_in hb hN (most:=8) (ab:=92) (c:=s.c) (by omega) h.1 h.2
 have h1:=mb.numF_in hb hN (most:=32) (ab:=92) (c:=(mb.fun0 bs s).2.2.1) (by omega) h0.2.1 h0.2.2
 unfold mb.fun2
 split
 ·exact mb.flD_in h1.2.2 h0.2.1
 ·exact h1.2.2
theorem mb.funS_in {bs:List Int} (hb:Bytes bs) {N:Nat} (hN:bs.length≤N) {s:mb.RS} (h:mb.In N s):mb.In N (mb.funS bs s):=by
 have h0:=mb.numF_in hb hN (most:=8) (ab:=92) (c:=s.c) (by omega) h.1 h.2
 have h1:=mb.numF_in hb hN (most:=32) (ab:=92) (c:=(mb.fun0 bs s).2.2.1) (by omega) h0.2.1 h0.2.2
 have h3:=mb.numF_in hb hN (most:=40) (ab:=92) (c:=(mb.fun2 bs s).1) (by omega) h1.2.1 (mb.fun2_in hb hN h)
 exact mb.txtF_in hb hN h3.2.1 h3.2.2
theorem mb.expS_in {bs:List Int} (hb:Bytes bs) {N:Nat} (hN:bs.length≤N) {s:mb.RS} (h:mb.In N s):mb.In N (mb.expS bs s):=by
 have h0:=mb.txtF_in hb hN (most:=20) (c:=s.c) h.1 h.2
 have h1:0≤(mb.exp1 bs s).2∧(mb.exp1 bs s).2≤(N:Int):=by
  unfold mb.exp1
  split
  ·exact mb.flD_in h0.2 h.1
  ·exact h0.2
 have h2:=mb.numF_in hb hN (most:=24) (ab:=90) (c:=(mb.exp1 bs s).1) (by omega) h0.1 h1
 refine ⟨h2.2.1, ?_⟩
 show 0≤(mb.exp3 bs s).2∧(mb.exp3 bs s).2≤(N:Int)
 unfold mb.exp3
 split
 ·exact mb.flD_in h2.2.2 h0.1
 ·exact h2.2.2
theorem mb.cstS_in {bs:List Int} (hb:Bytes bs) (hl:bs.length≤140737488351232) {N:Nat} (hN:bs.length≤N) {s:mb.RS} (h:mb.In N s):mb.In N (mb.cstS bs s):=by
 unfold mb.cstS mb.cstF
 rcases hr:mb.takeS bs (qAW bs) (qCX bs) s.a with ⟨x,a2,l2⟩ | ⟨e,p⟩
 ·have:=mb.takeS_ok hb hl hr
  exact ⟨⟨by show 0≤a2;omega,by show a2≤(N:Int);omega⟩,h.2⟩
 ·have:=(mb.takeS_bad hb hl hr).2
  exact ⟨h.1,mb.flD_in h.2 ⟨this.1,by omega⟩⟩
theorem mb.one_in {bs:List Int} (hb:Bytes bs) (hl:bs.length≤140737488351232) {N:Nat} (hN:bs.length≤N) (i:Nat) {s:mb.RS} (h:mb.In N s):mb.In N (mb.one i bs s):=by
 unfold mb.one
 split
 ·exact mb.cstS_in hb hl hN h
 ·split
  ·exact mb.funS_in hb hN h
  ·exact mb.expS_in hb hN h
theorem mb.one_ln (i:Nat) (bs:List Int) {b:Nat} {s:mb.RS} (h:mb.Ln b s):mb.Ln (b+1) (mb.one i bs s):=by
 unfold mb.one
 obtain ⟨h0,h1,h2⟩:=h
 split
 ·refine ⟨?_,Nat.le_succ_of_le h1,Nat.le_succ_of_le h2⟩
  show (mb.cstF bs s.a s.c s.d s.m0).1.length≤b+1
  unfold mb.cstF
  split
  ·rw [List.length_append];simpa using h0
  ·exact Nat.le_succ_of_le h0
 ·split
  ·refine ⟨Nat.le_succ_of_le h0, ?_,Nat.le_succ_of_le h2⟩
   show (s.m1 ++ [_]).length≤b+1
   rw [List.length_append];simpa using h1
  ·refine ⟨Nat.le_succ_of_le h0,Nat.le_succ_of_le h1, ?_⟩
   show (s.m2 ++ [_]).length≤b+1
   rw [List.length_append];simpa using h2
def mb.secF (i:Nat) (bs:List Int):Nat→mb.RS→mb.RS
 | 0,s=>s
 | k+1,s=>if (mb.one i bs s).c ≠ 0 then mb.one i bs s else mb.secF i bs k (mb.one i bs s)
def mb.most (i:Nat):Int:=if i=0 then 100 else 24
def mb.opS (i:Nat) (bs:List Int) (s:mb.RS):mb.RS:=⟨(mb.openF bs ((i:Int)+1) s.a s.c s.d).2.1,(mb.openF bs ((i:Int)+1) s.a s.c s.d).2.2.1,(mb.openF bs ((i:Int)+1) s.a s.c s.d).2.2.2,s.m0,s.m1,s.m2⟩
def mb.opE (i:Nat) (bs:List Int) (s:mb.RS):Int:=(mb.openF bs ((i:Int)+1) s.a s.c s.d).1
def mb.nuN (i:Nat) (bs:List Int) (s:mb.RS):Int:=(mb.numF bs (mb.most i) 92 s.a s.c s.d).1
def mb.nuS (i:Nat) (bs:List Int) (s:mb.RS):mb.RS:=⟨(mb.numF bs (mb.most i) 92 s.a s.c s.d).2.1,(mb.numF bs (mb.most i) 92 s.a s.c s.d).2.2.1,(mb.numF bs (mb.most i) 92 s.a s.c s.d).2.2.2,s.m0,s.m1,s.m2⟩
def mb.faS (s:mb.RS) (e:Int):mb.RS:=⟨s.a,mb.flC s.c e,mb.flD s.c s.d s.a,s.m0,s.m1,s.m2⟩
def mb.qBR (i:Nat) (bs:List Int) (s:mb.RS):mb.RS :=
 if (mb.opS i bs s).c ≠ 0 then mb.opS i bs s
 else
  let t:=mb.secF i (bs.take (mb.opE i bs s).toNat) (mb.nuN i (bs.take (mb.opE i bs s).toNat) (mb.opS i bs s)).toNat (mb.nuS i (bs.take (mb.opE i bs s).toNat) (mb.opS i bs s))
  if t.c ≠ 0 then t else if t.a ≠ mb.opE i bs s then mb.faS t 91 else t
def mb.qBp (bs:List Int):Nat→Nat→mb.RS→mb.RS
 | 0,_,s=>if s.a < (bs.length:Int) then mb.faS s 93 else s
 | k+1,i,s=>if (mb.qBR i bs s).c ≠ 0 then mb.qBR i bs s else mb.qBp bs k (i+1) (mb.qBR i bs s)
theorem mb.op_in {bs:List Int} (hb:Bytes bs) (i:Nat) {s:mb.RS} (h:mb.In bs.length s):(0≤mb.opE i bs s∧mb.opE i bs s≤(bs.length:Int))∧mb.In bs.length (mb.opS i bs s):=by
 unfold mb.opE mb.opS mb.openF
 obtain ⟨ha,hd⟩:=h
 by_cases h1:(bs.length:Int)≤s.a ∨ bs.getD s.a.toNat 0 ≠ (i:Int)+1
 ·rw [if_pos h1];exact ⟨ha,ha,mb.flD_in hd ha⟩
 rw [if_neg h1]
 have h1:s.a < (bs.length:Int):=by
  have:¬ (bs.length:Int)≤s.a:=fun q=>h1 (Or.inl q)
  omega
 by_cases h2:(qAW bs (s.a+1)).2.2 ≠ 0 ∨ (qAW bs (s.a+1)).1 > (bs.length:Int) - (qAW bs (s.a+1)).2.1
 ·rw [if_pos h2];exact ⟨ha,ha,mb.flD_in hd ⟨by omega,by omega⟩⟩
 rw [if_neg h2]
 have h3:(qAW bs (s.a+1)).2.2=0:=Classical.byContradiction fun q=>h2 (Or.inl q)
 have h4:¬ (qAW bs (s.a+1)).1 > (bs.length:Int) - (qAW bs (s.a+1)).2.1:=fun q=>h2 (Or.inr q)
 have h5:=qBT bs hb (s.a+1) h3
 have h6:=qA2 bs hb (s.a+1)
 exact ⟨⟨by show 0≤(qAW bs (s.a+1)).2.1+(qAW bs (s.a+1)).1;omega,by show (qAW bs (s.a+1)).2.1+(qAW bs (s.a+1)).1≤_;omega⟩,⟨by show 0≤(qAW bs (s.a+1)).2.1;omega,by show (qAW bs (s.a+1)).2.1≤_;omega⟩,hd⟩
theorem mb.nu_in {bs:List Int} (hb:Bytes bs) {N:Nat} (hN:bs.length≤N) (i:Nat) {s:mb.RS} (h:mb.In N s):(0≤mb.nuN i bs s∧mb.nuN i bs s≤100)∧mb.In N (mb.nuS i bs s):=by
 have hm:0≤mb.most i∧mb.most i≤100:=by
  unfold mb.most
  split <;> omega
 have h1:=mb.numF_in hb hN (ab:=92) (c:=s.c) hm.1 h.1 h.2
 exact ⟨⟨h1.1.1,Int.le_trans h1.1.2 hm.2⟩,h1.2.1,h1.2.2⟩
section
variable {bs:List Int} {w0 W:World} {g:Nat} {B:Option Addr} {cb:Nat} {s:mb.RS}
theorem mb.one_0 (hb:Bytes bs) (hl:bs.length≤140737488351232) (h:mb.RMS w0 W g B bs.length cb s) (hC:(Kd.int .u8).C w0 B bs.length bs) (hcb:bs.length≤cb) (hn:mb.Ln 1000 s) :
  Calls Try.prog 56 #[.pointer (some ⟨g,0,none⟩)] W fun en W'=>en=.returned (.tuple #[])∧mb.RMS w0 W' g B bs.length cb (mb.one 0 bs s)∧mb.FrS W W':=by
 obtain ⟨v0,v1,v2,h⟩:=h
 exact (mb.constant56 hb hl h hC hcb hn.1 rfl).mono fun e w' q=>⟨q.1,q.2.1.elim fun v k=>⟨v,v1,v2,k⟩,q.2.2⟩
theorem mb.one_1 (hb:Bytes bs) (hl:bs.length≤140737488351232) (h:mb.RMS w0 W g B bs.length cb s) (hC:(Kd.int .u8).C w0 B bs.length bs) (hcb:bs.length≤cb) (hn:mb.Ln 1000 s) :
  Calls Try.prog 57 #[.pointer (some ⟨g,0,none⟩)] W fun en W'=>en=.returned (.tuple #[])∧mb.RMS w0 W' g B bs.length cb (mb.one 1 bs s)∧mb.FrS W W':=by
 obtain ⟨v0,v1,v2,h⟩:=h
 exact (mb.function57 hb hl h hC hcb hn.2.1 (q0:=(rfl:mb.fun0 bs s=(_,_,_,_))) (q1:=(rfl:mb.fun1 bs s=(_,_,_,_))) (q2:=(rfl:mb.fun2 bs s=(_,_))) (q3:=(rfl:mb.fun3 bs s=(_,_,_,_))) (q4:=(rfl:mb.fun4 bs s=(_,_,_,_)))).mono fun e w' q=>⟨q.1,q.2.1.elim fun v k=>⟨v0,v,v2,k⟩,q.2.2⟩
theorem mb.one_2 (hb:Bytes bs) (hl:bs.length≤140737488351232) (h:mb.RMS w0 W g B bs.length cb s) (hC:(Kd.int .u8).C w0 B bs.length bs) (hcb:bs.length≤cb) (hn:mb.Ln 1000 s) :
  Calls Try.prog 58 #[.pointer (some ⟨g,0,none⟩)] W fun en W'=>en=.returned (.tuple #[])∧mb.RMS w0 W' g B bs.length cb (mb.one 2 bs s)∧mb.FrS W W':=by
 obtain ⟨v0,v1,v2,h⟩:=h
 exact (mb.export58 hb hl h hC hcb hn.2.1 hn.2.2 (mb.txtF_size hb hl 20 s.a s.c s.d) (q0:=(rfl:mb.exp0 bs s=(_,_,_,_))) (q1:=(rfl:mb.exp1 bs s=(_,_))) (q2:=(rfl:mb.exp2 bs s=(_,_,_,_))) (q3:=(rfl:mb.exp3 bs s=(_,_)))).mono fun e w' q=>⟨q.1,q.2.1.elim fun v k=>⟨v0,v1,v,k⟩,q.2.2⟩
end
section
variable {bs:List Int} {w0 W W1:World} {g:Nat} {B A:Option Addr} {n cb ca:Nat} {s:mb.RS}
theorem mb.RMS.below (h:mb.RMS w0 W g B n cb s) (hb:Below W.heap.size W W1):mb.RMS w0 W1 g B n cb s:=by
 obtain ⟨v0,v1,v2,h⟩:=h
 exact ⟨v0,v1,v2,(h.sharp.below hb).weak⟩
theorem mb.RMS.setb (h:mb.RMS w0 W g B n cb s) (B2:Option Addr) (n2 c2:Nat):mb.RMS w0 (W.setCell ⟨g,0,none⟩ (.slice B2 n2 c2)) g B2 n2 c2 s:=by
 obtain ⟨v0,v1,v2,h⟩:=h
 exact ⟨v0,v1,v2,h.setb B2 n2 c2⟩
theorem mb.RMS.cell (h:mb.RMS w0 W g B n cb s):W.cell? ⟨g,0,none⟩=some (.slice B n cb)∧W.cell? ⟨g,1,none⟩=some (.int .i64 s.a)∧W.cell? ⟨g,2,none⟩=some (.int .i64 s.c)∧W.cell? ⟨g,3,none⟩=some (.int .i64 s.d)∧(∀ j,W.frozen? ⟨g,j,none⟩=false):=by
 obtain ⟨v0,v1,v2,h⟩:=h
 exact ⟨(qAB h.blk 0).trans rfl,(qAB h.blk 1).trans rfl,(qAB h.blk 2).trans rfl,(qAB h.blk 3).trans rfl,fun j=>qAC h.blk j⟩
theorem mb.RMS.frb (h:mb.RMS w0 W g B n cb s) (u:Value):mb.FrS W (W.setCell ⟨g,0,none⟩ u):=by
 obtain ⟨v0,v1,v2,h⟩:=h
 exact mb.FrS.setX h.blk
theorem mb.RMS.base (h:mb.RMS w0 W g B n cb s):Below w0.heap.size w0 W:=by
 obtain ⟨v0,v1,v2,h⟩:=h
 exact h.bel
theorem mb.opn (i:Nat) (hb:Bytes bs) (hl:bs.length≤140737488351232) (h:mb.RMS w0 W g B n cb s) (hC:(Kd.int .u8).C w0 A bs.length bs) (hca:bs.length≤ca) (hi:mb.In bs.length s) (id:Int) (hid:id=(i:Int)+1) :
  Calls Try.prog 59 #[.pointer (some ⟨g,0,none⟩),.slice A bs.length ca,.int .i64 id] W fun en W'=>en=.returned (.int .i64 (mb.opE i bs s))∧mb.RMS w0 W' g B n cb (mb.opS i bs s)∧mb.FrS W W':=by
 subst hid
 obtain ⟨v0,v1,v2,h⟩:=h
 unfold mb.opE mb.opS
 obtain ⟨j,hj⟩:∃ j:Nat,s.a=(j:Int):=⟨s.a.toNat,by have:=hi.1.1;omega⟩
 rw [hj] at h ⊢
 exact (mb.open59 hb hl j h hC hca _).mono fun e w' q=>⟨q.1,⟨v0,v1,v2,q.2.1⟩,mb.FrS.qBl q.2.2 h.blk⟩
theorem mb.nmb (i:Nat) (hb:Bytes bs) (hl:bs.length≤140737488351232) (h:mb.RMS w0 W g B bs.length cb s) (hC:(Kd.int .u8).C w0 B bs.length bs) (hcb:bs.length≤cb) (m:Int) (hm:m=mb.most i) :
  Calls Try.prog 60 #[.pointer (some ⟨g,0,none⟩),.int .u64 m,.int .i64 92] W fun en W'=>en=.returned (.int .i64 (mb.nuN i bs s))∧mb.RMS w0 W' g B bs.length cb (mb.nuS i bs s)∧mb.FrS W W':=by
 subst hm
 obtain ⟨v0,v1,v2,h⟩:=h
 have hm:0≤mb.most i∧mb.most i≤1000000:=by
  unfold mb.most
  split <;> omega
 exact (mb.number60 hb hl h hC hcb _ 92 hm).mono fun e w' q=>⟨q.1,⟨v0,v1,v2,q.2.1⟩,mb.FrS.qBl q.2.2 h.blk⟩
theorem mb.fai (h:mb.RMS w0 W g B n cb s) (e:Int) :
  Calls Try.prog 61 #[.pointer (some ⟨g,0,none⟩),.int .i64 e,.int .i64 s.a] W fun en W'=>en=.returned (.tuple #[])∧mb.RMS w0 W' g B n cb (mb.faS s e)∧mb.FrS W W':=by
 obtain ⟨v0,v1,v2,h⟩:=h
 exact (mb.qB2 h e s.a).mono fun e w' q=>⟨q.1,⟨v0,v1,v2,q.2.1⟩,mb.FrS.qBl q.2.2 h.blk⟩
end
end
end Go.Proofs.Ytmehfnikecmiiaa.X
