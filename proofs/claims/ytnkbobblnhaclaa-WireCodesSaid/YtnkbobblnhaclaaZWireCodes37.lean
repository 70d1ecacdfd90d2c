import Derived.Test.YtnkbobblnhaclaaZWireCodes3
import Derived.Test.YtnkbobblnhaclaaZWireCodes2
import Derived.WalkLawsBesides
import Derived.Laws.Pointers
import Derived.Shelf.Abstract
import Derived.Deep.DeepMust
import Derived.Deep.QuietTactic
import Derived.BigQuiet
import Derived.Test.YtnkbobblnhaclaaZWireCodes36
import Derived.Test.YtnkbobblnhaclaaZWireCodes23
import Derived.ArgAppend
import Derived.Test.YtnkbobblnhaclaaZWireCodes21
import Derived.Laws.Rows
import Derived.Test.YtnkbobblnhaclaaZWireCodes35
import Derived.Test.YtnkbobblnhaclaaZWireCodes22
import Derived.Test.YtnkbobblnhaclaaZWireCodes24
import Derived.ChangeArms
import Derived.Test.YtnkbobblnhaclaaZWireCodes25
import Derived.Test.YtnkbobblnhaclaaZWireCodes31
set_option linter.unusedVariables false
set_option linter.unusedSimpArgs false
namespace Go.Proofs.Ytnkbobblnhaclaa.X
open Go.RowKit Go.Proofs.YtnkbobblnhaclaaW.PrintWords Go.Proofs.YtnkbobblnhaclaaW.PrintLast Go.Proofs.YtnkbobblnhaclaaW.PrintMore Go.Proofs.YtnkbobblnhaclaaW
section
set_option maxHeartbeats 4000000
set_option maxRecDepth 100000
def wt.RB (w:World) (g:Nat) (A:Option Addr) (n c:Nat) (a wq f p:Int):Prop:=w.heap[g]?=some (.cells #[.slice A n c,.int .i64 a,.int .i64 wq,.int .i64 f,.int .i64 p] 62 (0,0))
section
variable {w w1:World} {g:Nat} {A:Option Addr} {n c:Nat} {a wq f p:Int}
theorem wt.RB.c0 (h:wt.RB w g A n c a wq f p):w.cell? ⟨g,0,none⟩=some (.slice A n c):=(qAB h 0).trans rfl
theorem wt.RB.c1 (h:wt.RB w g A n c a wq f p):w.cell? ⟨g,1,none⟩=some (.int .i64 a):=(qAB h 1).trans rfl
theorem wt.RB.c2 (h:wt.RB w g A n c a wq f p):w.cell? ⟨g,2,none⟩=some (.int .i64 wq):=(qAB h 2).trans rfl
theorem wt.RB.c3 (h:wt.RB w g A n c a wq f p):w.cell? ⟨g,3,none⟩=some (.int .i64 f):=(qAB h 3).trans rfl
theorem wt.RB.c4 (h:wt.RB w g A n c a wq f p):w.cell? ⟨g,4,none⟩=some (.int .i64 p):=(qAB h 4).trans rfl
theorem wt.RB.fz (h:wt.RB w g A n c a wq f p) (o:Nat):w.frozen? ⟨g,o,none⟩=false:=qAC h o
theorem wt.RB.set1 (h:wt.RB w g A n c a wq f p) (x:Int):wt.RB (w.setCell ⟨g,1,none⟩ (.int .i64 x)) g A n c x wq f p:=qA2 h 1 (.int .i64 x) rfl
theorem wt.RB.set2 (h:wt.RB w g A n c a wq f p) (x:Int):wt.RB (w.setCell ⟨g,2,none⟩ (.int .i64 x)) g A n c a x f p:=qA2 h 2 (.int .i64 x) rfl
theorem wt.RB.set3 (h:wt.RB w g A n c a wq f p) (x:Int):wt.RB (w.setCell ⟨g,3,none⟩ (.int .i64 x)) g A n c a wq x p:=qA2 h 3 (.int .i64 x) rfl
theorem wt.RB.set4 (h:wt.RB w g A n c a wq f p) (x:Int):wt.RB (w.setCell ⟨g,4,none⟩ (.int .i64 x)) g A n c a wq f x:=qA2 h 4 (.int .i64 x) rfl
theorem wt.RB.below (h:wt.RB w g A n c a wq f p) (hb:Below w.heap.size w w1):wt.RB w1 g A n c a wq f p:=qAW h hb
end
theorem wt.cells_fr {w w1:World} {g t:Nat} {ob:Array Value} {xs:List Int} {A':Option Addr} {n':Nat} (h:(Kd.int .u8).C w A' n' xs) (hB:w.heap[g]?=some (.cells ob t (0,0))) (hno:∀ (o:Nat) x,ob[o]? ≠ some (.int .u8 x)) (hF:wt.Fr g w w1):(Kd.int .u8).C w1 A' n' xs:=by
 refine ⟨h.1,h.2.1,fun hp => ?_⟩
 obtain ⟨ad,e,hc⟩:=h.2.2 hp
 refine ⟨ad,e,fun j p hj => ?_⟩
 obtain ⟨cs,h1,h2,h3⟩:=hc j p hj
 refine ⟨cs,h1,h2,fun i u hu => ?_⟩
 have h4:=h3 i u hu
 have hlt:=qs4 w _ h4
 have hne:(ad.add (j * (Kd.int .u8).sz+i)).block ≠ g:=by
  intro e1
  have h5:cs=[.int .u8 p]:=h2
  subst h5
  cases i with
  | succ i=>simp at hu
  | zero =>
   simp at hu
   subst hu
   unfold World.cell? at h4
   rw [e1,hB] at h4
   simp only at h4
   split at h4
   ·cases h4
   ·exact hno _ _ h4
 have h6:=hF.2 _ hlt hne
 rw [← h4]
 simp [World.cell?,h6]
theorem wt.qB6 {w w1:World} {g:Nat} {A A':Option Addr} {n c n':Nat} {a wq f p:Int} {xs:List Int} (h:(Kd.int .u8).C w A' n' xs) (hB:wt.RB w g A n c a wq f p) (hF:wt.Fr g w w1):(Kd.int .u8).C w1 A' n' xs:=by
 refine wt.cells_fr h hB (fun o x => ?_) hF
 match o with
 | 0=>simp
 | 1=>simp
 | 2=>simp
 | 3=>simp
 | 4=>simp
 | o+5=>simp
structure wt.RNx (w0 w w':World) (g:Nat) (A:Option Addr) (m c:Nat) (a wq f p:Int):Prop where
 blk:wt.RB w' g A m c a wq f p
 fr:wt.Fr g w w'
 bel:Below w0.heap.size w0 w'
def wt.RNb (w0 w w':World) (g:Nat) (A:Option Addr) (m c:Nat) (f p:Int):Prop:=∃ a wq,wt.RNx w0 w w' g A m c a wq f p
def wt.RGot {α:Type} (r:wt.R3 α) (enc:α→Value) (w0 w:World) (g:Nat) (A:Option Addr) (m c:Nat) (p:Int) (e:Ending) (w':World):Prop :=
 match r with
 | .ok x a' l'=>e=.returned (enc x)∧wt.RNx w0 w w' g A m c a' (2048 - l') 0 p
 | .bad f q=>(∃ y,e=.returned (enc y))∧wt.RNb w0 w w' g A m c f q
theorem wt.qCT {w0 w:World} {g:Nat} {A:Option Addr} {m c:Nat} {a wq p:Int} (hb:Below w0.heap.size w0 w) (hg:w0.heap.size≤g) (hB:wt.RB w g A m c a wq 0 p) (e q:Int):Calls Try.prog 58 #[.pointer (some ⟨g,0,none⟩),.int .i64 e,.int .i64 q] w fun en w'=>en=.returned (.tuple #[])∧wt.RNx w0 w w' g A m c a wq e q:=by
 have HB:=qAA.mk hB
 have HBB:=qAA.mk hb
 have HGG:=qAA.mk hg
 have h3:=hB.c3
 have f3:=hB.fz 3
 have h4:=(hB.set3 e).c4
 have f4:=(hB.set3 e).fz 4
 clear hB hb hg
 go_enter Try.func58,Try.ntmps58
 go_wp2
 go_end0
 exact ⟨rfl,(HB.out.set3 e).set4 q,(wt.Fr.set _ _ _ _).trans (wt.Fr.set _ _ _ _),(HBB.out.setCell HGG.out _).setCell HGG.out _⟩
theorem wt.heavY {w0 w:World} {g:Nat} {A:Option Addr} {m c:Nat} {a wq p:Int} (hb:Below w0.heap.size w0 w) (hg:w0.heap.size≤g) (hB:wt.RB w g A m c a wq 0 p) (n q:Int) (hw:0≤wq) (hn:0≤n) (h:wq+n≤2048):Calls Try.prog 59 #[.pointer (some ⟨g,0,none⟩),.int .i64 n,.int .i64 q] w fun en w'=>en=.returned (.tuple #[])∧wt.RNx w0 w w' g A m c a (wq+n) 0 p:=by
 have HB:=qAA.mk hB
 have HBB:=qAA.mk hb
 have HGG:=qAA.mk hg
 have h2:=hB.c2
 have f2:=hB.fz 2
 have hwr:wrap64 (wq+n)=wq+n:=by unfold wrap64;omega
 have d1:decide (wq+n > 2048)=false:=decide_eq_false (by omega)
 have d2:decide (2048 < wq+n)=false:=decide_eq_false (by omega)
 clear hB hb hg h hw hn
 go_enter Try.func59,Try.ntmps59
 go_wp2
 go_end0
 exact ⟨rfl,HB.out.set2 _,wt.Fr.set _ _ _ _,HBB.out.setCell HGG.out _⟩
theorem wt.heavN {w0 w:World} {g:Nat} {A:Option Addr} {m c:Nat} {a wq p:Int} (hb:Below w0.heap.size w0 w) (hg:w0.heap.size≤g) (hB:wt.RB w g A m c a wq 0 p) (n q:Int) (hw:wq≤2048) (hn:n≤2048) (h:2048 < wq+n):Calls Try.prog 59 #[.pointer (some ⟨g,0,none⟩),.int .i64 n,.int .i64 q] w fun en w'=>en=.returned (.tuple #[])∧wt.RNb w0 w w' g A m c 42 q:=by
 have HB:=qAA.mk hB
 have HBB:=qAA.mk hb
 have HGG:=qAA.mk hg
 have h2:=hB.c2
 have f2:=hB.fz 2
 have hwr:wrap64 (wq+n)=wq+n:=by unfold wrap64;omega
 have d1:decide (wq+n > 2048)=true:=decide_eq_true h
 have d2:decide (2048 < wq+n)=true:=decide_eq_true h
 clear hB hb hg h hw hn
 go_enter Try.func59,Try.ntmps59
 go_wp2_with (go_at_call 58;refine (wt.qCT (HBB.out.setCell HGG.out _) HGG.out (HB.out.set2 _) 42 q).mono ?_;rintro e_ w1 ⟨rfl,hx⟩;have HX:=qAA.mk hx;clear hx)
 go_end0
 exact ⟨rfl,_,_,HX.out.blk,(wt.Fr.set _ _ _ _).trans HX.out.fr,HX.out.bel⟩
structure wt.Rin (bs:List Int) (u i:Int→Int × Int × Int):Prop where
 U:∃ K,∀ a,qAO.f K bs a=some (u a)
 I:∃ K,∀ a,qBD.f K bs a=some (i a)
theorem wt.ruint1 {bs:List Int} {m:Nat} {K:Nat} {r1 r2 r3 a:Int} {w:World} {A:Option Addr} {c:Nat} (hK:qAO.f K bs a=some (r1,r2,r3)) (hC:(Kd.int .u8).C w A m bs) (hc:m≤c):Calls Try.prog 67 #[.slice A m c,.int .i64 a] w fun e w'=>e=.returned (.tuple #[.int .u64 r1,.int .i64 r2,.int .i64 r3])∧qAn w w':=by
 obtain rfl:=hC.1
 exact qAO.calls K A c bs a r1 r2 r3 w hC hc hK
theorem wt.rint1 {bs:List Int} {m:Nat} {K:Nat} {r1 r2 r3 a:Int} {w:World} {A:Option Addr} {c:Nat} (hK:qBD.f K bs a=some (r1,r2,r3)) (hC:(Kd.int .u8).C w A m bs) (hc:m≤c):Calls Try.prog 60 #[.slice A m c,.int .i64 a] w fun e w'=>e=.returned (.tuple #[.int .i64 r1,.int .i64 r2,.int .i64 r3])∧qAn w w':=by
 obtain rfl:=hC.1
 exact qBD.calls K A c bs a r1 r2 r3 w hC hc hK
theorem wt.rnum1 {bs:List Int} {u i:Int→Int × Int × Int} (hU:wt.Uin bs u i) (hR:wt.Rin bs u i) {w0 w:World} {g:Nat} {A:Option Addr} {c:Nat} {a wq p:Int} (hb:Below w0.heap.size w0 w) (hg:w0.heap.size≤g) (hB:wt.RB w g A bs.length c a wq 0 p) (hC:(Kd.int .u8).C w A bs.length bs) (hc:bs.length≤c) (tag times:Int) (ht:1≤times∧times≤2) (hw:0≤wq∧wq≤2048) :
  Calls Try.prog 61 #[.pointer (some ⟨g,0,none⟩),.int .i64 tag,.int .i64 times] w (wt.RGot (wt.qB0 u tag times a (2048 - wq)) (fun n=>.int .i64 n) w0 w g A bs.length c p):=by
 have hu:=(hU.R a)
 obtain ⟨K,hK⟩:=hR.U
 have HK:=qAA.mk (hK a)
 unfold wt.qB0
 obtain ⟨r1,r2,r3,hr⟩:∃ r1 r2 r3,u a=(r1,r2,r3):=⟨_,_,_,rfl⟩
 rw [hr] at HK hu ⊢
 dsimp only at hu ⊢
 have HB:=qAA.mk hB
 have HC:=qAA.mk hC
 have HCC:=qAA.mk hc
 have HBB:=qAA.mk hb
 have HGG:=qAA.mk hg
 have h0:=hB.c0
 have h1:=hB.c1
 generalize bs.length=m at *
 by_cases he:r3 ≠ 0
 ·rw [if_pos he]
  have d1:(r3 != 0)=true:=bne_iff_ne.2 he
  have d2:(r3 == 0)=false:=beq_eq_false_iff_ne.2 he
  have d3:decide (r3=0)=false:=decide_eq_false he
  clear hK hr hB hC hc hb hg hU hR he hu ht hw h0 h1
  go_enter Try.func61,Try.ntmps61
  go_wp2
  refine qBd (n:=16) (S:=fun w'=>w'.cell? ⟨g,0,none⟩=some (.slice A m c)∧w'.cell? ⟨g,1,none⟩=some (.int .i64 a)) (ds:=[]) #[qF,qF,qF,qF,qF,qF,qF,qF,qF,qF,qF,qF,qF,qF,qF,qF] (by kernel_rfl) rfl rfl ⟨(HB.out.below (qAc (Below.refl _ _))).c0,(HB.out.below (qAc (Below.refl _ _))).c1⟩ (fun hHeld => ?_)
  generalize hwd:w.drew=wd at hHeld ⊢
  have Bd:=qAA.mk (hwd▸HB.out.below (qAc (Below.refl _ _)))
  have FRd:=qAA.mk (hwd▸wt.Fr.of_below (g:=g) (qAc (Below.refl _ _)))
  have BLd:=qAA.mk (hwd▸qAc HBB.out)
  clear hwd
  refine qAd (i:=0) (N:=some 11) (v := ?_) (a' := ?_) #[qT,qF,qF,qF,qF,qF,qF,qF,qF,qF,qF,qF,qF,qF,qF,qF] rfl rfl (by kernel_rfl) (fun _ _ _ h=>h) (Or.inl ⟨by rfl, ?_⟩) ?_ ?_
  rotate_left
  ·intro w'
   go_simp
   with_reducible rfl
  rotate_left
  ·simp only [Act.put,qs1,qs2,qs3,qAR,qAT]
   rfl
  refine qAd (i:=1) (N:=some 12) (v := ?_) (a' := ?_) #[qT,qT,qF,qF,qF,qF,qF,qF,qF,qF,qF,qF,qF,qF,qF,qF] rfl rfl (by kernel_rfl) (fun _ _ _ h=>h) (Or.inl ⟨by rfl, ?_⟩) ?_ ?_
  rotate_left
  ·intro w'
   go_simp
   with_reducible rfl
  rotate_left
  ·simp only [Act.put,qs1,qs2,qs3,qAR,qAT]
   rfl
  refine qAd (i:=2) (N:=some 13) (v := ?_) (a' := ?_) #[qT,qT,qT,qF,qF,qF,qF,qF,qF,qF,qF,qF,qF,qF,qF,qF] rfl rfl (by kernel_rfl) (fun _ _ _ h=>h) (Or.inl ⟨by rfl, ?_⟩) ?_ ?_
  rotate_left
  ·intro w'
   go_simp
   with_reducible rfl
  rotate_left
  ·simp only [Act.put,qs1,qs2,qs3,qAR,qAT]
   rfl
  refine qAd (i:=4) (N:=some 15) (v := ?_) (a' := ?_) #[qT,qT,qT,qF,qT,qF,qF,qF,qF,qF,qF,qF,qF,qF,qF,qF] rfl rfl (by kernel_rfl) (fun _ _ _ h=>h) (Or.inl ⟨by rfl, ?_⟩) ?_ ?_
  rotate_left
  ·intro w'
   go_simp
   with_reducible rfl
  rotate_left
  ·simp only [Act.put,qs1,qs2,qs3,qAR,qAT]
   rfl
  refine qAd (i:=5) (N:=some 16) (v := ?_) (a' := ?_) #[qT,qT,qT,qF,qT,qT,qF,qF,qF,qF,qF,qF,qF,qF,qF,qF] rfl rfl (by kernel_rfl) (fun _ _ _ h=>h) (Or.inl ⟨by rfl, ?_⟩) ?_ ?_
  rotate_left
  ·intro w'
   go_simp
   with_reducible rfl
  rotate_left
  ·simp only [Act.put,qs1,qs2,qs3,qAR,qAT]
   rfl
  refine qAd (i:=6) (N:=some 17) (v := ?_) (a' := ?_) #[qT,qT,qT,qF,qT,qT,qT,qF,qF,qF,qF,qF,qF,qF,qF,qF] rfl rfl (by kernel_rfl) (fun _ _ _ h=>h) (Or.inl ⟨by rfl, ?_⟩) ?_ ?_
  rotate_left
  ·intro w'
   go_simp
   with_reducible rfl
  rotate_left
  ·simp only [Act.put,qs1,qs2,qs3,qAR,qAT]
   rfl
  refine qBP (i:=3) (N:=some 14) (v := ?_) (a' := ?_) #[qT,qT,qT,qT,qT,qT,qT,qF,qF,qF,qF,qF,qF,qF,qF,qF] rfl rfl (by kernel_rfl) (fun _ _ _ h=>h) (Or.inl ⟨by rfl, ?_⟩) hHeld ?_ ?_
  rotate_left
  ·rintro w' ⟨s0,s1⟩
   go_simp
   with_reducible rfl
  rotate_left
  ·simp only [Act.put,qs1,qs2,qs3,qAR,qAT]
   rfl
  refine qBP (i:=7) (N:=some 18) (v := ?_) (a' := ?_) #[qT,qT,qT,qT,qT,qT,qT,qT,qF,qF,qF,qF,qF,qF,qF,qF] rfl rfl (by kernel_rfl) (fun _ _ _ h=>h) (Or.inl ⟨by rfl, ?_⟩) hHeld ?_ ?_
  rotate_left
  ·rintro w' ⟨s0,s1⟩
   go_simp
   with_reducible rfl
  rotate_left
  ·simp only [Act.put,qs1,qs2,qs3,qAR,qAT]
   rfl
  refine one_ (i:=8) (N:=some 19) #[qT,qT,qT,qT,qT,qT,qT,qT,qT,qF,qF,qF,qF,qF,qF,qF] rfl rfl (by kernel_rfl) (by decide) (fun K hK => ?_)
  refine qB2 Try.func67 (by kernel_rfl) rfl #[.slice A m c,.int .i64 a] (by rfl) rfl rfl (by (try simp only [List.map_toArray,List.map_cons,List.map_nil]);first | done | rfl) ?_
  refine (wt.ruint1 HK.out (wt.qB6 HC.out HB.out FRd.out) HCC.out).mono ?_
  rintro e w2 ⟨rfl,hd⟩
  refine ⟨_,rfl, ?_⟩
  have B2:=qAA.mk (Bd.out.below hd.below)
  have FR2:=qAA.mk (FRd.out.trans (wt.Fr.of_below hd.below))
  have BL2:=qAA.mk (qAh BLd.out BLd.out.size hd.below)
  clear hd
  refine hK.out _ _ ⟨B2.out.c0,B2.out.c1⟩ (fun hHeld => ?_)
  clear hK K
  refine qBS (a' := ?_) ?_ ?_
  rotate_left
  ·show Act.put _ (some 19) _=_
   simp only [Act.put,qs1,qs2,qs3,qAR,qAT]
   rfl
  refine qAd (i:=9) (N:=some 10) (v := ?_) (a' := ?_) #[qT,qT,qT,qT,qT,qT,qT,qT,qT,qT,qF,qF,qF,qF,qF,qF] rfl rfl (by kernel_rfl) (fun _ _ _ h=>h) (Or.inl ⟨by rfl, ?_⟩) ?_ ?_
  rotate_left
  ·intro w'
   go_simp
   with_reducible rfl
  rotate_left
  ·simp only [Act.put,qs1,qs2,qs3,qAR,qAT]
   rfl
  refine qAd (i:=10) (N:=some 20) (v := ?_) (a' := ?_) #[qT,qT,qT,qT,qT,qT,qT,qT,qT,qT,qT,qF,qF,qF,qF,qF] rfl rfl (by kernel_rfl) (fun _ _ _ h=>h) (Or.inl ⟨by rfl, ?_⟩) ?_ ?_
  rotate_left
  ·intro w'
   go_simp
   with_reducible rfl
  rotate_left
  ·simp only [Act.put,qs1,qs2,qs3,qAR,qAT]
   rfl
  refine qAd (i:=11) (N:=some 21) (v := ?_) (a' := ?_) #[qT,qT,qT,qT,qT,qT,qT,qT,qT,qT,qT,qT,qF,qF,qF,qF] rfl rfl (by kernel_rfl) (fun _ _ _ h=>h) (Or.inl ⟨by rfl, ?_⟩) ?_ ?_
  rotate_left
  ·intro w'
   go_simp
   with_reducible rfl
  rotate_left
  ·simp only [Act.put,qs1,qs2,qs3,qAR,qAT]
   rfl
  refine qAd (i:=12) (N:=some 22) (v := ?_) (a' := ?_) #[qT,qT,qT,qT,qT,qT,qT,qT,qT,qT,qT,qT,qT,qF,qF,qF] rfl rfl (by kernel_rfl) (fun _ _ _ h=>h) (Or.inl ⟨by rfl, ?_⟩) ?_ ?_
  rotate_left
  ·intro w'
   go_simp
   with_reducible rfl
  rotate_left
  ·simp only [Act.put,qs1,qs2,qs3,qAR,qAT]
   rfl
  refine qAd (i:=13) (N:=some 7) (v := ?_) (a' := ?_) #[qT,qT,qT,qT,qT,qT,qT,qT,qT,qT,qT,qT,qT,qT,qF,qF] rfl rfl (by kernel_rfl) (fun _ _ _ h=>h) (Or.inl ⟨by rfl, ?_⟩) ?_ ?_
  rotate_left
  ·intro w'
   go_simp
   with_reducible rfl
  rotate_left
  ·simp only [Act.put,qs1,qs2,qs3,qAR,qAT]
   rfl
  refine qAd (i:=14) (N:=some 8) (v := ?_) (a' := ?_) #[qT,qT,qT,qT,qT,qT,qT,qT,qT,qT,qT,qT,qT,qT,qT,qF] rfl rfl (by kernel_rfl) (fun _ _ _ h=>h) (Or.inl ⟨by rfl, ?_⟩) ?_ ?_
  rotate_left
  ·intro w'
   go_simp
   with_reducible rfl
  rotate_left
  ·simp only [Act.put,qs1,qs2,qs3,qAR,qAT]
   rfl
  refine qAd (i:=15) (N:=some 9) (v := ?_) (a' := ?_) #[qT,qT,qT,qT,qT,qT,qT,qT,qT,qT,qT,qT,qT,qT,qT,qT] rfl rfl (by kernel_rfl) (fun _ _ _ h=>h) (Or.inl ⟨by rfl, ?_⟩) ?_ ?_
  rotate_left
  ·intro w'
   go_simp
   with_reducible rfl
  rotate_left
  ·simp only [Act.put,qs1,qs2,qs3,qAR,qAT]
   rfl
  refine qBu (by kernel_rfl) ?_
  have h1:=B2.out.c1
  go_wp2_with (go_at_call 58;refine (wt.qCT BL2.out HGG.out B2.out 41 a).mono ?_;rintro e_ w3 ⟨rfl,hx⟩;have HX:=qAA.mk hx;clear hx)
  go_ret
  exact ⟨⟨0,rfl⟩,_,_,HX.out.blk,FR2.out.trans HX.out.fr,HX.out.bel⟩
 rw [if_neg he]
 have he0:r3=0:=Classical.byContradiction he
 subst he0
 have hwd:wrap64 (2048 - wq)=2048 - wq:=by unfold wrap64;omega
 by_cases h2:r1 > 2048
 ·have hd:(2048 - wq) / times < r1:=by
   have:(2048 - wq) / times≤2048 - wq:=Int.ediv_le_self _ (by omega)
   omega
  rw [if_pos hd]
  have d1:decide (r1 > 2048)=true:=decide_eq_true h2
  have d2:decide (2048 < r1)=true:=decide_eq_true h2
  clear hK hr hB hC hc hb hg hU hR he hu ht hw h0 h1 hd h2
  go_enter Try.func61,Try.ntmps61
  go_wp2
  refine qBd (n:=16) (S:=fun w'=>w'.cell? ⟨g,0,none⟩=some (.slice A m c)∧w'.cell? ⟨g,1,none⟩=some (.int .i64 a)) (ds:=[]) #[qF,qF,qF,qF,qF,qF,qF,qF,qF,qF,qF,qF,qF,qF,qF,qF] (by kernel_rfl) rfl rfl ⟨(HB.out.below (qAc (Below.refl _ _))).c0,(HB.out.below (qAc (Below.refl _ _))).c1⟩ (fun hHeld => ?_)
  generalize hwd:w.drew=wd at hHeld ⊢
  have Bd:=qAA.mk (hwd▸HB.out.below (qAc (Below.refl _ _)))
  have FRd:=qAA.mk (hwd▸wt.Fr.of_below (g:=g) (qAc (Below.refl _ _)))
  have BLd:=qAA.mk (hwd▸qAc HBB.out)
  clear hwd
  refine qAd (i:=0) (N:=some 11) (v := ?_) (a' := ?_) #[qT,qF,qF,qF,qF,qF,qF,qF,qF,qF,qF,qF,qF,qF,qF,qF] rfl rfl (by kernel_rfl) (fun _ _ _ h=>h) (Or.inl ⟨by rfl, ?_⟩) ?_ ?_
  rotate_left
  ·intro w'
   go_simp
   with_reducible rfl
  rotate_left
  ·simp only [Act.put,qs1,qs2,qs3,qAR,qAT]
   rfl
  refine qAd (i:=1) (N:=some 12) (v := ?_) (a' := ?_) #[qT,qT,qF,qF,qF,qF,qF,qF,qF,qF,qF,qF,qF,qF,qF,qF] rfl rfl (by kernel_rfl) (fun _ _ _ h=>h) (Or.inl ⟨by rfl, ?_⟩) ?_ ?_
  rotate_left
  ·intro w'
   go_simp
   with_reducible rfl
  rotate_left
  ·simp only [Act.put,qs1,qs2,qs3,qAR,qAT]
   rfl
  refine qAd (i:=2) (N:=some 13) (v := ?_) (a' := ?_) #[qT,qT,qT,qF,qF,qF,qF,qF,qF,qF,qF,qF,qF,qF,qF,qF] rfl rfl (by kernel_rfl) (fun _ _ _ h=>h) (Or.inl ⟨by rfl, ?_⟩) ?_ ?_
  rotate_left
  ·intro w'
   go_simp
   with_reducible rfl
  rotate_left
  ·simp only [Act.put,qs1,qs2,qs3,qAR,qAT]
   rfl
  refine qAd (i:=4) (N:=some 15) (v := ?_) (a' := ?_) #[qT,qT,qT,qF,qT,qF,qF,qF,qF,qF,qF,qF,qF,qF,qF,qF] rfl rfl (by kernel_rfl) (fun _ _ _ h=>h) (Or.inl ⟨by rfl, ?_⟩) ?_ ?_
  rotate_left
  ·intro w'
   go_simp
   with_reducible rfl
  rotate_left
  ·simp only [Act.put,qs1,qs2,qs3,qAR,qAT]
   rfl
  refine qAd (i:=5) (N:=some 16) (v := ?_) (a' := ?_) #[qT,qT,qT,qF,qT,qT,qF,qF,qF,qF,qF,qF,qF,qF,qF,qF] rfl rfl (by kernel_rfl) (fun _ _ _ h=>h) (Or.inl ⟨by rfl, ?_⟩) ?_ ?_
  rotate_left
  ·intro w'
   go_simp
   with_reducible rfl
  rotate_left
  ·simp only [Act.put,qs1,qs2,qs3,qAR,qAT]
   rfl
  refine qAd (i:=6) (N:=some 17) (v := ?_) (a' := ?_) #[qT,qT,qT,qF,qT,qT,qT,qF,qF,qF,qF,qF,qF,qF,qF,qF] rfl rfl (by kernel_rfl) (fun _ _ _ h=>h) (Or.inl ⟨by rfl, ?_⟩) ?_ ?_
  rotate_left
  ·intro w'
   go_simp
   with_reducible rfl
  rotate_left
  ·simp only [Act.put,qs1,qs2,qs3,qAR,qAT]
   rfl
  refine qBP (i:=3) (N:=some 14) (v := ?_) (a' := ?_) #[qT,qT,qT,qT,qT,qT,qT,qF,qF,qF,qF,qF,qF,qF,qF,qF] rfl rfl (by kernel_rfl) (fun _ _ _ h=>h) (Or.inl ⟨by rfl, ?_⟩) hHeld ?_ ?_
  rotate_left
  ·rintro w' ⟨s0,s1⟩
   go_simp
   with_reducible rfl
  rotate_left
  ·simp only [Act.put,qs1,qs2,qs3,qAR,qAT]
   rfl
  refine qBP (i:=7) (N:=some 18) (v := ?_) (a' := ?_) #[qT,qT,qT,qT,qT,qT,qT,qT,qF,qF,qF,qF,qF,qF,qF,qF] rfl rfl (by kernel_rfl) (fun _ _ _ h=>h) (Or.inl ⟨by rfl, ?_⟩) hHeld ?_ ?_
  rotate_left
  ·rintro w' ⟨s0,s1⟩
   go_simp
   with_reducible rfl
  rotate_left
  ·simp only [Act.put,qs1,qs2,qs3,qAR,qAT]
   rfl
  refine one_ (i:=8) (N:=some 19) #[qT,qT,qT,qT,qT,qT,qT,qT,qT,qF,qF,qF,qF,qF,qF,qF] rfl rfl (by kernel_rfl) (by decide) (fun K hK => ?_)
  refine qB2 Try.func67 (by kernel_rfl) rfl #[.slice A m c,.int .i64 a] (by rfl) rfl rfl (by (try simp only [List.map_toArray,List.map_cons,List.map_nil]);first | done | rfl) ?_
  refine (wt.ruint1 HK.out (wt.qB6 HC.out HB.out FRd.out) HCC.out).mono ?_
  rintro e w2 ⟨rfl,hd⟩
  refine ⟨_,rfl, ?_⟩
  have B2:=qAA.mk (Bd.out.below hd.below)
  have FR2:=qAA.mk (FRd.out.trans (wt.Fr.of_below hd.below))
  have BL2:=qAA.mk (qAh BLd.out BLd.out.size hd.below)
  clear hd
  refine hK.out _ _ ⟨B2.out.c0,B2.out.c1⟩ (fun hHeld => ?_)
  clear hK K
  refine qBS (a' := ?_) ?_ ?_
  rotate_left
  ·show Act.put _ (some 19) _=_
   simp only [Act.put,qs1,qs2,qs3,qAR,qAT]
   rfl
  refine qAd (i:=9) (N:=some 10) (v := ?_) (a' := ?_) #[qT,qT,qT,qT,qT,qT,qT,qT,qT,qT,qF,qF,qF,qF,qF,qF] rfl rfl (by kernel_rfl) (fun _ _ _ h=>h) (Or.inl ⟨by rfl, ?_⟩) ?_ ?_
  rotate_left
  ·intro w'
   go_simp
   with_reducible rfl
  rotate_left
  ·simp only [Act.put,qs1,qs2,qs3,qAR,qAT]
   rfl
  refine qAd (i:=10) (N:=some 20) (v := ?_) (a' := ?_) #[qT,qT,qT,qT,qT,qT,qT,qT,qT,qT,qT,qF,qF,qF,qF,qF] rfl rfl (by kernel_rfl) (fun _ _ _ h=>h) (Or.inl ⟨by rfl, ?_⟩) ?_ ?_
  rotate_left
  ·intro w'
   go_simp
   with_reducible rfl
  rotate_left
  ·simp only [Act.put,qs1,qs2,qs3,qAR,qAT]
   rfl
  refine qAd (i:=11) (N:=some 21) (v := ?_) (a' := ?_) #[qT,qT,qT,qT,qT,qT,qT,qT,qT,qT,qT,qT,qF,qF,qF,qF] rfl rfl (by kernel_rfl) (fun _ _ _ h=>h) (Or.inl ⟨by rfl, ?_⟩) ?_ ?_
  rotate_left
  ·intro w'
   go_simp
   with_reducible rfl
  rotate_left
  ·simp only [Act.put,qs1,qs2,qs3,qAR,qAT]
   rfl
  refine qAd (i:=12) (N:=some 22) (v := ?_) (a' := ?_) #[qT,qT,qT,qT,qT,qT,qT,qT,qT,qT,qT,qT,qT,qF,qF,qF] rfl rfl (by kernel_rfl) (fun _ _ _ h=>h) (Or.inl ⟨by rfl, ?_⟩) ?_ ?_
  rotate_left
  ·intro w'
   go_simp
   with_reducible rfl
  rotate_left
  ·simp only [Act.put,qs1,qs2,qs3,qAR,qAT]
   rfl
  refine qAd (i:=13) (N:=some 7) (v := ?_) (a' := ?_) #[qT,qT,qT,qT,qT,qT,qT,qT,qT,qT,qT,qT,qT,qT,qF,qF] rfl rfl (by kernel_rfl) (fun _ _ _ h=>h) (Or.inl ⟨by rfl, ?_⟩) ?_ ?_
  rotate_left
  ·intro w'
   go_simp
   with_reducible rfl
  rotate_left
  ·simp only [Act.put,qs1,qs2,qs3,qAR,qAT]
   rfl
  refine qAd (i:=14) (N:=some 8) (v := ?_) (a' := ?_) #[qT,qT,qT,qT,qT,qT,qT,qT,qT,qT,qT,qT,qT,qT,qT,qF] rfl rfl (by kernel_rfl) (fun _ _ _ h=>h) (Or.inl ⟨by rfl, ?_⟩) ?_ ?_
  rotate_left
  ·intro w'
   go_simp
   with_reducible rfl
  rotate_left
  ·simp only [Act.put,qs1,qs2,qs3,qAR,qAT]
   rfl
  refine qAd (i:=15) (N:=some 9) (v := ?_) (a' := ?_) #[qT,qT,qT,qT,qT,qT,qT,qT,qT,qT,qT,qT,qT,qT,qT,qT] rfl rfl (by kernel_rfl) (fun _ _ _ h=>h) (Or.inl ⟨by rfl, ?_⟩) ?_ ?_
  rotate_left
  ·intro w'
   go_simp
   with_reducible rfl
  rotate_left
  ·simp only [Act.put,qs1,qs2,qs3,qAR,qAT]
   rfl
  refine qBu (by kernel_rfl) ?_
  have h1:=B2.out.c1
  go_wp2_with (go_at_call 58;refine (wt.qCT BL2.out HGG.out B2.out 42 tag).mono ?_;rintro e_ w3 ⟨rfl,hx⟩;have HX:=qAA.mk hx;clear hx)
  go_ret
  exact ⟨⟨0,rfl⟩,_,_,HX.out.blk,FR2.out.trans HX.out.fr,HX.out.bel⟩
 have d1:decide (r1 > 2048)=false:=decide_eq_false h2
 have d2:decide (2048 < r1)=false:=decide_eq_false h2
 have hcv:IntKind.i64.wrap r1=r1:=by rw [IntKind.wrap_i64];omega
 have htm:0≤times * r1∧times * r1≤4096:=by
  rcases (show times=1 ∨ times=2 by omega) with rfl | rfl <;> omega
 have hmul:wrap64 (times * r1)=times * r1:=by unfold wrap64;omega
 have hiff:(2048 - wq) / times < r1 ↔ times * r1 > 2048 - wq:=by
  rcases (show times=1 ∨ times=2 by omega) with rfl | rfl <;> omega
 by_cases h3:times * r1 > 2048 - wq
 ·rw [if_pos (hiff.2 h3)]
  have d4:decide (times * r1 > 2048 - wq)=true:=decide_eq_true h3
  have d5:decide (2048 - wq < times * r1)=true:=decide_eq_true h3
  clear hK hr hB hC hc hb hg hU hR he hu ht hw h0 h1 h2 htm hiff h3
  go_enter Try.func61,Try.ntmps61
  go_wp2
  refine qBd (n:=16) (S:=fun w'=>w'.cell? ⟨g,0,none⟩=some (.slice A m c)∧w'.cell? ⟨g,1,none⟩=some (.int .i64 a)) (ds:=[]) #[qF,qF,qF,qF,qF,qF,qF,qF,qF,qF,qF,qF,qF,qF,qF,qF] (by kernel_rfl) rfl rfl ⟨(HB.out.below (qAc (Below.refl _ _))).c0,(HB.out.below (qAc (Below.refl _ _))).c1⟩ (fun hHeld => ?_)
  generalize hwd:w.drew=wd at hHeld ⊢
  have Bd:=qAA.mk (hwd▸HB.out.below (qAc (Below.refl _ _)))
  have FRd:=qAA.mk (hwd▸wt.Fr.of_below (g:=g) (qAc (Below.refl _ _)))
  have BLd:=qAA.mk (hwd▸qAc HBB.out)
  clear hwd
  refine qAd (i:=0) (N:=some 11) (v := ?_) (a' := ?_) #[qT,qF,qF,qF,qF,qF,qF,qF,qF,qF,qF,qF,qF,qF,qF,qF] rfl rfl (by kernel_rfl) (fun _ _ _ h=>h) (Or.inl ⟨by rfl, ?_⟩) ?_ ?_
  rotate_left
  ·intro w'
   go_simp
   with_reducible rfl
  rotate_left
  ·simp only [Act.put,qs1,qs2,qs3,qAR,qAT]
   rfl
  refine qAd (i:=1) (N:=some 12) (v := ?_) (a' := ?_) #[qT,qT,qF,qF,qF,qF,qF,qF,qF,qF,qF,qF,qF,qF,qF,qF] rfl rfl (by kernel_rfl) (fun _ _ _ h=>h) (Or.inl ⟨by rfl, ?_⟩) ?_ ?_
  rotate_left
  ·intro w'
   go_simp
   with_reducible rfl
  rotate_left
  ·simp only [Act.put,qs1,qs2,qs3,qAR,qAT]
   rfl
  refine qAd (i:=2) (N:=some 13) (v := ?_) (a' := ?_) #[qT,qT,qT,qF,qF,qF,qF,qF,qF,qF,qF,qF,qF,qF,qF,qF] rfl rfl (by kernel_rfl) (fun _ _ _ h=>h) (Or.inl ⟨by rfl, ?_⟩) ?_ ?_
  rotate_left
  ·intro w'
   go_simp
   with_reducible rfl
  rotate_left
  ·simp only [Act.put,qs1,qs2,qs3,qAR,qAT]
   rfl
  refine qAd (i:=4) (N:=some 15) (v := ?_) (a' := ?_) #[qT,qT,qT,qF,qT,qF,qF,qF,qF,qF,qF,qF,qF,qF,qF,qF] rfl rfl (by kernel_rfl) (fun _ _ _ h=>h) (Or.inl ⟨by rfl, ?_⟩) ?_ ?_
  rotate_left
  ·intro w'
   go_simp
   with_reducible rfl
  rotate_left
  ·simp only [Act.put,qs1,qs2,qs3,qAR,qAT]
   rfl
  refine qAd (i:=5) (N:=some 16) (v := ?_) (a' := ?_) #[qT,qT,qT,qF,qT,qT,qF,qF,qF,qF,qF,qF,qF,qF,qF,qF] rfl rfl (by kernel_rfl) (fun _ _ _ h=>h) (Or.inl ⟨by rfl, ?_⟩) ?_ ?_
  rotate_left
  ·intro w'
   go_simp
   with_reducible rfl
  rotate_left
  ·simp only [Act.put,qs1,qs2,qs3,qAR,qAT]
   rfl
  refine qAd (i:=6) (N:=some 17) (v := ?_) (a' := ?_) #[qT,qT,qT,qF,qT,qT,qT,qF,qF,qF,qF,qF,qF,qF,qF,qF] rfl rfl (by kernel_rfl) (fun _ _ _ h=>h) (Or.inl ⟨by rfl, ?_⟩) ?_ ?_
  rotate_left
  ·intro w'
   go_simp
   with_reducible rfl
  rotate_left
  ·simp only [Act.put,qs1,qs2,qs3,qAR,qAT]
   rfl
  refine qBP (i:=3) (N:=some 14) (v := ?_) (a' := ?_) #[qT,qT,qT,qT,qT,qT,qT,qF,qF,qF,qF,qF,qF,qF,qF,qF] rfl rfl (by kernel_rfl) (fun _ _ _ h=>h) (Or.inl ⟨by rfl, ?_⟩) hHeld ?_ ?_
  rotate_left
  ·rintro w' ⟨s0,s1⟩
   go_simp
   with_reducible rfl
  rotate_left
  ·simp only [Act.put,qs1,qs2,qs3,qAR,qAT]
   rfl
  refine qBP (i:=7) (N:=some 18) (v := ?_) (a' := ?_) #[qT,qT,qT,qT,qT,qT,qT,qT,qF,qF,qF,qF,qF,qF,qF,qF] rfl rfl (by kernel_rfl) (fun _ _ _ h=>h) (Or.inl ⟨by rfl, ?_⟩) hHeld ?_ ?_
  rotate_left
  ·rintro w' ⟨s0,s1⟩
   go_simp
   with_reducible rfl
  rotate_left
  ·simp only [Act.put,qs1,qs2,qs3,qAR,qAT]
   rfl
  refine one_ (i:=8) (N:=some 19) #[qT,qT,qT,qT,qT,qT,qT,qT,qT,qF,qF,qF,qF,qF,qF,qF] rfl rfl (by kernel_rfl) (by decide) (fun K hK => ?_)
  refine qB2 Try.func67 (by kernel_rfl) rfl #[.slice A m c,.int .i64 a] (by rfl) rfl rfl (by (try simp only [List.map_toArray,List.map_cons,List.map_nil]);first | done | rfl) ?_
  refine (wt.ruint1 HK.out (wt.qB6 HC.out HB.out FRd.out) HCC.out).mono ?_
  rintro e w2 ⟨rfl,hd⟩
  refine ⟨_,rfl, ?_⟩
  have B2:=qAA.mk (Bd.out.below hd.below)
  have FR2:=qAA.mk (FRd.out.trans (wt.Fr.of_below hd.below))
  have BL2:=qAA.mk (qAh BLd.out BLd.out.size hd.below)
  clear hd
  refine hK.out _ _ ⟨B2.out.c0,B2.out.c1⟩ (fun hHeld => ?_)
  clear hK K
  refine qBS (a' := ?_) ?_ ?_
  rotate_left
  ·show Act.put _ (some 19) _=_
   simp only [Act.put,qs1,qs2,qs3,qAR,qAT]
   rfl
  refine qAd (i:=9) (N:=some 10) (v := ?_) (a' := ?_) #[qT,qT,qT,qT,qT,qT,qT,qT,qT,qT,qF,qF,qF,qF,qF,qF] rfl rfl (by kernel_rfl) (fun _ _ _ h=>h) (Or.inl ⟨by rfl, ?_⟩) ?_ ?_
  rotate_left
  ·intro w'
   go_simp
   with_reducible rfl
  rotate_left
  ·simp only [Act.put,qs1,qs2,qs3,qAR,qAT]
   rfl
  refine qAd (i:=10) (N:=some 20) (v := ?_) (a' := ?_) #[qT,qT,qT,qT,qT,qT,qT,qT,qT,qT,qT,qF,qF,qF,qF,qF] rfl rfl (by kernel_rfl) (fun _ _ _ h=>h) (Or.inl ⟨by rfl, ?_⟩) ?_ ?_
  rotate_left
  ·intro w'
   go_simp
   with_reducible rfl
  rotate_left
  ·simp only [Act.put,qs1,qs2,qs3,qAR,qAT]
   rfl
  refine qAd (i:=11) (N:=some 21) (v := ?_) (a' := ?_) #[qT,qT,qT,qT,qT,qT,qT,qT,qT,qT,qT,qT,qF,qF,qF,qF] rfl rfl (by kernel_rfl) (fun _ _ _ h=>h) (Or.inl ⟨by rfl, ?_⟩) ?_ ?_
  rotate_left
  ·intro w'
   go_simp
   with_reducible rfl
  rotate_left
  ·simp only [Act.put,qs1,qs2,qs3,qAR,qAT]
   rfl
  refine qAd (i:=12) (N:=some 22) (v := ?_) (a' := ?_) #[qT,qT,qT,qT,qT,qT,qT,qT,qT,qT,qT,qT,qT,qF,qF,qF] rfl rfl (by kernel_rfl) (fun _ _ _ h=>h) (Or.inl ⟨by rfl, ?_⟩) ?_ ?_
  rotate_left
  ·intro w'
   go_simp
   with_reducible rfl
  rotate_left
  ·simp only [Act.put,qs1,qs2,qs3,qAR,qAT]
   rfl
  refine qAd (i:=13) (N:=some 7) (v := ?_) (a' := ?_) #[qT,qT,qT,qT,qT,qT,qT,qT,qT,qT,qT,qT,qT,qT,qF,qF] rfl rfl (by kernel_rfl) (fun _ _ _ h=>h) (Or.inl ⟨by rfl, ?_⟩) ?_ ?_
  rotate_left
  ·intro w'
   go_simp
   with_reducible rfl
  rotate_left
  ·simp only [Act.put,qs1,qs2,qs3,qAR,qAT]
   rfl
  refine qAd (i:=14) (N:=some 8) (v := ?_) (a' := ?_) #[qT,qT,qT,qT,qT,qT,qT,qT,qT,qT,qT,qT,qT,qT,qT,qF] rfl rfl (by kernel_rfl) (fun _ _ _ h=>h) (Or.inl ⟨by rfl, ?_⟩) ?_ ?_
  rotate_left
  ·intro w'
   go_simp
   with_reducible rfl
  rotate_left
  ·simp only [Act.put,qs1,qs2,qs3,qAR,qAT]
   rfl
  refine qAd (i:=15) (N:=some 9) (v := ?_) (a' := ?_) #[qT,qT,qT,qT,qT,qT,qT,qT,qT,qT,qT,qT,qT,qT,qT,qT] rfl rfl (by kernel_rfl) (fun _ _ _ h=>h) (Or.inl ⟨by rfl, ?_⟩) ?_ ?_
  rotate_left
  ·intro w'
   go_simp
   with_reducible rfl
  rotate_left
  ·simp only [Act.put,qs1,qs2,qs3,qAR,qAT]
   rfl
  refine qBu (by kernel_rfl) ?_
  have h1:=B2.out.c1
  have h2:=B2.out.c2
  go_wp2_with (go_at_call 58;refine (wt.qCT BL2.out HGG.out B2.out 42 tag).mono ?_;rintro e_ w3 ⟨rfl,hx⟩;have HX:=qAA.mk hx;clear hx)
  go_ret
  exact ⟨⟨0,rfl⟩,_,_,HX.out.blk,FR2.out.trans HX.out.fr,HX.out.bel⟩
 ·rw [if_neg (fun q=>h3 (hiff.1 q))]
  have d4:decide (times * r1 > 2048 - wq)=false:=decide_eq_false h3
  have d5:decide (2048 - wq < times * r1)=false:=decide_eq_false h3
  clear hK hr hB hC hc hb hg hU hR he hu ht hw h0 h1 h2 htm hiff h3
  go_enter Try.func61,Try.ntmps61
  go_wp2
  refine qBd (n:=16) (S:=fun w'=>w'.cell? ⟨g,0,none⟩=some (.slice A m c)∧w'.cell? ⟨g,1,none⟩=some (.int .i64 a)) (ds:=[]) #[qF,qF,qF,qF,qF,qF,qF,qF,qF,qF,qF,qF,qF,qF,qF,qF] (by kernel_rfl) rfl rfl ⟨(HB.out.below (qAc (Below.refl _ _))).c0,(HB.out.below (qAc (Below.refl _ _))).c1⟩ (fun hHeld => ?_)
  generalize hwd:w.drew=wd at hHeld ⊢
  have Bd:=qAA.mk (hwd▸HB.out.below (qAc (Below.refl _ _)))
  have FRd:=qAA.mk (hwd▸wt.Fr.of_below (g:=g) (qAc (Below.refl _ _)))
  have BLd:=qAA.mk (hwd▸qAc HBB.out)
  clear hwd
  refine qAd (i:=0) (N:=some 11) (v := ?_) (a' := ?_) #[qT,qF,qF,qF,qF,qF,qF,qF,qF,qF,qF,qF,qF,qF,qF,qF] rfl rfl (by kernel_rfl) (fun _ _ _ h=>h) (Or.inl ⟨by rfl, ?_⟩) ?_ ?_
  rotate_left
  ·intro w'
   go_simp
   with_reducible rfl
  rotate_left
  ·simp only [Act.put,qs1,qs2,qs3,qAR,qAT]
   rfl
  refine qAd (i:=1) (N:=some 12) (v := ?_) (a' := ?_) #[qT,qT,qF,qF,qF,qF,qF,qF,qF,qF,qF,qF,qF,qF,qF,qF] rfl rfl (by kernel_rfl) (fun _ _ _ h=>h) (Or.inl ⟨by rfl, ?_⟩) ?_ ?_
  rotate_left
  ·intro w'
   go_simp
   with_reducible rfl
  rotate_left
  ·simp only [Act.put,qs1,qs2,qs3,qAR,qAT]
   rfl
  refine qAd (i:=2) (N:=some 13) (v := ?_) (a' := ?_) #[qT,qT,qT,qF,qF,qF,qF,qF,qF,qF,qF,qF,qF,qF,qF,qF] rfl rfl (by kernel_rfl) (fun _ _ _ h=>h) (Or.inl ⟨by rfl, ?_⟩) ?_ ?_
  rotate_left
  ·intro w'
   go_simp
   with_reducible rfl
  rotate_left
  ·simp only [Act.put,qs1,qs2,qs3,qAR,qAT]
   rfl
  refine qAd (i:=4) (N:=some 15) (v := ?_) (a' := ?_) #[qT,qT,qT,qF,qT,qF,qF,qF,qF,qF,qF,qF,qF,qF,qF,qF] rfl rfl (by kernel_rfl) (fun _ _ _ h=>h) (Or.inl ⟨by rfl, ?_⟩) ?_ ?_
  rotate_left
  ·intro w'
   go_simp
   with_reducible rfl
  rotate_left
  ·simp only [Act.put,qs1,qs2,qs3,qAR,qAT]
   rfl
  refine qAd (i:=5) (N:=some 16) (v := ?_) (a' := ?_) #[qT,qT,qT,qF,qT,qT,qF,qF,qF,qF,qF,qF,qF,qF,qF,qF] rfl rfl (by kernel_rfl) (fun _ _ _ h=>h) (Or.inl ⟨by rfl, ?_⟩) ?_ ?_
  rotate_left
  ·intro w'
   go_simp
   with_reducible rfl
  rotate_left
  ·simp only [Act.put,qs1,qs2,qs3,qAR,qAT]
   rfl
  refine qAd (i:=6) (N:=some 17) (v := ?_) (a' := ?_) #[qT,qT,qT,qF,qT,qT,qT,qF,qF,qF,qF,qF,qF,qF,qF,qF] rfl rfl (by kernel_rfl) (fun _ _ _ h=>h) (Or.inl ⟨by rfl, ?_⟩) ?_ ?_
  rotate_left
  ·intro w'
   go_simp
   with_reducible rfl
  rotate_left
  ·simp only [Act.put,qs1,qs2,qs3,qAR,qAT]
   rfl
  refine qBP (i:=3) (N:=some 14) (v := ?_) (a' := ?_) #[qT,qT,qT,qT,qT,qT,qT,qF,qF,qF,qF,qF,qF,qF,qF,qF] rfl rfl (by kernel_rfl) (fun _ _ _ h=>h) (Or.inl ⟨by rfl, ?_⟩) hHeld ?_ ?_
  rotate_left
  ·rintro w' ⟨s0,s1⟩
   go_simp
   with_reducible rfl
  rotate_left
  ·simp only [Act.put,qs1,qs2,qs3,qAR,qAT]
   rfl
  refine qBP (i:=7) (N:=some 18) (v := ?_) (a' := ?_) #[qT,qT,qT,qT,qT,qT,qT,qT,qF,qF,qF,qF,qF,qF,qF,qF] rfl rfl (by kernel_rfl) (fun _ _ _ h=>h) (Or.inl ⟨by rfl, ?_⟩) hHeld ?_ ?_
  rotate_left
  ·rintro w' ⟨s0,s1⟩
   go_simp
   with_reducible rfl
  rotate_left
  ·simp only [Act.put,qs1,qs2,qs3,qAR,qAT]
   rfl
  refine one_ (i:=8) (N:=some 19) #[qT,qT,qT,qT,qT,qT,qT,qT,qT,qF,qF,qF,qF,qF,qF,qF] rfl rfl (by kernel_rfl) (by decide) (fun K hK => ?_)
  refine qB2 Try.func67 (by kernel_rfl) rfl #[.slice A m c,.int .i64 a] (by rfl) rfl rfl (by (try simp only [List.map_toArray,List.map_cons,List.map_nil]);first | done | rfl) ?_
  refine (wt.ruint1 HK.out (wt.qB6 HC.out HB.out FRd.out) HCC.out).mono ?_
  rintro e w2 ⟨rfl,hd⟩
  refine ⟨_,rfl, ?_⟩
  have B2:=qAA.mk (Bd.out.below hd.below)
  have FR2:=qAA.mk (FRd.out.trans (wt.Fr.of_below hd.below))
  have BL2:=qAA.mk (qAh BLd.out BLd.out.size hd.below)
  clear hd
  refine hK.out _ _ ⟨B2.out.c0,B2.out.c1⟩ (fun hHeld => ?_)
  clear hK K
  refine qBS (a' := ?_) ?_ ?_
  rotate_left
  ·show Act.put _ (some 19) _=_
   simp only [Act.put,qs1,qs2,qs3,qAR,qAT]
   rfl
  refine qAd (i:=9) (N:=some 10) (v := ?_) (a' := ?_) #[qT,qT,qT,qT,qT,qT,qT,qT,qT,qT,qF,qF,qF,qF,qF,qF] rfl rfl (by kernel_rfl) (fun _ _ _ h=>h) (Or.inl ⟨by rfl, ?_⟩) ?_ ?_
  rotate_left
  ·intro w'
   go_simp
   with_reducible rfl
  rotate_left
  ·simp only [Act.put,qs1,qs2,qs3,qAR,qAT]
   rfl
  refine qAd (i:=10) (N:=some 20) (v := ?_) (a' := ?_) #[qT,qT,qT,qT,qT,qT,qT,qT,qT,qT,qT,qF,qF,qF,qF,qF] rfl rfl (by kernel_rfl) (fun _ _ _ h=>h) (Or.inl ⟨by rfl, ?_⟩) ?_ ?_
  rotate_left
  ·intro w'
   go_simp
   with_reducible rfl
  rotate_left
  ·simp only [Act.put,qs1,qs2,qs3,qAR,qAT]
   rfl
  refine qAd (i:=11) (N:=some 21) (v := ?_) (a' := ?_) #[qT,qT,qT,qT,qT,qT,qT,qT,qT,qT,qT,qT,qF,qF,qF,qF] rfl rfl (by kernel_rfl) (fun _ _ _ h=>h) (Or.inl ⟨by rfl, ?_⟩) ?_ ?_
  rotate_left
  ·intro w'
   go_simp
   with_reducible rfl
  rotate_left
  ·simp only [Act.put,qs1,qs2,qs3,qAR,qAT]
   rfl
  refine qAd (i:=12) (N:=some 22) (v := ?_) (a' := ?_) #[qT,qT,qT,qT,qT,qT,qT,qT,qT,qT,qT,qT,qT,qF,qF,qF] rfl rfl (by kernel_rfl) (fun _ _ _ h=>h) (Or.inl ⟨by rfl, ?_⟩) ?_ ?_
  rotate_left
  ·intro w'
   go_simp
   with_reducible rfl
  rotate_left
  ·simp only [Act.put,qs1,qs2,qs3,qAR,qAT]
   rfl
  refine qAd (i:=13) (N:=some 7) (v := ?_) (a' := ?_) #[qT,qT,qT,qT,qT,qT,qT,qT,qT,qT,qT,qT,qT,qT,qF,qF] rfl rfl (by kernel_rfl) (fun _ _ _ h=>h) (Or.inl ⟨by rfl, ?_⟩) ?_ ?_
  rotate_left
  ·intro w'
   go_simp
   with_reducible rfl
  rotate_left
  ·simp only [Act.put,qs1,qs2,qs3,qAR,qAT]
   rfl
  refine qAd (i:=14) (N:=some 8) (v := ?_) (a' := ?_) #[qT,qT,qT,qT,qT,qT,qT,qT,qT,qT,qT,qT,qT,qT,qT,qF] rfl rfl (by kernel_rfl) (fun _ _ _ h=>h) (Or.inl ⟨by rfl, ?_⟩) ?_ ?_
  rotate_left
  ·intro w'
   go_simp
   with_reducible rfl
  rotate_left
  ·simp only [Act.put,qs1,qs2,qs3,qAR,qAT]
   rfl
  refine qAd (i:=15) (N:=some 9) (v := ?_) (a' := ?_) #[qT,qT,qT,qT,qT,qT,qT,qT,qT,qT,qT,qT,qT,qT,qT,qT] rfl rfl (by kernel_rfl) (fun _ _ _ h=>h) (Or.inl ⟨by rfl, ?_⟩) ?_ ?_
  rotate_left
  ·intro w'
   go_simp
   with_reducible rfl
  rotate_left
  ·simp only [Act.put,qs1,qs2,qs3,qAR,qAT]
   rfl
  refine qBu (by kernel_rfl) ?_
  have h1:=B2.out.c1
  have h2:=B2.out.c2
  have f1:=B2.out.fz 1
  go_wp2
  go_ret
  exact ⟨rfl,by rw [show 2048 - (2048 - wq)=wq by omega];exact B2.out.set1 _,FR2.out.trans (wt.Fr.set _ _ _ _),BL2.out.setCell HGG.out _⟩
theorem wt.rkey1 {bs:List Int} {u i:Int→Int × Int × Int} (hU:wt.Uin bs u i) (hR:wt.Rin bs u i) {w0 w:World} {g:Nat} {A:Option Addr} {c:Nat} {a wq p:Int} (hb:Below w0.heap.size w0 w) (hg:w0.heap.size≤g) (hB:wt.RB w g A bs.length c a wq 0 p) (hC:(Kd.int .u8).C w A bs.length bs) (hc:bs.length≤c) (hw:0≤wq∧wq≤2048) (ks:List ByteArray) (fb:Bool) (last:ByteArray) (hfb:fb=decide (ks.length=0)) (hlast:0 < ks.length→last=rdOf ByteArray.empty ks ((ks.length:Int) - 1)) :
  Calls Try.prog 62 #[.pointer (some ⟨g,0,none⟩),.bool fb,.string last] w (wt.RGot (wt.keyS bs u ks a (2048 - wq)) (fun k=>.string k) w0 w g A bs.length c p):=by
 have hu:=(hU.R a)
 have hN:=(hU.N a)
 have hL:=hU.L
 obtain ⟨K,hK⟩:=hR.U
 have HK:=qAA.mk (hK a)
 unfold wt.keyS
 obtain ⟨r1,r2,r3,hr⟩:∃ r1 r2 r3,u a=(r1,r2,r3):=⟨_,_,_,rfl⟩
 rw [hr] at HK hu hN ⊢
 dsimp only at hu hN ⊢
 have HB:=qAA.mk hB
 have HC:=qAA.mk hC
 have HCC:=qAA.mk hc
 have HBB:=qAA.mk hb
 have HGG:=qAA.mk hg
 have h0:=hB.c0
 have h1:=hB.c1
 by_cases he:r3 ≠ 0
 ·rw [if_pos he]
  have d1:(r3 != 0)=true:=bne_iff_ne.2 he
  have d2:(r3 == 0)=false:=beq_eq_false_iff_ne.2 he
  have d3:decide (r3=0)=false:=decide_eq_false he
  clear hK hr hB hC hc hb hg hU hR he hu hw hN hL hfb hlast
  generalize bs.length=m at *
  go_enter Try.func62,Try.ntmps62
  go_wp2_with (first | (go_at_call 67;refine (wt.ruint1 HK.out HC.out HCC.out).mono ?_;rintro e_ w2 ⟨rfl,hd⟩;have B2:=qAA.mk (HB.out.below hd.below);have FR2:=qAA.mk (wt.Fr.of_below (g:=g) hd.below);have BL2:=qAA.mk (qAh HBB.out HBB.out.size hd.below);clear hd h0 h1;have h0:=B2.out.c0;have h1:=B2.out.c1) | (go_at_call 58;refine (wt.qCT BL2.out HGG.out B2.out 41 a).mono ?_;rintro e_ w3 ⟨rfl,hx⟩;have HX:=qAA.mk hx;clear hx))
  go_ret
  exact ⟨⟨_,rfl⟩,_,_,HX.out.blk,FR2.out.trans HX.out.fr,HX.out.bel⟩
 rw [if_neg he]
 have he0:r3=0:=Classical.byContradiction he
 subst he0
 have hN:=hN rfl
 by_cases h2:r1 > 32
 ·rw [if_pos h2]
  have d1:decide (r1 > 32)=true:=decide_eq_true h2
  have d2:decide (32 < r1)=true:=decide_eq_true h2
  clear hK hr hB hC hc hb hg hU hR he hu hw hN hL hfb hlast h2
  generalize bs.length=m at *
  go_enter Try.func62,Try.ntmps62
  go_wp2_with (first | (go_at_call 67;refine (wt.ruint1 HK.out HC.out HCC.out).mono ?_;rintro e_ w2 ⟨rfl,hd⟩;have B2:=qAA.mk (HB.out.below hd.below);have FR2:=qAA.mk (wt.Fr.of_below (g:=g) hd.below);have BL2:=qAA.mk (qAh HBB.out HBB.out.size hd.below);clear hd h0 h1;have h0:=B2.out.c0;have h1:=B2.out.c1;have f1:=B2.out.fz 1) | (go_at_call 58;refine (wt.qCT BL2.out HGG.out B2.out 41 a).mono ?_;rintro e_ w3 ⟨rfl,hx⟩;have HX:=qAA.mk hx;clear hx))
  go_ret
  exact ⟨⟨_,rfl⟩,_,_,HX.out.blk,FR2.out.trans HX.out.fr,HX.out.bel⟩
 rw [if_neg h2]
 have d1:decide (r1 > 32)=false:=decide_eq_false h2
 have d2:decide (32 < r1)=false:=decide_eq_false h2
 have hcv:IntKind.i64.wrap r1=r1:=by rw [IntKind.wrap_i64];omega
 have hsb:wrap64 ((bs.length:Int) - r2)=(bs.length:Int) - r2:=by unfold wrap64;omega
 by_cases h3:r1 > (bs.length:Int) - r2
 ·rw [if_pos h3]
  have d3:decide (r1 > (bs.length:Int) - r2)=true:=decide_eq_true h3
  have d4:decide ((bs.length:Int) - r2 < r1)=true:=decide_eq_true h3
  clear hK hr hB hC hc hb hg hU hR he hu hw hN hL hfb hlast h2 h3
  generalize bs.length=m at *
  go_enter Try.func62,Try.ntmps62
  go_wp2_with (first | (go_at_call 67;refine (wt.ruint1 HK.out HC.out HCC.out).mono ?_;rintro e_ w2 ⟨rfl,hd⟩;have B2:=qAA.mk (HB.out.below hd.below);have FR2:=qAA.mk (wt.Fr.of_below (g:=g) hd.below);have BL2:=qAA.mk (qAh HBB.out HBB.out.size hd.below);clear hd h0 h1;have h0:=B2.out.c0;have h1:=B2.out.c1;have f1:=B2.out.fz 1) | (go_at_call 58;refine (wt.qCT BL2.out HGG.out B2.out 41 a).mono ?_;rintro e_ w3 ⟨rfl,hx⟩;have HX:=qAA.mk hx;clear hx))
  go_ret
  exact ⟨⟨_,rfl⟩,_,_,HX.out.blk,FR2.out.trans HX.out.fr,HX.out.bel⟩
 rw [if_neg h3]
 have d3:decide (r1 > (bs.length:Int) - r2)=false:=decide_eq_false h3
 have d4:decide ((bs.length:Int) - r2 < r1)=false:=decide_eq_false h3
 have HUL:=qAA.mk hL
 obtain ⟨q2,rfl⟩:=Int.eq_ofNat_of_zero_le (show 0≤r2 by omega)
 obtain ⟨q1,rfl⟩:=Int.eq_ofNat_of_zero_le (show 0≤r1 by omega)
 have hs2:=trivial
 obtain ⟨i0,hi0,_,hsz0,_⟩:=info_parts info5
 have n1:(q2:Int)≤(q2:Int)+(q1:Int):=by omega
 have n2:(q2:Int)+(q1:Int)≤(bs.length:Int):=by omega
 have n3:q2≤bs.length:=by omega
 have n4:q1≤bs.length - q2:=by omega
 have n5:q1≤32:=by omega
 have n0:(0:Int)≤(q2:Int):=Int.natCast_nonneg q2
 clear hu hL hN hsb hs2 h3 h2 d1 d2 d3 d4 hcv
 have hcm:=cut_mid (P:=Try.prog) 26 5 .i64 .i64 Try.underlying26 hi0 1 hsz0 A bs.length c (q2:Int) ((q2:Int)+(q1:Int)) n0 n1 n2 hc
 rw [Int.toNat_natCast,show ((q2:Int)+(q1:Int)).toNat - q2=q1 by omega] at hcm
 rw [Int.toNat_natCast,Int.toNat_natCast]
 have hlen:((bs.drop q2).take q1).length=q1:=by rw [List.length_take,List.length_drop];omega
 have hC3:∀ W,Below w.heap.size w W→(Kd.int .u8).C W (if c=q2 then A else A.map (·.add (q2 * 1))) ((bs.drop q2).take q1).length ((bs.drop q2).take q1):=fun W hW=>by
  have:=Kd.C_take (m:=q1) (Kd.C_drop (m:=q2) (Kd.qAe hC hW) (by omega) hc) (by rw [List.length_drop];omega)
  exact this
 have hC3:=qAA.mk hC3
 generalize (if c=q2 then A else A.map (·.add (q2 * 1)))=A2 at hcm hC3
 generalize hc2:c - q2=c2 at hcm
 obtain ⟨k,hk⟩:∃ k,strOfNums ((bs.drop q2).take q1)=k:=⟨_,rfl⟩
 have hks:k.size≤32:=by rw [← hk,wt.str_size,List.length_take];omega
 have HST:=qAA.mk hk
 have HLEN:=qAA.mk hlen
 have HKS:=qAA.mk hks
 have HW:=qAA.mk hw
 have hs0:wrap64 (1+(k.size:Int))=1+(k.size:Int):=by unfold wrap64;omega
 rw [hk]
 have hcv:IntKind.i64.wrap (q1:Int)=(q1:Int):=by rw [IntKind.wrap_i64];omega
 have hsb:wrap64 ((bs.length:Int) - (q2:Int))=(bs.length:Int) - (q2:Int):=by have:=HUL.out;unfold wrap64;omega
 have hs2:wrap64 ((q2:Int)+(q1:Int))=(q2:Int)+(q1:Int):=by have:=HUL.out;unfold wrap64;omega
 have d1:decide ((q1:Int) > 32)=false:=decide_eq_false (by omega)
 have d2:decide (32 < (q1:Int))=false:=decide_eq_false (by omega)
 have d3:decide ((q1:Int) > (bs.length:Int) - (q2:Int))=false:=decide_eq_false (by omega)
 have d4:decide ((bs.length:Int) - (q2:Int) < (q1:Int))=false:=decide_eq_false (by omega)
 clear hK hr hB hC hb hg hU hR he hi0 hsz0 hlen hk hc2 n1 n2 n3 n4 n5 n0
 have STR:=fun (w2:World) (hd:Below w.heap.size w w2)=>Kd.C_string (P:=Try.prog) (A:=A2) (c:=c2) Try.underlying26 Try.underlying5 Try.underlying9 (hC3.out w2 hd)
 rw [HLEN.out,HST.out] at STR
 have STR:=qAA.mk STR
 by_cases hn:0 < ks.length
 ·have hfb2:fb=false:=by rw [hfb];exact decide_eq_false (by omega)
  have hlast2:=hlast hn
  subst hfb2
  rw [← hlast2]
  clear hlast2 hlast hfb
  by_cases hlt:Op.bytesLess last.toList k.toList=true
  ·rw [if_neg (fun h=>h.2 hlt)]
   by_cases hv:1+(k.size:Int) > 2048 - wq
   ·rw [if_pos hv]
    have HV:=qAA.mk (show 2048 < wq+(1+(k.size:Int)) by omega)
    clear hv hn hw hc hks
    go_enter Try.func62,Try.ntmps62
    go_wp2_with (first | (go_at_call 67;refine (wt.ruint1 HK.out HC.out HCC.out).mono ?_;rintro e_ w2 ⟨rfl,hd⟩;have B2:=qAA.mk (HB.out.below hd.below);have FR2:=qAA.mk (wt.Fr.of_below (g:=g) hd.below);have BL2:=qAA.mk (qAh HBB.out HBB.out.size hd.below);have hst:=STR.out w2 hd.below;clear hd h0 h1;have h0:=B2.out.c0;have h1:=B2.out.c1;have f1:=B2.out.fz 1) | (go_at_call 59;refine (wt.heavN (BL2.out.setCell HGG.out _) HGG.out (B2.out.set1 _) (1+(k.size:Int)) a HW.out.2 (by have:=HKS.out;omega) HV.out).mono ?_;rintro e_ w3 ⟨rfl,hx⟩;have HX:=qAA.mk hx;clear hx))
    go_ret
    obtain ⟨x1,x2,hx⟩:=HX.out
    exact ⟨⟨_,rfl⟩,x1,x2,hx.blk,(FR2.out.trans (wt.Fr.set _ _ _ _)).trans hx.fr,hx.bel⟩
   ·rw [if_neg hv]
    have HV:=qAA.mk (show wq+(1+(k.size:Int))≤2048 by omega)
    clear hv hn hw hc hks
    go_enter Try.func62,Try.ntmps62
    go_wp2_with (first | (go_at_call 67;refine (wt.ruint1 HK.out HC.out HCC.out).mono ?_;rintro e_ w2 ⟨rfl,hd⟩;have B2:=qAA.mk (HB.out.below hd.below);have FR2:=qAA.mk (wt.Fr.of_below (g:=g) hd.below);have BL2:=qAA.mk (qAh HBB.out HBB.out.size hd.below);have hst:=STR.out w2 hd.below;clear hd h0 h1;have h0:=B2.out.c0;have h1:=B2.out.c1;have f1:=B2.out.fz 1) | (go_at_call 59;refine (wt.heavY (BL2.out.setCell HGG.out _) HGG.out (B2.out.set1 _) (1+(k.size:Int)) a HW.out.1 (by omega) HV.out).mono ?_;rintro e_ w3 ⟨rfl,hx⟩;have HX:=qAA.mk hx;clear hx))
    go_ret
    exact ⟨rfl,by rw [show 2048 - (2048 - wq - (1+(k.size:Int)))=wq+(1+(k.size:Int)) by omega];exact ⟨HX.out.blk,(FR2.out.trans (wt.Fr.set _ _ _ _)).trans HX.out.fr,HX.out.bel⟩⟩
  ·rw [if_pos ⟨hn,hlt⟩]
   have hlf:Op.bytesLess last.toList k.toList=false:=by simpa using hlt
   clear hlt hn hw hc hks
   go_enter Try.func62,Try.ntmps62
   go_wp2_with (first | (go_at_call 67;refine (wt.ruint1 HK.out HC.out HCC.out).mono ?_;rintro e_ w2 ⟨rfl,hd⟩;have B2:=qAA.mk (HB.out.below hd.below);have FR2:=qAA.mk (wt.Fr.of_below (g:=g) hd.below);have BL2:=qAA.mk (qAh HBB.out HBB.out.size hd.below);have hst:=STR.out w2 hd.below;clear hd h0 h1;have h0:=B2.out.c0;have h1:=B2.out.c1;have f1:=B2.out.fz 1) | (go_at_call 58;refine (wt.qCT BL2.out HGG.out B2.out 41 a).mono ?_;rintro e_ w3 ⟨rfl,hx⟩;have HX:=qAA.mk hx;clear hx))
   go_ret
   exact ⟨⟨_,rfl⟩,_,_,HX.out.blk,FR2.out.trans HX.out.fr,HX.out.bel⟩
 ·have hfb2:fb=true:=by rw [hfb];exact decide_eq_true (by omega)
  subst hfb2
  rw [if_neg (fun h=>hn h.1)]
  clear hlast hfb
  by_cases hv:1+(k.size:Int) > 2048 - wq
  ·rw [if_pos hv]
   have HV:=qAA.mk (show 2048 < wq+(1+(k.size:Int)) by omega)
   clear hv hn hw hc hks
   go_enter Try.func62,Try.ntmps62
   go_wp2_with (first | (go_at_call 67;refine (wt.ruint1 HK.out HC.out HCC.out).mono ?_;rintro e_ w2 ⟨rfl,hd⟩;have B2:=qAA.mk (HB.out.below hd.below);have FR2:=qAA.mk (wt.Fr.of_below (g:=g) hd.below);have BL2:=qAA.mk (qAh HBB.out HBB.out.size hd.below);have hst:=STR.out w2 hd.below;clear hd h0 h1;have h0:=B2.out.c0;have h1:=B2.out.c1;have f1:=B2.out.fz 1) | (go_at_call 59;refine (wt.heavN (BL2.out.setCell HGG.out _) HGG.out (B2.out.set1 _) (1+(k.size:Int)) a HW.out.2 (by have:=HKS.out;omega) HV.out).mono ?_;rintro e_ w3 ⟨rfl,hx⟩;have HX:=qAA.mk hx;clear hx))
   go_ret
   obtain ⟨x1,x2,hx⟩:=HX.out
   exact ⟨⟨_,rfl⟩,x1,x2,hx.blk,(FR2.out.trans (wt.Fr.set _ _ _ _)).trans hx.fr,hx.bel⟩
  ·rw [if_neg hv]
   have HV:=qAA.mk (show wq+(1+(k.size:Int))≤2048 by omega)
   clear hv hn hw hc hks
   go_enter Try.func62,Try.ntmps62
   go_wp2_with (first | (go_at_call 67;refine (wt.ruint1 HK.out HC.out HCC.out).mono ?_;rintro e_ w2 ⟨rfl,hd⟩;have B2:=qAA.mk (HB.out.below hd.below);have FR2:=qAA.mk (wt.Fr.of_below (g:=g) hd.below);have BL2:=qAA.mk (qAh HBB.out HBB.out.size hd.below);have hst:=STR.out w2 hd.below;clear hd h0 h1;have h0:=B2.out.c0;have h1:=B2.out.c1;have f1:=B2.out.fz 1) | (go_at_call 59;refine (wt.heavY (BL2.out.setCell HGG.out _) HGG.out (B2.out.set1 _) (1+(k.size:Int)) a HW.out.1 (by omega) HV.out).mono ?_;rintro e_ w3 ⟨rfl,hx⟩;have HX:=qAA.mk hx;clear hx))
   go_ret
   exact ⟨rfl,by rw [show 2048 - (2048 - wq - (1+(k.size:Int)))=wq+(1+(k.size:Int)) by omega];exact ⟨HX.out.blk,(FR2.out.trans (wt.Fr.set _ _ _ _)).trans HX.out.fr,HX.out.bel⟩⟩
end
end Go.Proofs.Ytnkbobblnhaclaa.X
namespace Go.Proofs.Ytnkbobblnhaclaa.X
open Go.RowKit Go.Proofs.YtnkbobblnhaclaaW.PrintWords Go.Proofs.YtnkbobblnhaclaaW.PrintLast Go.Proofs.YtnkbobblnhaclaaW.PrintMore Go.Proofs.YtnkbobblnhaclaaW
section
set_option maxHeartbeats 4000000
set_option maxRecDepth 100000
def wt.qCM (r:wt.R3 S25) (w0 w:World) (g:Nat) (A:Option Addr) (m c:Nat) (p:Int) (e:Ending) (w':World):Prop :=
 match r with
 | .ok x a' l'=>(∃ v3 v4:Value,e=.returned (.agg #[.int .i64 x.f0,.int .i64 x.f1,.string x.f2,v3,v4])∧k25.R 25 w' w0.heap.size (fun k=>w.heap.size≤k) v3 x.f3∧Kd.string.R 9 w' w0.heap.size (fun k=>w.heap.size≤k) v4 x.f4)∧wt.RNx w0 w w' g A m c a' (2048 - l') 0 p
 | .bad f q=>(∃ (x:S25) (v3 v4:Value),e=.returned (.agg #[.int .i64 x.f0,.int .i64 x.f1,.string x.f2,v3,v4])∧k25.R 25 w' w0.heap.size (fun k=>w.heap.size≤k) v3 x.f3∧Kd.string.R 9 w' w0.heap.size (fun k=>w.heap.size≤k) v4 x.f4)∧f ≠ 0∧wt.RNb w0 w w' g A m c f q
structure wt.RLy (W:World) (g:Nat) (A:Option Addr) (m c:Nat) (a wq f p:Int) (pa:Addr) (b:Int) (rb:Nat) (cs:Array Value):Prop where
 blk:wt.RB W g A m c a wq f p
 byt:W.cell? pa=some (.int .u8 b)
 res:W.heap[rb]?=some (.cells cs 25 (0,0))
section
variable {W W1:World} {g:Nat} {A:Option Addr} {m c:Nat} {a wq f p a' wq' f' p':Int} {pa:Addr} {b:Int} {rb:Nat} {cs:Array Value}
theorem wt.RLy.below (h:wt.RLy W g A m c a wq f p pa b rb cs) (hb:Below W.heap.size W W1):wt.RLy W1 g A m c a wq f p pa b rb cs :=
 ⟨h.blk.below hb,(hb.cell (qs4 W _ h.byt)).trans h.byt,qAW h.res hb⟩
theorem wt.RB.res_ne (hB:wt.RB W g A m c a wq f p) (hr:W.heap[rb]?=some (.cells cs 25 (0,0))):rb ≠ g:=by
 rintro rfl
 have hB':W.heap[rb]?=some (.cells #[.slice A m c,.int .i64 a,.int .i64 wq,.int .i64 f,.int .i64 p] 62 (0,0)):=hB
 rw [hB'] at hr
 injection hr with hr
 injection hr with _ hr
 exact absurd hr (by decide)
theorem wt.RLy.ne (h:wt.RLy W g A m c a wq f p pa b rb cs):pa.block ≠ g∧rb ≠ g:=by
 refine ⟨fun e1 => ?_,h.blk.res_ne h.res⟩
 have h4:=h.byt
 unfold World.cell? at h4
 rw [e1] at h4
 have hB':W.heap[g]?=some (.cells #[.slice A m c,.int .i64 a,.int .i64 wq,.int .i64 f,.int .i64 p] 62 (0,0)):=h.blk
 rw [hB'] at h4
 simp only at h4
 split at h4
 ·cases h4
 ·generalize pa.off=o at h4
  match o,h4 with
  | 0,h4=>simp at h4
  | 1,h4=>simp at h4
  | 2,h4=>simp at h4
  | 3,h4=>simp at h4
  | 4,h4=>simp at h4
  | o+5,h4=>simp at h4
theorem wt.RLy.fr (h:wt.RLy W g A m c a wq f p pa b rb cs) (hF:wt.Fr g W W1) (hB:wt.RB W1 g A m c a' wq' f' p'):wt.RLy W1 g A m c a' wq' f' p' pa b rb cs:=by
 have hlt:=qs4 W _ h.byt
 have h6:=hF.2 _ hlt h.ne.1
 exact ⟨hB,by rw [← h.byt];simp [World.cell?,h6],(hF.2 _ (qAg h.res) h.ne.2).trans h.res⟩
theorem wt.qBl {w0 w W5:World} (hF:wt.Fr g w W) (hB:wt.RB W g A m c a wq f p) (hne:rb ≠ g) (hG:W.grownBy W5 (some rb)) (hrb:w.heap.size≤rb) (hsz:w0.heap.size≤w.heap.size) (hb:Below w0.heap.size w0 W):wt.RNx w0 w W5 g A m c a wq f p :=
 ⟨(hG.block g (qAg hB) (fun e=>hne (Option.some.inj e).symm)).trans hB,
  ⟨Nat.le_trans hF.1 hG.size,fun k hk hne2=>(hG.block k (Nat.lt_of_lt_of_le hk hF.1) (fun e=>absurd (Option.some.inj e) (by omega))).trans (hF.2 k hk hne2)⟩,
  ⟨hG.os.trans hb.os,hG.tape.trans hb.tape,hG.output.trans hb.output,Nat.le_trans hb.size hG.size,fun k hk=>(hG.block k (by have:=hb.size;omega) (fun e=>absurd (Option.some.inj e) (by omega))).trans (hb.block k hk)⟩⟩
end
theorem wt.rv_b1 {bs:List Int} {u i:Int→Int × Int × Int} (hU:wt.Uin bs u i) (hR:wt.Rin bs u i) {w0 w:World} {g:Nat} {A:Option Addr} {c:Nat} {a wq p:Int} (hb:Below w0.heap.size w0 w) (hg:w0.heap.size≤g) (hB:wt.RB w g A bs.length c a wq 0 p) (hC:(Kd.int .u8).C w A bs.length bs) (hc:bs.length≤c) (within:Int) (ha1:a=(bs.length:Int)) :
  Calls Try.prog 40 #[.pointer (some ⟨g,0,none⟩),.int .i64 within] w (wt.qCM (.bad 41 a) w0 w g A bs.length c p):=by
 have HB:=qAA.mk hB
 have HC:=qAA.mk hC
 have HCC:=qAA.mk hc
 have HBB:=qAA.mk hb
 have HGG:=qAA.mk hg
 have HLL:=qAA.mk hU.L
 have HUU:=qAA.mk hU
 have HRR:=qAA.mk hR
 have HGL:=qAA.mk (show g < w.heap.size from qAg hB)
 have hu25:=Try.underlying25
 have HBW:=qAA.mk ((Below.refl w.heap.size w).alloc (Nat.le_refl _) (.cells #[.int .i64 0,.int .i64 0,.string ⟨#[]⟩,.slice none 0 0,.slice none 0 0] 25))
 have BL1:=qAA.mk (hb.alloc hb.size (.cells #[.int .i64 0,.int .i64 0,.string ⟨#[]⟩,.slice none 0 0,.slice none 0 0] 25))
 have t0:decide (a ≥ (bs.length:Int))=true:=decide_eq_true (by omega)
 have t1:decide ((bs.length:Int)≤a)=true:=decide_eq_true (by omega)
 have B1:=qAA.mk (HB.out.below HBW.out)
 have S1:=qAA.mk (show (w.alloc (.cells #[.int .i64 0,.int .i64 0,.string ⟨#[]⟩,.slice none 0 0,.slice none 0 0] 25)).heap[w.heap.size]?=some (.cells #[.int .i64 0,.int .i64 0,.string ⟨#[]⟩,.slice none 0 0,.slice none 0 0] 25 (0,0)) by simpa using heap_alloc_new w _)
 have h0:=B1.out.c0;have h1:=B1.out.c1
 clear ha1
 clear hU hR hb hg hB hC hc
 generalize bs.length=m at *
 go_enter Try.func40,Try.ntmps40
 go_wp2_with (first | (go_at_call 58;refine (wt.qCT BL1.out HGG.out B1.out 41 a).mono ?_;rintro e_ w3 ⟨rfl,hx⟩;have HX:=qAA.mk hx;have S3:=qAA.mk ((HX.out.fr.2 _ (qAg S1.out) (B1.out.res_ne S1.out)).trans S1.out);clear hx h0 h1) | ((with_reducible refine qAY (p:=4) rfl ?_);refine wt.qAk rfl rfl 4 _ rfl w.heap.size rfl (.int .i64 0) (.int .i64 0) (.string ⟨#[]⟩) (.slice none 0 0) (.slice none 0 0) rfl (fun q hq=>by simp at hq;rcases hq with rfl | rfl | rfl | rfl | rfl <;> rfl) _ rfl S3.out ?_;intro w5_ hres hgr;have HRES:=qAA.mk hres;have HGR:=qAA.mk hgr;clear hgr hres))
 go_wp2
 refine bodyPost_ret (results_cell_row rfl _ _ w.heap.size 25 _ (0,0) _ rfl HRES.out Try.underlying25 rfl (by kernel_rfl)) rfl ?_
 exact ⟨⟨⟨0,0,⟨#[]⟩,[],[]⟩,_,_,rfl,Kd.qBB _ _ _ _ _,Kd.qBB _ _ _ _ _⟩,by decide,_,_,wt.qBl ((wt.Fr.of_below HBW.out).trans HX.out.fr) HX.out.blk (B1.out.res_ne S1.out) HGR.out (Nat.le_refl _) HBB.out.size HX.out.bel⟩
theorem wt.rv_b2 {bs:List Int} {u i:Int→Int × Int × Int} (hU:wt.Uin bs u i) (hR:wt.Rin bs u i) {w0 w:World} {g:Nat} {A:Option Addr} {c:Nat} {a wq p:Int} (hb:Below w0.heap.size w0 w) (hg:w0.heap.size≤g) (hB:wt.RB w g A bs.length c a wq 0 p) (hC:(Kd.int .u8).C w A bs.length bs) (hc:bs.length≤c) (within:Int) (ha0:0≤a) (ha1:a < (bs.length:Int)) (hx:rd bs a > 6) :
  Calls Try.prog 40 #[.pointer (some ⟨g,0,none⟩),.int .i64 within] w (wt.qCM (.bad 41 a) w0 w g A bs.length c p):=by
 have HB:=qAA.mk hB
 have HC:=qAA.mk hC
 have HCC:=qAA.mk hc
 have HBB:=qAA.mk hb
 have HGG:=qAA.mk hg
 have HLL:=qAA.mk hU.L
 have HUU:=qAA.mk hU
 have HRR:=qAA.mk hR
 have HGL:=qAA.mk (show g < w.heap.size from qAg hB)
 have hu25:=Try.underlying25
 have HBW:=qAA.mk ((Below.refl w.heap.size w).alloc (Nat.le_refl _) (.cells #[.int .i64 0,.int .i64 0,.string ⟨#[]⟩,.slice none 0 0,.slice none 0 0] 25))
 have BL1:=qAA.mk (hb.alloc hb.size (.cells #[.int .i64 0,.int .i64 0,.string ⟨#[]⟩,.slice none 0 0,.slice none 0 0] 25))
 obtain ⟨a,rfl⟩:=Int.eq_ofNat_of_zero_le ha0
 have t0:decide ((a:Int) ≥ (bs.length:Int))=false:=decide_eq_false (by omega)
 have t1:decide ((bs.length:Int)≤(a:Int))=false:=decide_eq_false (by omega)
 have t2:decide (bs.length≤a)=false:=decide_eq_false (by omega)
 have t3:(a:Int) < (bs.length:Int):=ha1
 have t4:a < bs.length:=by omega
 have t5:decide (a < bs.length)=true:=decide_eq_true t4
 obtain ⟨ad,hA,hx0_⟩:=Kd.qBL hC (a:Int) (by omega) ha1
 subst hA
 rw [Int.toNat_natCast] at hx0_
 obtain ⟨x,hxd⟩:∃ x,rd bs (a:Int)=x:=⟨_,rfl⟩
 rw [hxd] at hx0_ hx
 have L1:=qAA.mk (show wt.RLy (w.alloc (.cells #[.int .i64 0,.int .i64 0,.string ⟨#[]⟩,.slice none 0 0,.slice none 0 0] 25)) g (some ad) bs.length c (a:Int) wq 0 p (ad.add a) x w.heap.size #[.int .i64 0,.int .i64 0,.string ⟨#[]⟩,.slice none 0 0,.slice none 0 0] from ⟨HB.out.below HBW.out,(HBW.out.cell (qs4 w _ hx0_)).trans hx0_,by simpa using heap_alloc_new w _⟩)
 clear hx0_ hxd
 have x1:decide (x > 6)=true:=decide_eq_true hx
 have x2:decide (6 < x)=true:=decide_eq_true hx
 clear hx
 have h0:=L1.out.blk.c0;have h1:=L1.out.blk.c1;have h2:=L1.out.blk.c2;have h3:=L1.out.blk.c3;have f1:=L1.out.blk.fz 1;have f2:=L1.out.blk.fz 2;have hx0:=L1.out.byt;have fr_:=qAC L1.out.res 0
 clear ha1 ha0
 clear hU hR hb hg hB hC hc
 generalize bs.length=m at *
 go_enter Try.func40,Try.ntmps40
 go_wp2_with (first | (go_at_call 58;refine (wt.qCT BL1.out HGG.out L1.out.blk 41 (a:Int)).mono ?_;rintro e_ w3 ⟨rfl,hx⟩;have HX:=qAA.mk hx;have LX:=qAA.mk (L1.out.fr HX.out.fr HX.out.blk);clear hx;clear h0 h1 h2 h3 f1 f2 hx0 fr_;have h0:=LX.out.blk.c0;have h1:=LX.out.blk.c1;have h2:=LX.out.blk.c2;have h3:=LX.out.blk.c3;have f1:=LX.out.blk.fz 1;have f2:=LX.out.blk.fz 2;have hx0:=LX.out.byt;have fr_:=qAC LX.out.res 0) | ((with_reducible refine qAY (p:=4) rfl ?_);refine wt.qAk rfl rfl 4 _ rfl w.heap.size rfl (.int .i64 0) (.int .i64 0) (.string ⟨#[]⟩) (.slice none 0 0) (.slice none 0 0) rfl (fun q hq=>by simp at hq;rcases hq with rfl | rfl | rfl | rfl | rfl <;> rfl) _ rfl LX.out.res ?_;intro w5_ hres hgr;have HRES:=qAA.mk hres;have HGR:=qAA.mk hgr;clear hgr hres))
 go_wp2
 refine bodyPost_ret (results_cell_row rfl _ _ w.heap.size 25 _ (0,0) _ rfl HRES.out Try.underlying25 rfl (by kernel_rfl)) rfl ?_
 exact ⟨⟨⟨0,0,⟨#[]⟩,[],[]⟩,_,_,rfl,Kd.qBB _ _ _ _ _,Kd.qBB _ _ _ _ _⟩,by decide,_,_,wt.qBl ((wt.Fr.of_below HBW.out).trans HX.out.fr) HX.out.blk L1.out.ne.2 HGR.out (Nat.le_refl _) HBB.out.size HX.out.bel⟩
theorem wt.rv_bd {bs:List Int} {u i:Int→Int × Int × Int} (hU:wt.Uin bs u i) (hR:wt.Rin bs u i) {w0 w:World} {g:Nat} {A:Option Addr} {c:Nat} {a wq p:Int} (hb:Below w0.heap.size w0 w) (hg:w0.heap.size≤g) (hB:wt.RB w g A bs.length c a wq 0 p) (hC:(Kd.int .u8).C w A bs.length bs) (hc:bs.length≤c) (within:Int) (ha0:0≤a) (ha1:a < (bs.length:Int)) (hx:rd bs a≤6) (hw:8≤within) :
  Calls Try.prog 40 #[.pointer (some ⟨g,0,none⟩),.int .i64 within] w (wt.qCM (.bad 42 a) w0 w g A bs.length c p):=by
 have HB:=qAA.mk hB
 have HC:=qAA.mk hC
 have HCC:=qAA.mk hc
 have HBB:=qAA.mk hb
 have HGG:=qAA.mk hg
 have HLL:=qAA.mk hU.L
 have HUU:=qAA.mk hU
 have HRR:=qAA.mk hR
 have HGL:=qAA.mk (show g < w.heap.size from qAg hB)
 have hu25:=Try.underlying25
 have HBW:=qAA.mk ((Below.refl w.heap.size w).alloc (Nat.le_refl _) (.cells #[.int .i64 0,.int .i64 0,.string ⟨#[]⟩,.slice none 0 0,.slice none 0 0] 25))
 have BL1:=qAA.mk (hb.alloc hb.size (.cells #[.int .i64 0,.int .i64 0,.string ⟨#[]⟩,.slice none 0 0,.slice none 0 0] 25))
 obtain ⟨a,rfl⟩:=Int.eq_ofNat_of_zero_le ha0
 have t0:decide ((a:Int) ≥ (bs.length:Int))=false:=decide_eq_false (by omega)
 have t1:decide ((bs.length:Int)≤(a:Int))=false:=decide_eq_false (by omega)
 have t2:decide (bs.length≤a)=false:=decide_eq_false (by omega)
 have t3:(a:Int) < (bs.length:Int):=ha1
 have t4:a < bs.length:=by omega
 have t5:decide (a < bs.length)=true:=decide_eq_true t4
 obtain ⟨ad,hA,hx0_⟩:=Kd.qBL hC (a:Int) (by omega) ha1
 subst hA
 rw [Int.toNat_natCast] at hx0_
 obtain ⟨x,hxd⟩:∃ x,rd bs (a:Int)=x:=⟨_,rfl⟩
 rw [hxd] at hx0_ hx
 have L1:=qAA.mk (show wt.RLy (w.alloc (.cells #[.int .i64 0,.int .i64 0,.string ⟨#[]⟩,.slice none 0 0,.slice none 0 0] 25)) g (some ad) bs.length c (a:Int) wq 0 p (ad.add a) x w.heap.size #[.int .i64 0,.int .i64 0,.string ⟨#[]⟩,.slice none 0 0,.slice none 0 0] from ⟨HB.out.below HBW.out,(HBW.out.cell (qs4 w _ hx0_)).trans hx0_,by simpa using heap_alloc_new w _⟩)
 clear hx0_ hxd
 have x1:decide (x > 6)=false:=decide_eq_false (by omega)
 have x2:decide (6 < x)=false:=decide_eq_false (by omega)
 have w1:decide (within ≥ 8)=true:=decide_eq_true hw
 have w2:decide (8≤within)=true:=decide_eq_true hw
 clear hx hw
 have h0:=L1.out.blk.c0;have h1:=L1.out.blk.c1;have h2:=L1.out.blk.c2;have h3:=L1.out.blk.c3;have f1:=L1.out.blk.fz 1;have f2:=L1.out.blk.fz 2;have hx0:=L1.out.byt;have fr_:=qAC L1.out.res 0
 clear ha1 ha0
 clear hU hR hb hg hB hC hc
 generalize bs.length=m at *
 go_enter Try.func40,Try.ntmps40
 go_wp2_with (first | (go_at_call 58;refine (wt.qCT BL1.out HGG.out L1.out.blk 42 (a:Int)).mono ?_;rintro e_ w3 ⟨rfl,hx⟩;have HX:=qAA.mk hx;have LX:=qAA.mk (L1.out.fr HX.out.fr HX.out.blk);clear hx;clear h0 h1 h2 h3 f1 f2 hx0 fr_;have h0:=LX.out.blk.c0;have h1:=LX.out.blk.c1;have h2:=LX.out.blk.c2;have h3:=LX.out.blk.c3;have f1:=LX.out.blk.fz 1;have f2:=LX.out.blk.fz 2;have hx0:=LX.out.byt;have fr_:=qAC LX.out.res 0) | ((with_reducible refine qAY (p:=4) rfl ?_);refine wt.qAk rfl rfl 4 _ rfl w.heap.size rfl (.int .i64 0) (.int .i64 0) (.string ⟨#[]⟩) (.slice none 0 0) (.slice none 0 0) rfl (fun q hq=>by simp at hq;rcases hq with rfl | rfl | rfl | rfl | rfl <;> rfl) _ rfl LX.out.res ?_;intro w5_ hres hgr;have HRES:=qAA.mk hres;have HGR:=qAA.mk hgr;clear hgr hres))
 go_wp2
 refine bodyPost_ret (results_cell_row rfl _ _ w.heap.size 25 _ (0,0) _ rfl HRES.out Try.underlying25 rfl (by kernel_rfl)) rfl ?_
 exact ⟨⟨⟨0,0,⟨#[]⟩,[],[]⟩,_,_,rfl,Kd.qBB _ _ _ _ _,Kd.qBB _ _ _ _ _⟩,by decide,_,_,wt.qBl ((wt.Fr.of_below HBW.out).trans HX.out.fr) HX.out.blk L1.out.ne.2 HGR.out (Nat.le_refl _) HBB.out.size HX.out.bel⟩
theorem wt.rv_bw {bs:List Int} {u i:Int→Int × Int × Int} (hU:wt.Uin bs u i) (hR:wt.Rin bs u i) {w0 w:World} {g:Nat} {A:Option Addr} {c:Nat} {a wq p:Int} (hb:Below w0.heap.size w0 w) (hg:w0.heap.size≤g) (hB:wt.RB w g A bs.length c a wq 0 p) (hC:(Kd.int .u8).C w A bs.length bs) (hc:bs.length≤c) (within:Int) (ha0:0≤a) (ha1:a < (bs.length:Int)) (hx:rd bs a≤6) (hw:within < 8) (hwq:wq≤2048) (hwv:2048 < wq+1) :
  Calls Try.prog 40 #[.pointer (some ⟨g,0,none⟩),.int .i64 within] w (wt.qCM (.bad 42 a) w0 w g A bs.length c p):=by
 have HB:=qAA.mk hB
 have HC:=qAA.mk hC
 have HCC:=qAA.mk hc
 have HBB:=qAA.mk hb
 have HGG:=qAA.mk hg
 have HLL:=qAA.mk hU.L
 have HUU:=qAA.mk hU
 have HRR:=qAA.mk hR
 have HGL:=qAA.mk (show g < w.heap.size from qAg hB)
 have hu25:=Try.underlying25
 have HBW:=qAA.mk ((Below.refl w.heap.size w).alloc (Nat.le_refl _) (.cells #[.int .i64 0,.int .i64 0,.string ⟨#[]⟩,.slice none 0 0,.slice none 0 0] 25))
 have BL1:=qAA.mk (hb.alloc hb.size (.cells #[.int .i64 0,.int .i64 0,.string ⟨#[]⟩,.slice none 0 0,.slice none 0 0] 25))
 obtain ⟨a,rfl⟩:=Int.eq_ofNat_of_zero_le ha0
 have t0:decide ((a:Int) ≥ (bs.length:Int))=false:=decide_eq_false (by omega)
 have t1:decide ((bs.length:Int)≤(a:Int))=false:=decide_eq_false (by omega)
 have t2:decide (bs.length≤a)=false:=decide_eq_false (by omega)
 have t3:(a:Int) < (bs.length:Int):=ha1
 have t4:a < bs.length:=by omega
 have t5:decide (a < bs.length)=true:=decide_eq_true t4
 obtain ⟨ad,hA,hx0_⟩:=Kd.qBL hC (a:Int) (by omega) ha1
 subst hA
 rw [Int.toNat_natCast] at hx0_
 obtain ⟨x,hxd⟩:∃ x,rd bs (a:Int)=x:=⟨_,rfl⟩
 rw [hxd] at hx0_ hx
 have L1:=qAA.mk (show wt.RLy (w.alloc (.cells #[.int .i64 0,.int .i64 0,.string ⟨#[]⟩,.slice none 0 0,.slice none 0 0] 25)) g (some ad) bs.length c (a:Int) wq 0 p (ad.add a) x w.heap.size #[.int .i64 0,.int .i64 0,.string ⟨#[]⟩,.slice none 0 0,.slice none 0 0] from ⟨HB.out.below HBW.out,(HBW.out.cell (qs4 w _ hx0_)).trans hx0_,by simpa using heap_alloc_new w _⟩)
 clear hx0_ hxd
 have x1:decide (x > 6)=false:=decide_eq_false (by omega)
 have x2:decide (6 < x)=false:=decide_eq_false (by omega)
 have w1:decide (within ≥ 8)=false:=decide_eq_false (by omega)
 have w2:decide (8≤within)=false:=decide_eq_false (by omega)
 have HWQ:=qAA.mk (And.intro hwq hwv)
 clear hx hw hwq hwv
 have h0:=L1.out.blk.c0;have h1:=L1.out.blk.c1;have h2:=L1.out.blk.c2;have h3:=L1.out.blk.c3;have f1:=L1.out.blk.fz 1;have f2:=L1.out.blk.fz 2;have hx0:=L1.out.byt;have fr_:=qAC L1.out.res 0
 clear ha1 ha0
 clear hU hR hb hg hB hC hc
 generalize bs.length=m at *
 go_enter Try.func40,Try.ntmps40
 go_wp2_with (first | (go_at_call 59;refine (wt.heavN BL1.out HGG.out L1.out.blk 1 (a:Int) HWQ.out.1 (by omega) HWQ.out.2).mono ?_;rintro e_ w3 ⟨rfl,b1,b2,hx⟩;have HX:=qAA.mk hx;have LX:=qAA.mk (L1.out.fr HX.out.fr HX.out.blk);clear hx;clear h0 h1 h2 h3 f1 f2 hx0 fr_;have h0:=LX.out.blk.c0;have h1:=LX.out.blk.c1;have h2:=LX.out.blk.c2;have h3:=LX.out.blk.c3;have f1:=LX.out.blk.fz 1;have f2:=LX.out.blk.fz 2;have hx0:=LX.out.byt;have fr_:=qAC LX.out.res 0) | ((with_reducible refine qAY (p:=4) rfl ?_);refine wt.qAk rfl rfl 4 _ rfl w.heap.size rfl (.int .i64 0) (.int .i64 0) (.string ⟨#[]⟩) (.slice none 0 0) (.slice none 0 0) rfl (fun q hq=>by simp at hq;rcases hq with rfl | rfl | rfl | rfl | rfl <;> rfl) _ rfl LX.out.res ?_;intro w5_ hres hgr;have HRES:=qAA.mk hres;have HGR:=qAA.mk hgr;clear hgr hres))
 go_wp2
 refine bodyPost_ret (results_cell_row rfl _ _ w.heap.size 25 _ (0,0) _ rfl HRES.out Try.underlying25 rfl (by kernel_rfl)) rfl ?_
 exact ⟨⟨⟨0,0,⟨#[]⟩,[],[]⟩,_,_,rfl,Kd.qBB _ _ _ _ _,Kd.qBB _ _ _ _ _⟩,by decide,_,_,wt.qBl ((wt.Fr.of_below HBW.out).trans HX.out.fr) HX.out.blk L1.out.ne.2 HGR.out (Nat.le_refl _) HBB.out.size HX.out.bel⟩
theorem wt.rv_t1 {bs:List Int} {u i:Int→Int × Int × Int} (hU:wt.Uin bs u i) (hR:wt.Rin bs u i) {w0 w:World} {g:Nat} {A:Option Addr} {c:Nat} {a wq p:Int} (hb:Below w0.heap.size w0 w) (hg:w0.heap.size≤g) (hB:wt.RB w g A bs.length c a wq 0 p) (hC:(Kd.int .u8).C w A bs.length bs) (hc:bs.length≤c) (within:Int) (hw:within < 8) (ha0:0≤a) (ha1:a < (bs.length:Int)) (hwq:0≤wq∧wq+1≤2048) (ht:rd bs a=1) :
  Calls Try.prog 40 #[.pointer (some ⟨g,0,none⟩),.int .i64 within] w (wt.qCM (.ok ⟨1,0,⟨#[]⟩,[],[]⟩ (a+1) (2048 - wq - 1)) w0 w g A bs.length c p):=by
 have HB:=qAA.mk hB
 have HC:=qAA.mk hC
 have HCC:=qAA.mk hc
 have HBB:=qAA.mk hb
 have HGG:=qAA.mk hg
 have HLL:=qAA.mk hU.L
 have HUU:=qAA.mk hU
 have HRR:=qAA.mk hR
 have HGL:=qAA.mk (show g < w.heap.size from qAg hB)
 have hu25:=Try.underlying25
 have HBW:=qAA.mk ((Below.refl w.heap.size w).alloc (Nat.le_refl _) (.cells #[.int .i64 0,.int .i64 0,.string ⟨#[]⟩,.slice none 0 0,.slice none 0 0] 25))
 have BL1:=qAA.mk (hb.alloc hb.size (.cells #[.int .i64 0,.int .i64 0,.string ⟨#[]⟩,.slice none 0 0,.slice none 0 0] 25))
 obtain ⟨a,rfl⟩:=Int.eq_ofNat_of_zero_le ha0
 have t0:decide ((a:Int) ≥ (bs.length:Int))=false:=decide_eq_false (by omega)
 have t1:decide ((bs.length:Int)≤(a:Int))=false:=decide_eq_false (by omega)
 have t2:decide (bs.length≤a)=false:=decide_eq_false (by omega)
 have t3:(a:Int) < (bs.length:Int):=ha1
 have t4:a < bs.length:=by omega
 have t5:decide (a < bs.length)=true:=decide_eq_true t4
 obtain ⟨ad,hA,hx0_⟩:=Kd.qBL hC (a:Int) (by omega) ha1
 subst hA
 rw [Int.toNat_natCast] at hx0_
 obtain ⟨x,hxd⟩:∃ x,rd bs (a:Int)=x:=⟨_,rfl⟩
 rw [hxd] at hx0_ ht
 have L1:=qAA.mk (show wt.RLy (w.alloc (.cells #[.int .i64 0,.int .i64 0,.string ⟨#[]⟩,.slice none 0 0,.slice none 0 0] 25)) g (some ad) bs.length c (a:Int) wq 0 p (ad.add a) x w.heap.size #[.int .i64 0,.int .i64 0,.string ⟨#[]⟩,.slice none 0 0,.slice none 0 0] from ⟨HB.out.below HBW.out,(HBW.out.cell (qs4 w _ hx0_)).trans hx0_,by simpa using heap_alloc_new w _⟩)
 clear hx0_ hxd
 subst ht
 have w1:decide (within ≥ 8)=false:=decide_eq_false (by omega)
 have w2:decide (8≤within)=false:=decide_eq_false (by omega)
 have HWQ:=qAA.mk hwq
 have hwr:wrap64 ((a:Int)+1)=(a:Int)+1:=by have:=HLL.out;unfold wrap64;omega
 have h0:=L1.out.blk.c0;have h1:=L1.out.blk.c1;have h2:=L1.out.blk.c2;have h3:=L1.out.blk.c3;have f1:=L1.out.blk.fz 1;have f2:=L1.out.blk.fz 2;have hx0:=L1.out.byt;have fr_:=qAC L1.out.res 0
 clear ha1 ha0 hwq hw
 clear hU hR hb hg hB hC hc
 generalize bs.length=m at *
 go_enter Try.func40,Try.ntmps40
 go_wp2_with (first | (go_at_call 59;refine (wt.heavY BL1.out HGG.out L1.out.blk 1 (a:Int) HWQ.out.1 (by omega) HWQ.out.2).mono ?_;rintro e_ w3 ⟨rfl,hx⟩;have L3:=qAA.mk (L1.out.fr hx.fr hx.blk);have FR3:=qAA.mk ((wt.Fr.of_below HBW.out).trans hx.fr);have BL3:=qAA.mk hx.bel;clear hx;clear h0 h1 h2 h3 f1 f2 hx0 fr_;have h0:=L3.out.blk.c0;have h1:=L3.out.blk.c1;have h2:=L3.out.blk.c2;have h3:=L3.out.blk.c3;have f1:=L3.out.blk.fz 1;have f2:=L3.out.blk.fz 2;have hx0:=L3.out.byt;have fr_:=qAC L3.out.res 0) | ((with_reducible refine qAY (p:=62) rfl ?_);go_must (refine qAq ?hg (t:=3) (p:=62) (v:=.tmp 60) (w1:=w3.setCell ⟨g,1,none⟩ (.int .i64 ((a:Int)+1))) ?ho ?hN ?hr ?_);(case ho=>rfl);(case hN=>rfl);(case hg=>rfl);(case hr=>first | (go_simp;done) | (go_simp;rfl));intro w4 ex;have L4:=qAA.mk (L3.out.fr (ex▸wt.Fr.set _ _ _ _) (ex▸L3.out.blk.set1 _));have FR4:=qAA.mk (show wt.Fr g w w4 from ex▸FR3.out.trans (wt.Fr.set _ _ _ _));have BL4:=qAA.mk (show Below w0.heap.size w0 w4 from ex▸BL3.out.setCell HGG.out _);clear ex;clear h0 h1 h2 h3 f1 f2 hx0 fr_;have h0:=L4.out.blk.c0;have h1:=L4.out.blk.c1;have h2:=L4.out.blk.c2;have h3:=L4.out.blk.c3;have f1:=L4.out.blk.fz 1;have f2:=L4.out.blk.fz 2;have hx0:=L4.out.byt;have fr_:=qAC L4.out.res 0) | ((with_reducible refine qAY (p:=4) rfl ?_);refine wt.qAk rfl rfl 4 _ rfl w.heap.size rfl (.int .i64 1) (.int .i64 0) (.string ⟨#[]⟩) (.slice none 0 0) (.slice none 0 0) rfl (fun q hq=>by simp at hq;rcases hq with rfl | rfl | rfl | rfl | rfl <;> rfl) _ rfl L4.out.res ?_;intro w5_ hres hgr;have HRES:=qAA.mk hres;have HGR:=qAA.mk hgr;clear hgr hres))
 go_wp2
 refine bodyPost_ret (results_cell_row rfl _ _ w.heap.size 25 _ (0,0) _ rfl HRES.out Try.underlying25 rfl (by kernel_rfl)) rfl ?_
 refine ⟨⟨_,_,rfl,Kd.qBB _ _ _ _ _,Kd.qBB _ _ _ _ _⟩, ?_⟩
 rw [(show 2048 - (2048 - wq - 1)=wq+1 by omega)]
 exact wt.qBl FR4.out L4.out.blk L4.out.ne.2 HGR.out (Nat.le_refl _) HBB.out.size BL4.out
theorem wt.rv_t2 {bs:List Int} {u i:Int→Int × Int × Int} (hU:wt.Uin bs u i) (hR:wt.Rin bs u i) {w0 w:World} {g:Nat} {A:Option Addr} {c:Nat} {a wq p:Int} (hb:Below w0.heap.size w0 w) (hg:w0.heap.size≤g) (hB:wt.RB w g A bs.length c a wq 0 p) (hC:(Kd.int .u8).C w A bs.length bs) (hc:bs.length≤c) (within:Int) (hw:within < 8) (ha0:0≤a) (ha1:a < (bs.length:Int)) (hwq:0≤wq∧wq+1≤2048) (ht:rd bs a=2) :
  Calls Try.prog 40 #[.pointer (some ⟨g,0,none⟩),.int .i64 within] w (wt.qCM (.ok ⟨1,1,⟨#[]⟩,[],[]⟩ (a+1) (2048 - wq - 1)) w0 w g A bs.length c p):=by
 have HB:=qAA.mk hB
 have HC:=qAA.mk hC
 have HCC:=qAA.mk hc
 have HBB:=qAA.mk hb
 have HGG:=qAA.mk hg
 have HLL:=qAA.mk hU.L
 have HUU:=qAA.mk hU
 have HRR:=qAA.mk hR
 have HGL:=qAA.mk (show g < w.heap.size from qAg hB)
 have hu25:=Try.underlying25
 have HBW:=qAA.mk ((Below.refl w.heap.size w).alloc (Nat.le_refl _) (.cells #[.int .i64 0,.int .i64 0,.string ⟨#[]⟩,.slice none 0 0,.slice none 0 0] 25))
 have BL1:=qAA.mk (hb.alloc hb.size (.cells #[.int .i64 0,.int .i64 0,.string ⟨#[]⟩,.slice none 0 0,.slice none 0 0] 25))
 obtain ⟨a,rfl⟩:=Int.eq_ofNat_of_zero_le ha0
 have t0:decide ((a:Int) ≥ (bs.length:Int))=false:=decide_eq_false (by omega)
 have t1:decide ((bs.length:Int)≤(a:Int))=false:=decide_eq_false (by omega)
 have t2:decide (bs.length≤a)=false:=decide_eq_false (by omega)
 have t3:(a:Int) < (bs.length:Int):=ha1
 have t4:a < bs.length:=by omega
 have t5:decide (a < bs.length)=true:=decide_eq_true t4
 obtain ⟨ad,hA,hx0_⟩:=Kd.qBL hC (a:Int) (by omega) ha1
 subst hA
 rw [Int.toNat_natCast] at hx0_
 obtain ⟨x,hxd⟩:∃ x,rd bs (a:Int)=x:=⟨_,rfl⟩
 rw [hxd] at hx0_ ht
 have L1:=qAA.mk (show wt.RLy (w.alloc (.cells #[.int .i64 0,.int .i64 0,.string ⟨#[]⟩,.slice none 0 0,.slice none 0 0] 25)) g (some ad) bs.length c (a:Int) wq 0 p (ad.add a) x w.heap.size #[.int .i64 0,.int .i64 0,.string ⟨#[]⟩,.slice none 0 0,.slice none 0 0] from ⟨HB.out.below HBW.out,(HBW.out.cell (qs4 w _ hx0_)).trans hx0_,by simpa using heap_alloc_new w _⟩)
 clear hx0_ hxd
 subst ht
 have w1:decide (within ≥ 8)=false:=decide_eq_false (by omega)
 have w2:decide (8≤within)=false:=decide_eq_false (by omega)
 have HWQ:=qAA.mk hwq
 have hwr:wrap64 ((a:Int)+1)=(a:Int)+1:=by have:=HLL.out;unfold wrap64;omega
 have h0:=L1.out.blk.c0;have h1:=L1.out.blk.c1;have h2:=L1.out.blk.c2;have h3:=L1.out.blk.c3;have f1:=L1.out.blk.fz 1;have f2:=L1.out.blk.fz 2;have hx0:=L1.out.byt;have fr_:=qAC L1.out.res 0
 clear ha1 ha0 hwq hw
 clear hU hR hb hg hB hC hc
 generalize bs.length=m at *
 go_enter Try.func40,Try.ntmps40
 go_wp2_with (first | (go_at_call 59;refine (wt.heavY BL1.out HGG.out L1.out.blk 1 (a:Int) HWQ.out.1 (by omega) HWQ.out.2).mono ?_;rintro e_ w3 ⟨rfl,hx⟩;have L3:=qAA.mk (L1.out.fr hx.fr hx.blk);have FR3:=qAA.mk ((wt.Fr.of_below HBW.out).trans hx.fr);have BL3:=qAA.mk hx.bel;clear hx;clear h0 h1 h2 h3 f1 f2 hx0 fr_;have h0:=L3.out.blk.c0;have h1:=L3.out.blk.c1;have h2:=L3.out.blk.c2;have h3:=L3.out.blk.c3;have f1:=L3.out.blk.fz 1;have f2:=L3.out.blk.fz 2;have hx0:=L3.out.byt;have fr_:=qAC L3.out.res 0) | ((with_reducible refine qAY (p:=62) rfl ?_);go_must (refine qAq ?hg (t:=3) (p:=62) (v:=.tmp 60) (w1:=w3.setCell ⟨g,1,none⟩ (.int .i64 ((a:Int)+1))) ?ho ?hN ?hr ?_);(case ho=>rfl);(case hN=>rfl);(case hg=>rfl);(case hr=>first | (go_simp;done) | (go_simp;rfl));intro w4 ex;have L4:=qAA.mk (L3.out.fr (ex▸wt.Fr.set _ _ _ _) (ex▸L3.out.blk.set1 _));have FR4:=qAA.mk (show wt.Fr g w w4 from ex▸FR3.out.trans (wt.Fr.set _ _ _ _));have BL4:=qAA.mk (show Below w0.heap.size w0 w4 from ex▸BL3.out.setCell HGG.out _);clear ex;clear h0 h1 h2 h3 f1 f2 hx0 fr_;have h0:=L4.out.blk.c0;have h1:=L4.out.blk.c1;have h2:=L4.out.blk.c2;have h3:=L4.out.blk.c3;have f1:=L4.out.blk.fz 1;have f2:=L4.out.blk.fz 2;have hx0:=L4.out.byt;have fr_:=qAC L4.out.res 0) | ((with_reducible refine qAY (p:=4) rfl ?_);refine wt.qAk rfl rfl 4 _ rfl w.heap.size rfl (.int .i64 1) (.int .i64 1) (.string ⟨#[]⟩) (.slice none 0 0) (.slice none 0 0) rfl (fun q hq=>by simp at hq;rcases hq with rfl | rfl | rfl | rfl | rfl <;> rfl) _ rfl L4.out.res ?_;intro w5_ hres hgr;have HRES:=qAA.mk hres;have HGR:=qAA.mk hgr;clear hgr hres))
 go_wp2
 refine bodyPost_ret (results_cell_row rfl _ _ w.heap.size 25 _ (0,0) _ rfl HRES.out Try.underlying25 rfl (by kernel_rfl)) rfl ?_
 refine ⟨⟨_,_,rfl,Kd.qBB _ _ _ _ _,Kd.qBB _ _ _ _ _⟩, ?_⟩
 rw [(show 2048 - (2048 - wq - 1)=wq+1 by omega)]
 exact wt.qBl FR4.out L4.out.blk L4.out.ne.2 HGR.out (Nat.le_refl _) HBB.out.size BL4.out
theorem wt.rv_t0 {bs:List Int} {u i:Int→Int × Int × Int} (hU:wt.Uin bs u i) (hR:wt.Rin bs u i) {w0 w:World} {g:Nat} {A:Option Addr} {c:Nat} {a wq p:Int} (hb:Below w0.heap.size w0 w) (hg:w0.heap.size≤g) (hB:wt.RB w g A bs.length c a wq 0 p) (hC:(Kd.int .u8).C w A bs.length bs) (hc:bs.length≤c) (within:Int) (hw:within < 8) (ha0:0≤a) (ha1:a < (bs.length:Int)) (hwq:0≤wq∧wq+1≤2048) (ht:rd bs a=0) :
  Calls Try.prog 40 #[.pointer (some ⟨g,0,none⟩),.int .i64 within] w (wt.qCM (.ok ⟨0,0,⟨#[]⟩,[],[]⟩ (a+1) (2048 - wq - 1)) w0 w g A bs.length c p):=by
 have HB:=qAA.mk hB
 have HC:=qAA.mk hC
 have HCC:=qAA.mk hc
 have HBB:=qAA.mk hb
 have HGG:=qAA.mk hg
 have HLL:=qAA.mk hU.L
 have HUU:=qAA.mk hU
 have HRR:=qAA.mk hR
 have HGL:=qAA.mk (show g < w.heap.size from qAg hB)
 have hu25:=Try.underlying25
 have HBW:=qAA.mk ((Below.refl w.heap.size w).alloc (Nat.le_refl _) (.cells #[.int .i64 0,.int .i64 0,.string ⟨#[]⟩,.slice none 0 0,.slice none 0 0] 25))
 have BL1:=qAA.mk (hb.alloc hb.size (.cells #[.int .i64 0,.int .i64 0,.string ⟨#[]⟩,.slice none 0 0,.slice none 0 0] 25))
 obtain ⟨a,rfl⟩:=Int.eq_ofNat_of_zero_le ha0
 have t0:decide ((a:Int) ≥ (bs.length:Int))=false:=decide_eq_false (by omega)
 have t1:decide ((bs.length:Int)≤(a:Int))=false:=decide_eq_false (by omega)
 have t2:decide (bs.length≤a)=false:=decide_eq_false (by omega)
 have t3:(a:Int) < (bs.length:Int):=ha1
 have t4:a < bs.length:=by omega
 have t5:decide (a < bs.length)=true:=decide_eq_true t4
 obtain ⟨ad,hA,hx0_⟩:=Kd.qBL hC (a:Int) (by omega) ha1
 subst hA
 rw [Int.toNat_natCast] at hx0_
 obtain ⟨x,hxd⟩:∃ x,rd bs (a:Int)=x:=⟨_,rfl⟩
 rw [hxd] at hx0_ ht
 have L1:=qAA.mk (show wt.RLy (w.alloc (.cells #[.int .i64 0,.int .i64 0,.string ⟨#[]⟩,.slice none 0 0,.slice none 0 0] 25)) g (some ad) bs.length c (a:Int) wq 0 p (ad.add a) x w.heap.size #[.int .i64 0,.int .i64 0,.string ⟨#[]⟩,.slice none 0 0,.slice none 0 0] from ⟨HB.out.below HBW.out,(HBW.out.cell (qs4 w _ hx0_)).trans hx0_,by simpa using heap_alloc_new w _⟩)
 clear hx0_ hxd
 subst ht
 have w1:decide (within ≥ 8)=false:=decide_eq_false (by omega)
 have w2:decide (8≤within)=false:=decide_eq_false (by omega)
 have HWQ:=qAA.mk hwq
 have hwr:wrap64 ((a:Int)+1)=(a:Int)+1:=by have:=HLL.out;unfold wrap64;omega
 have h0:=L1.out.blk.c0;have h1:=L1.out.blk.c1;have h2:=L1.out.blk.c2;have h3:=L1.out.blk.c3;have f1:=L1.out.blk.fz 1;have f2:=L1.out.blk.fz 2;have hx0:=L1.out.byt;have fr_:=qAC L1.out.res 0
 clear ha1 ha0 hwq hw
 clear hU hR hb hg hB hC hc
 generalize bs.length=m at *
 go_enter Try.func40,Try.ntmps40
 go_wp2_with (first | (go_at_call 59;refine (wt.heavY BL1.out HGG.out L1.out.blk 1 (a:Int) HWQ.out.1 (by omega) HWQ.out.2).mono ?_;rintro e_ w3 ⟨rfl,hx⟩;have L3:=qAA.mk (L1.out.fr hx.fr hx.blk);have FR3:=qAA.mk ((wt.Fr.of_below HBW.out).trans hx.fr);have BL3:=qAA.mk hx.bel;clear hx;clear h0 h1 h2 h3 f1 f2 hx0 fr_;have h0:=L3.out.blk.c0;have h1:=L3.out.blk.c1;have h2:=L3.out.blk.c2;have h3:=L3.out.blk.c3;have f1:=L3.out.blk.fz 1;have f2:=L3.out.blk.fz 2;have hx0:=L3.out.byt;have fr_:=qAC L3.out.res 0) | ((with_reducible refine qAY (p:=62) rfl ?_);go_must (refine qAq ?hg (t:=3) (p:=62) (v:=.tmp 60) (w1:=w3.setCell ⟨g,1,none⟩ (.int .i64 ((a:Int)+1))) ?ho ?hN ?hr ?_);(case ho=>rfl);(case hN=>rfl);(case hg=>rfl);(case hr=>first | (go_simp;done) | (go_simp;rfl));intro w4 ex;have L4:=qAA.mk (L3.out.fr (ex▸wt.Fr.set _ _ _ _) (ex▸L3.out.blk.set1 _));have FR4:=qAA.mk (show wt.Fr g w w4 from ex▸FR3.out.trans (wt.Fr.set _ _ _ _));have BL4:=qAA.mk (show Below w0.heap.size w0 w4 from ex▸BL3.out.setCell HGG.out _);clear ex;clear h0 h1 h2 h3 f1 f2 hx0 fr_;have h0:=L4.out.blk.c0;have h1:=L4.out.blk.c1;have h2:=L4.out.blk.c2;have h3:=L4.out.blk.c3;have f1:=L4.out.blk.fz 1;have f2:=L4.out.blk.fz 2;have hx0:=L4.out.byt;have fr_:=qAC L4.out.res 0) | ((with_reducible refine qAY (p:=4) rfl ?_);refine wt.qAk rfl rfl 4 _ rfl w.heap.size rfl (.int .i64 0) (.int .i64 0) (.string ⟨#[]⟩) (.slice none 0 0) (.slice none 0 0) rfl (fun q hq=>by simp at hq;rcases hq with rfl | rfl | rfl | rfl | rfl <;> rfl) _ rfl L4.out.res ?_;intro w5_ hres hgr;have HRES:=qAA.mk hres;have HGR:=qAA.mk hgr;clear hgr hres))
 go_wp2
 refine bodyPost_ret (results_cell_row rfl _ _ w.heap.size 25 _ (0,0) _ rfl HRES.out Try.underlying25 rfl (by kernel_rfl)) rfl ?_
 refine ⟨⟨_,_,rfl,Kd.qBB _ _ _ _ _,Kd.qBB _ _ _ _ _⟩, ?_⟩
 rw [(show 2048 - (2048 - wq - 1)=wq+1 by omega)]
 exact wt.qBl FR4.out L4.out.blk L4.out.ne.2 HGR.out (Nat.le_refl _) HBB.out.size BL4.out
theorem wt.rv_t3 {bs:List Int} {u i:Int→Int × Int × Int} (hU:wt.Uin bs u i) (hR:wt.Rin bs u i) {w0 w:World} {g:Nat} {A:Option Addr} {c:Nat} {a wq p:Int} (hb:Below w0.heap.size w0 w) (hg:w0.heap.size≤g) (hB:wt.RB w g A bs.length c a wq 0 p) (hC:(Kd.int .u8).C w A bs.length bs) (hc:bs.length≤c) (within:Int) (hw:within < 8) (ha0:0≤a) (ha1:a < (bs.length:Int)) (hwq:0≤wq∧wq+1≤2048) (ht:rd bs a=3) (he:(i (a+1)).2.2=0) :
  Calls Try.prog 40 #[.pointer (some ⟨g,0,none⟩),.int .i64 within] w (wt.qCM (.ok ⟨2,(i (a+1)).1,⟨#[]⟩,[],[]⟩ (i (a+1)).2.1 (2048 - wq - 1)) w0 w g A bs.length c p):=by
 have HB:=qAA.mk hB
 have HC:=qAA.mk hC
 have HCC:=qAA.mk hc
 have HBB:=qAA.mk hb
 have HGG:=qAA.mk hg
 have HLL:=qAA.mk hU.L
 have HUU:=qAA.mk hU
 have HRR:=qAA.mk hR
 have HGL:=qAA.mk (show g < w.heap.size from qAg hB)
 have hu25:=Try.underlying25
 have HBW:=qAA.mk ((Below.refl w.heap.size w).alloc (Nat.le_refl _) (.cells #[.int .i64 0,.int .i64 0,.string ⟨#[]⟩,.slice none 0 0,.slice none 0 0] 25))
 have BL1:=qAA.mk (hb.alloc hb.size (.cells #[.int .i64 0,.int .i64 0,.string ⟨#[]⟩,.slice none 0 0,.slice none 0 0] 25))
 obtain ⟨a,rfl⟩:=Int.eq_ofNat_of_zero_le ha0
 have t0:decide ((a:Int) ≥ (bs.length:Int))=false:=decide_eq_false (by omega)
 have t1:decide ((bs.length:Int)≤(a:Int))=false:=decide_eq_false (by omega)
 have t2:decide (bs.length≤a)=false:=decide_eq_false (by omega)
 have t3:(a:Int) < (bs.length:Int):=ha1
 have t4:a < bs.length:=by omega
 have t5:decide (a < bs.length)=true:=decide_eq_true t4
 obtain ⟨ad,hA,hx0_⟩:=Kd.qBL hC (a:Int) (by omega) ha1
 subst hA
 rw [Int.toNat_natCast] at hx0_
 obtain ⟨x,hxd⟩:∃ x,rd bs (a:Int)=x:=⟨_,rfl⟩
 rw [hxd] at hx0_ ht
 have L1:=qAA.mk (show wt.RLy (w.alloc (.cells #[.int .i64 0,.int .i64 0,.string ⟨#[]⟩,.slice none 0 0,.slice none 0 0] 25)) g (some ad) bs.length c (a:Int) wq 0 p (ad.add a) x w.heap.size #[.int .i64 0,.int .i64 0,.string ⟨#[]⟩,.slice none 0 0,.slice none 0 0] from ⟨HB.out.below HBW.out,(HBW.out.cell (qs4 w _ hx0_)).trans hx0_,by simpa using heap_alloc_new w _⟩)
 clear hx0_ hxd
 subst ht
 have w1:decide (within ≥ 8)=false:=decide_eq_false (by omega)
 have w2:decide (8≤within)=false:=decide_eq_false (by omega)
 have HWQ:=qAA.mk hwq
 have hwr:wrap64 ((a:Int)+1)=(a:Int)+1:=by have:=HLL.out;unfold wrap64;omega
 obtain ⟨K,hK⟩:=hR.I
 have HK:=qAA.mk (hK ((a:Int)+1))
 obtain ⟨r1,r2,r3,hr⟩:∃ r1 r2 r3,i ((a:Int)+1)=(r1,r2,r3):=⟨_,_,_,rfl⟩
 rw [hr] at he HK ⊢
 dsimp only at he ⊢
 subst he
 clear hK hr
 have h0:=L1.out.blk.c0;have h1:=L1.out.blk.c1;have h2:=L1.out.blk.c2;have h3:=L1.out.blk.c3;have f1:=L1.out.blk.fz 1;have f2:=L1.out.blk.fz 2;have hx0:=L1.out.byt;have fr_:=qAC L1.out.res 0
 clear ha1 ha0 hwq hw
 clear hU hR hb hg hB hC hc
 generalize bs.length=m at *
 go_enter Try.func40,Try.ntmps40
 go_wp2_with (first | (go_at_call 59;refine (wt.heavY BL1.out HGG.out L1.out.blk 1 (a:Int) HWQ.out.1 (by omega) HWQ.out.2).mono ?_;rintro e_ w3 ⟨rfl,hx⟩;have L3:=qAA.mk (L1.out.fr hx.fr hx.blk);have FR3:=qAA.mk ((wt.Fr.of_below HBW.out).trans hx.fr);have BL3:=qAA.mk hx.bel;clear hx;clear h0 h1 h2 h3 f1 f2 hx0 fr_;have h0:=L3.out.blk.c0;have h1:=L3.out.blk.c1;have h2:=L3.out.blk.c2;have h3:=L3.out.blk.c3;have f1:=L3.out.blk.fz 1;have f2:=L3.out.blk.fz 2;have hx0:=L3.out.byt;have fr_:=qAC L3.out.res 0) | ((with_reducible refine qAY (p:=62) rfl ?_);go_must (refine qAq ?hg (t:=3) (p:=62) (v:=.tmp 60) (w1:=w3.setCell ⟨g,1,none⟩ (.int .i64 ((a:Int)+1))) ?ho ?hN ?hr ?_);(case ho=>rfl);(case hN=>rfl);(case hg=>rfl);(case hr=>first | (go_simp;done) | (go_simp;rfl));intro w4 ex;have L4:=qAA.mk (L3.out.fr (ex▸wt.Fr.set _ _ _ _) (ex▸L3.out.blk.set1 _));have FR4:=qAA.mk (show wt.Fr g w w4 from ex▸FR3.out.trans (wt.Fr.set _ _ _ _));have BL4:=qAA.mk (show Below w0.heap.size w0 w4 from ex▸BL3.out.setCell HGG.out _);clear ex;clear h0 h1 h2 h3 f1 f2 hx0 fr_;have h0:=L4.out.blk.c0;have h1:=L4.out.blk.c1;have h2:=L4.out.blk.c2;have h3:=L4.out.blk.c3;have f1:=L4.out.blk.fz 1;have f2:=L4.out.blk.fz 2;have hx0:=L4.out.byt;have fr_:=qAC L4.out.res 0))
 clear h0 h1 h2 h3 f1 f2 hx0 fr_
 refine qBd (n:=16) (S:=fun w'=>w'.cell? ⟨g,0,none⟩=some (.slice (some ad) m c)∧w'.cell? ⟨g,1,none⟩=some (.int .i64 ((a:Int)+1))) (ds:=[]) #[qF,qF,qF,qF,qF,qF,qF,qF,qF,qF,qF,qF,qF,qF,qF,qF] (by kernel_rfl) rfl rfl ⟨(L4.out.blk.below (qAc (Below.refl _ _))).c0,(L4.out.blk.below (qAc (Below.refl _ _))).c1⟩ (fun hHeld => ?_)
 generalize hwd:w4.drew=wd at hHeld ⊢
 have Ld:=qAA.mk (hwd▸L4.out.below (qAc (Below.refl _ _)))
 have FRd:=qAA.mk (hwd▸FR4.out.trans (wt.Fr.of_below (g:=g) (qAc (Below.refl _ _))))
 have BLd:=qAA.mk (hwd▸qAc BL4.out)
 clear hwd
 refine qAd (i:=0) (N:=some 79) (v := ?_) (a' := ?_) #[qT,qF,qF,qF,qF,qF,qF,qF,qF,qF,qF,qF,qF,qF,qF,qF] rfl rfl (by kernel_rfl) (fun _ _ _ h=>h) (Or.inl ⟨by rfl, ?_⟩) ?_ ?_
 rotate_left
 ·intro w'
  go_simp
  with_reducible rfl
 rotate_left
 ·simp only [Act.put,qs1,qs2,qs3,qAR,qAT]
  rfl
 refine qAd (i:=1) (N:=some 80) (v := ?_) (a' := ?_) #[qT,qT,qF,qF,qF,qF,qF,qF,qF,qF,qF,qF,qF,qF,qF,qF] rfl rfl (by kernel_rfl) (fun _ _ _ h=>h) (Or.inl ⟨by rfl, ?_⟩) ?_ ?_
 rotate_left
 ·intro w'
  go_simp
  with_reducible rfl
 rotate_left
 ·simp only [Act.put,qs1,qs2,qs3,qAR,qAT]
  rfl
 refine qAd (i:=2) (N:=some 81) (v := ?_) (a' := ?_) #[qT,qT,qT,qF,qF,qF,qF,qF,qF,qF,qF,qF,qF,qF,qF,qF] rfl rfl (by kernel_rfl) (fun _ _ _ h=>h) (Or.inl ⟨by rfl, ?_⟩) ?_ ?_
 rotate_left
 ·intro w'
  go_simp
  with_reducible rfl
 rotate_left
 ·simp only [Act.put,qs1,qs2,qs3,qAR,qAT]
  rfl
 refine qAd (i:=4) (N:=some 83) (v := ?_) (a' := ?_) #[qT,qT,qT,qF,qT,qF,qF,qF,qF,qF,qF,qF,qF,qF,qF,qF] rfl rfl (by kernel_rfl) (fun _ _ _ h=>h) (Or.inl ⟨by rfl, ?_⟩) ?_ ?_
 rotate_left
 ·intro w'
  go_simp
  with_reducible rfl
 rotate_left
 ·simp only [Act.put,qs1,qs2,qs3,qAR,qAT]
  rfl
 refine qAd (i:=5) (N:=some 84) (v := ?_) (a' := ?_) #[qT,qT,qT,qF,qT,qT,qF,qF,qF,qF,qF,qF,qF,qF,qF,qF] rfl rfl (by kernel_rfl) (fun _ _ _ h=>h) (Or.inl ⟨by rfl, ?_⟩) ?_ ?_
 rotate_left
 ·intro w'
  go_simp
  with_reducible rfl
 rotate_left
 ·simp only [Act.put,qs1,qs2,qs3,qAR,qAT]
  rfl
 refine qAd (i:=6) (N:=some 85) (v := ?_) (a' := ?_) #[qT,qT,qT,qF,qT,qT,qT,qF,qF,qF,qF,qF,qF,qF,qF,qF] rfl rfl (by kernel_rfl) (fun _ _ _ h=>h) (Or.inl ⟨by rfl, ?_⟩) ?_ ?_
 rotate_left
 ·intro w'
  go_simp
  with_reducible rfl
 rotate_left
 ·simp only [Act.put,qs1,qs2,qs3,qAR,qAT]
  rfl
 refine qBP (i:=3) (N:=some 82) (v := ?_) (a' := ?_) #[qT,qT,qT,qT,qT,qT,qT,qF,qF,qF,qF,qF,qF,qF,qF,qF] rfl rfl (by kernel_rfl) (fun _ _ _ h=>h) (Or.inl ⟨by rfl, ?_⟩) hHeld ?_ ?_
 rotate_left
 ·rintro w' ⟨s0,s1⟩
  go_simp
  with_reducible rfl
 rotate_left
 ·simp only [Act.put,qs1,qs2,qs3,qAR,qAT]
  rfl
 refine qBP (i:=7) (N:=some 86) (v := ?_) (a' := ?_) #[qT,qT,qT,qT,qT,qT,qT,qT,qF,qF,qF,qF,qF,qF,qF,qF] rfl rfl (by kernel_rfl) (fun _ _ _ h=>h) (Or.inl ⟨by rfl, ?_⟩) hHeld ?_ ?_
 rotate_left
 ·rintro w' ⟨s0,s1⟩
  go_simp
  with_reducible rfl
 rotate_left
 ·simp only [Act.put,qs1,qs2,qs3,qAR,qAT]
  rfl
 refine one_ (i:=8) (N:=some 87) #[qT,qT,qT,qT,qT,qT,qT,qT,qT,qF,qF,qF,qF,qF,qF,qF] rfl rfl (by kernel_rfl) (by decide) (fun K hK => ?_)
 refine qB2 Try.func60 (by kernel_rfl) rfl #[.slice (some ad) m c,.int .i64 ((a:Int)+1)] (by rfl) rfl rfl (by (try simp only [List.map_toArray,List.map_cons,List.map_nil]);first | done | rfl) ?_
 refine (wt.rint1 HK.out (wt.qB6 HC.out HB.out FRd.out) HCC.out).mono ?_
 rintro e w5 ⟨rfl,hd⟩
 refine ⟨_,rfl, ?_⟩
 have L5:=qAA.mk (Ld.out.below hd.below)
 have FR5:=qAA.mk (FRd.out.trans (wt.Fr.of_below hd.below))
 have BL5:=qAA.mk (qAh BLd.out BLd.out.size hd.below)
 clear hd
 refine hK.out _ _ ⟨L5.out.blk.c0,L5.out.blk.c1⟩ (fun hHeld => ?_)
 clear hK K
 refine qBS (a' := ?_) ?_ ?_
 rotate_left
 ·show Act.put _ (some 87) _=_
  simp only [Act.put,qs1,qs2,qs3,qAR,qAT]
  rfl
 refine qAd (i:=9) (N:=some 78) (v := ?_) (a' := ?_) #[qT,qT,qT,qT,qT,qT,qT,qT,qT,qT,qF,qF,qF,qF,qF,qF] rfl rfl (by kernel_rfl) (fun _ _ _ h=>h) (Or.inl ⟨by rfl, ?_⟩) ?_ ?_
 rotate_left
 ·intro w'
  go_simp
  with_reducible rfl
 rotate_left
 ·simp only [Act.put,qs1,qs2,qs3,qAR,qAT]
  rfl
 refine qAd (i:=10) (N:=some 88) (v := ?_) (a' := ?_) #[qT,qT,qT,qT,qT,qT,qT,qT,qT,qT,qT,qF,qF,qF,qF,qF] rfl rfl (by kernel_rfl) (fun _ _ _ h=>h) (Or.inl ⟨by rfl, ?_⟩) ?_ ?_
 rotate_left
 ·intro w'
  go_simp
  with_reducible rfl
 rotate_left
 ·simp only [Act.put,qs1,qs2,qs3,qAR,qAT]
  rfl
 refine qAd (i:=11) (N:=some 89) (v := ?_) (a' := ?_) #[qT,qT,qT,qT,qT,qT,qT,qT,qT,qT,qT,qT,qF,qF,qF,qF] rfl rfl (by kernel_rfl) (fun _ _ _ h=>h) (Or.inl ⟨by rfl, ?_⟩) ?_ ?_
 rotate_left
 ·intro w'
  go_simp
  with_reducible rfl
 rotate_left
 ·simp only [Act.put,qs1,qs2,qs3,qAR,qAT]
  rfl
 refine qAd (i:=12) (N:=some 90) (v := ?_) (a' := ?_) #[qT,qT,qT,qT,qT,qT,qT,qT,qT,qT,qT,qT,qT,qF,qF,qF] rfl rfl (by kernel_rfl) (fun _ _ _ h=>h) (Or.inl ⟨by rfl, ?_⟩) ?_ ?_
 rotate_left
 ·intro w'
  go_simp
  with_reducible rfl
 rotate_left
 ·simp only [Act.put,qs1,qs2,qs3,qAR,qAT]
  rfl
 refine qAd (i:=13) (N:=some 6) (v := ?_) (a' := ?_) #[qT,qT,qT,qT,qT,qT,qT,qT,qT,qT,qT,qT,qT,qT,qF,qF] rfl rfl (by kernel_rfl) (fun _ _ _ h=>h) (Or.inl ⟨by rfl, ?_⟩) ?_ ?_
 rotate_left
 ·intro w'
  go_simp
  with_reducible rfl
 rotate_left
 ·simp only [Act.put,qs1,qs2,qs3,qAR,qAT]
  rfl
 refine qAd (i:=14) (N:=some 7) (v := ?_) (a' := ?_) #[qT,qT,qT,qT,qT,qT,qT,qT,qT,qT,qT,qT,qT,qT,qT,qF] rfl rfl (by kernel_rfl) (fun _ _ _ h=>h) (Or.inl ⟨by rfl, ?_⟩) ?_ ?_
 rotate_left
 ·intro w'
  go_simp
  with_reducible rfl
 rotate_left
 ·simp only [Act.put,qs1,qs2,qs3,qAR,qAT]
  rfl
 refine qAd (i:=15) (N:=some 8) (v := ?_) (a' := ?_) #[qT,qT,qT,qT,qT,qT,qT,qT,qT,qT,qT,qT,qT,qT,qT,qT] rfl rfl (by kernel_rfl) (fun _ _ _ h=>h) (Or.inl ⟨by rfl, ?_⟩) ?_ ?_
 rotate_left
 ·intro w'
  go_simp
  with_reducible rfl
 rotate_left
 ·simp only [Act.put,qs1,qs2,qs3,qAR,qAT]
  rfl
 refine qBu (by kernel_rfl) ?_
 have h0:=L5.out.blk.c0;have h1:=L5.out.blk.c1;have h2:=L5.out.blk.c2;have h3:=L5.out.blk.c3;have f1:=L5.out.blk.fz 1;have f2:=L5.out.blk.fz 2;have hx0:=L5.out.byt;have fr_:=qAC L5.out.res 0
 go_wp2_with (first | ((with_reducible refine qAY (p:=103) rfl ?_);go_must (refine qAq ?hg (t:=3) (p:=103) (v:=.tmp 101) (w1:=w5.setCell ⟨g,1,none⟩ (.int .i64 r2)) ?ho ?hN ?hr ?_);(case ho=>rfl);(case hN=>rfl);(case hg=>rfl);(case hr=>first | (go_simp;done) | (go_simp;rfl));intro w6 ex;have L6:=qAA.mk (L5.out.fr (ex▸wt.Fr.set _ _ _ _) (ex▸L5.out.blk.set1 _));have FR6:=qAA.mk (show wt.Fr g w w6 from ex▸FR5.out.trans (wt.Fr.set _ _ _ _));have BL6:=qAA.mk (show Below w0.heap.size w0 w6 from ex▸BL5.out.setCell HGG.out _);clear ex;clear h0 h1 h2 h3 f1 f2 hx0 fr_;have h0:=L6.out.blk.c0;have h1:=L6.out.blk.c1;have h2:=L6.out.blk.c2;have h3:=L6.out.blk.c3;have f1:=L6.out.blk.fz 1;have f2:=L6.out.blk.fz 2;have hx0:=L6.out.byt;have fr_:=qAC L6.out.res 0) | ((with_reducible refine qAY (p:=4) rfl ?_);refine wt.qAk rfl rfl 4 _ rfl w.heap.size rfl (.int .i64 2) (.int .i64 r1) (.string ⟨#[]⟩) (.slice none 0 0) (.slice none 0 0) rfl (fun q hq=>by simp at hq;rcases hq with rfl | rfl | rfl | rfl | rfl <;> rfl) _ rfl L6.out.res ?_;intro w5_ hres hgr;have HRES:=qAA.mk hres;have HGR:=qAA.mk hgr;clear hgr hres))
 go_wp2
 refine bodyPost_ret (results_cell_row rfl _ _ w.heap.size 25 _ (0,0) _ rfl HRES.out Try.underlying25 rfl (by kernel_rfl)) rfl ?_
 refine ⟨⟨_,_,rfl,Kd.qBB _ _ _ _ _,Kd.qBB _ _ _ _ _⟩, ?_⟩
 rw [(show 2048 - (2048 - wq - 1)=wq+1 by omega)]
 exact wt.qBl FR6.out L6.out.blk L6.out.ne.2 HGR.out (Nat.le_refl _) HBB.out.size BL6.out
theorem wt.rv_t3N {bs:List Int} {u i:Int→Int × Int × Int} (hU:wt.Uin bs u i) (hR:wt.Rin bs u i) {w0 w:World} {g:Nat} {A:Option Addr} {c:Nat} {a wq p:Int} (hb:Below w0.heap.size w0 w) (hg:w0.heap.size≤g) (hB:wt.RB w g A bs.length c a wq 0 p) (hC:(Kd.int .u8).C w A bs.length bs) (hc:bs.length≤c) (within:Int) (hw:within < 8) (ha0:0≤a) (ha1:a < (bs.length:Int)) (hwq:0≤wq∧wq+1≤2048) (ht:rd bs a=3) (he:(i (a+1)).2.2 ≠ 0) :
  Calls Try.prog 40 #[.pointer (some ⟨g,0,none⟩),.int .i64 within] w (wt.qCM (.bad 41 (a+1)) w0 w g A bs.length c p):=by
 have HB:=qAA.mk hB
 have HC:=qAA.mk hC
 have HCC:=qAA.mk hc
 have HBB:=qAA.mk hb
 have HGG:=qAA.mk hg
 have HLL:=qAA.mk hU.L
 have HUU:=qAA.mk hU
 have HRR:=qAA.mk hR
 have HGL:=qAA.mk (show g < w.heap.size from qAg hB)
 have hu25:=Try.underlying25
 have HBW:=qAA.mk ((Below.refl w.heap.size w).alloc (Nat.le_refl _) (.cells #[.int .i64 0,.int .i64 0,.string ⟨#[]⟩,.slice none 0 0,.slice none 0 0] 25))
 have BL1:=qAA.mk (hb.alloc hb.size (.cells #[.int .i64 0,.int .i64 0,.string ⟨#[]⟩,.slice none 0 0,.slice none 0 0] 25))
 obtain ⟨a,rfl⟩:=Int.eq_ofNat_of_zero_le ha0
 have t0:decide ((a:Int) ≥ (bs.length:Int))=false:=decide_eq_false (by omega)
 have t1:decide ((bs.length:Int)≤(a:Int))=false:=decide_eq_false (by omega)
 have t2:decide (bs.length≤a)=false:=decide_eq_false (by omega)
 have t3:(a:Int) < (bs.length:Int):=ha1
 have t4:a < bs.length:=by omega
 have t5:decide (a < bs.length)=true:=decide_eq_true t4
 obtain ⟨ad,hA,hx0_⟩:=Kd.qBL hC (a:Int) (by omega) ha1
 subst hA
 rw [Int.toNat_natCast] at hx0_
 obtain ⟨x,hxd⟩:∃ x,rd bs (a:Int)=x:=⟨_,rfl⟩
 rw [hxd] at hx0_ ht
 have L1:=qAA.mk (show wt.RLy (w.alloc (.cells #[.int .i64 0,.int .i64 0,.string ⟨#[]⟩,.slice none 0 0,.slice none 0 0] 25)) g (some ad) bs.length c (a:Int) wq 0 p (ad.add a) x w.heap.size #[.int .i64 0,.int .i64 0,.string ⟨#[]⟩,.slice none 0 0,.slice none 0 0] from ⟨HB.out.below HBW.out,(HBW.out.cell (qs4 w _ hx0_)).trans hx0_,by simpa using heap_alloc_new w _⟩)
 clear hx0_ hxd
 subst ht
 have w1:decide (within ≥ 8)=false:=decide_eq_false (by omega)
 have w2:decide (8≤within)=false:=decide_eq_false (by omega)
 have HWQ:=qAA.mk hwq
 have hwr:wrap64 ((a:Int)+1)=(a:Int)+1:=by have:=HLL.out;unfold wrap64;omega
 obtain ⟨K,hK⟩:=hR.I
 have HK:=qAA.mk (hK ((a:Int)+1))
 obtain ⟨r1,r2,r3,hr⟩:∃ r1 r2 r3,i ((a:Int)+1)=(r1,r2,r3):=⟨_,_,_,rfl⟩
 rw [hr] at he HK
 dsimp only at he
 have d1:(r3 != 0)=true:=bne_iff_ne.2 he
 have d2:(r3 == 0)=false:=beq_eq_false_iff_ne.2 he
 have d3:decide (r3=0)=false:=decide_eq_false he
 clear hK hr he
 have h0:=L1.out.blk.c0;have h1:=L1.out.blk.c1;have h2:=L1.out.blk.c2;have h3:=L1.out.blk.c3;have f1:=L1.out.blk.fz 1;have f2:=L1.out.blk.fz 2;have hx0:=L1.out.byt;have fr_:=qAC L1.out.res 0
 clear ha1 ha0 hwq hw
 clear hU hR hb hg hB hC hc
 generalize bs.length=m at *
 go_enter Try.func40,Try.ntmps40
 go_wp2_with (first | (go_at_call 59;refine (wt.heavY BL1.out HGG.out L1.out.blk 1 (a:Int) HWQ.out.1 (by omega) HWQ.out.2).mono ?_;rintro e_ w3 ⟨rfl,hx⟩;have L3:=qAA.mk (L1.out.fr hx.fr hx.blk);have FR3:=qAA.mk ((wt.Fr.of_below HBW.out).trans hx.fr);have BL3:=qAA.mk hx.bel;clear hx;clear h0 h1 h2 h3 f1 f2 hx0 fr_;have h0:=L3.out.blk.c0;have h1:=L3.out.blk.c1;have h2:=L3.out.blk.c2;have h3:=L3.out.blk.c3;have f1:=L3.out.blk.fz 1;have f2:=L3.out.blk.fz 2;have hx0:=L3.out.byt;have fr_:=qAC L3.out.res 0) | ((with_reducible refine qAY (p:=62) rfl ?_);go_must (refine qAq ?hg (t:=3) (p:=62) (v:=.tmp 60) (w1:=w3.setCell ⟨g,1,none⟩ (.int .i64 ((a:Int)+1))) ?ho ?hN ?hr ?_);(case ho=>rfl);(case hN=>rfl);(case hg=>rfl);(case hr=>first | (go_simp;done) | (go_simp;rfl));intro w4 ex;have L4:=qAA.mk (L3.out.fr (ex▸wt.Fr.set _ _ _ _) (ex▸L3.out.blk.set1 _));have FR4:=qAA.mk (show wt.Fr g w w4 from ex▸FR3.out.trans (wt.Fr.set _ _ _ _));have BL4:=qAA.mk (show Below w0.heap.size w0 w4 from ex▸BL3.out.setCell HGG.out _);clear ex;clear h0 h1 h2 h3 f1 f2 hx0 fr_;have h0:=L4.out.blk.c0;have h1:=L4.out.blk.c1;have h2:=L4.out.blk.c2;have h3:=L4.out.blk.c3;have f1:=L4.out.blk.fz 1;have f2:=L4.out.blk.fz 2;have hx0:=L4.out.byt;have fr_:=qAC L4.out.res 0))
 clear h0 h1 h2 h3 f1 f2 hx0 fr_
 refine qBd (n:=16) (S:=fun w'=>w'.cell? ⟨g,0,none⟩=some (.slice (some ad) m c)∧w'.cell? ⟨g,1,none⟩=some (.int .i64 ((a:Int)+1))) (ds:=[]) #[qF,qF,qF,qF,qF,qF,qF,qF,qF,qF,qF,qF,qF,qF,qF,qF] (by kernel_rfl) rfl rfl ⟨(L4.out.blk.below (qAc (Below.refl _ _))).c0,(L4.out.blk.below (qAc (Below.refl _ _))).c1⟩ (fun hHeld => ?_)
 generalize hwd:w4.drew=wd at hHeld ⊢
 have Ld:=qAA.mk (hwd▸L4.out.below (qAc (Below.refl _ _)))
 have FRd:=qAA.mk (hwd▸FR4.out.trans (wt.Fr.of_below (g:=g) (qAc (Below.refl _ _))))
 have BLd:=qAA.mk (hwd▸qAc BL4.out)
 clear hwd
 refine qAd (i:=0) (N:=some 79) (v := ?_) (a' := ?_) #[qT,qF,qF,qF,qF,qF,qF,qF,qF,qF,qF,qF,qF,qF,qF,qF] rfl rfl (by kernel_rfl) (fun _ _ _ h=>h) (Or.inl ⟨by rfl, ?_⟩) ?_ ?_
 rotate_left
 ·intro w'
  go_simp
  with_reducible rfl
 rotate_left
 ·simp only [Act.put,qs1,qs2,qs3,qAR,qAT]
  rfl
 refine qAd (i:=1) (N:=some 80) (v := ?_) (a' := ?_) #[qT,qT,qF,qF,qF,qF,qF,qF,qF,qF,qF,qF,qF,qF,qF,qF] rfl rfl (by kernel_rfl) (fun _ _ _ h=>h) (Or.inl ⟨by rfl, ?_⟩) ?_ ?_
 rotate_left
 ·intro w'
  go_simp
  with_reducible rfl
 rotate_left
 ·simp only [Act.put,qs1,qs2,qs3,qAR,qAT]
  rfl
 refine qAd (i:=2) (N:=some 81) (v := ?_) (a' := ?_) #[qT,qT,qT,qF,qF,qF,qF,qF,qF,qF,qF,qF,qF,qF,qF,qF] rfl rfl (by kernel_rfl) (fun _ _ _ h=>h) (Or.inl ⟨by rfl, ?_⟩) ?_ ?_
 rotate_left
 ·intro w'
  go_simp
  with_reducible rfl
 rotate_left
 ·simp only [Act.put,qs1,qs2,qs3,qAR,qAT]
  rfl
 refine qAd (i:=4) (N:=some 83) (v := ?_) (a' := ?_) #[qT,qT,qT,qF,qT,qF,qF,qF,qF,qF,qF,qF,qF,qF,qF,qF] rfl rfl (by kernel_rfl) (fun _ _ _ h=>h) (Or.inl ⟨by rfl, ?_⟩) ?_ ?_
 rotate_left
 ·intro w'
  go_simp
  with_reducible rfl
 rotate_left
 ·simp only [Act.put,qs1,qs2,qs3,qAR,qAT]
  rfl
 refine qAd (i:=5) (N:=some 84) (v := ?_) (a' := ?_) #[qT,qT,qT,qF,qT,qT,qF,qF,qF,qF,qF,qF,qF,qF,qF,qF] rfl rfl (by kernel_rfl) (fun _ _ _ h=>h) (Or.inl ⟨by rfl, ?_⟩) ?_ ?_
 rotate_left
 ·intro w'
  go_simp
  with_reducible rfl
 rotate_left
 ·simp only [Act.put,qs1,qs2,qs3,qAR,qAT]
  rfl
 refine qAd (i:=6) (N:=some 85) (v := ?_) (a' := ?_) #[qT,qT,qT,qF,qT,qT,qT,qF,qF,qF,qF,qF,qF,qF,qF,qF] rfl rfl (by kernel_rfl) (fun _ _ _ h=>h) (Or.inl ⟨by rfl, ?_⟩) ?_ ?_
 rotate_left
 ·intro w'
  go_simp
  with_reducible rfl
 rotate_left
 ·simp only [Act.put,qs1,qs2,qs3,qAR,qAT]
  rfl
 refine qBP (i:=3) (N:=some 82) (v := ?_) (a' := ?_) #[qT,qT,qT,qT,qT,qT,qT,qF,qF,qF,qF,qF,qF,qF,qF,qF] rfl rfl (by kernel_rfl) (fun _ _ _ h=>h) (Or.inl ⟨by rfl, ?_⟩) hHeld ?_ ?_
 rotate_left
 ·rintro w' ⟨s0,s1⟩
  go_simp
  with_reducible rfl
 rotate_left
 ·simp only [Act.put,qs1,qs2,qs3,qAR,qAT]
  rfl
 refine qBP (i:=7) (N:=some 86) (v := ?_) (a' := ?_) #[qT,qT,qT,qT,qT,qT,qT,qT,qF,qF,qF,qF,qF,qF,qF,qF] rfl rfl (by kernel_rfl) (fun _ _ _ h=>h) (Or.inl ⟨by rfl, ?_⟩) hHeld ?_ ?_
 rotate_left
 ·rintro w' ⟨s0,s1⟩
  go_simp
  with_reducible rfl
 rotate_left
 ·simp only [Act.put,qs1,qs2,qs3,qAR,qAT]
  rfl
 refine one_ (i:=8) (N:=some 87) #[qT,qT,qT,qT,qT,qT,qT,qT,qT,qF,qF,qF,qF,qF,qF,qF] rfl rfl (by kernel_rfl) (by decide) (fun K hK => ?_)
 refine qB2 Try.func60 (by kernel_rfl) rfl #[.slice (some ad) m c,.int .i64 ((a:Int)+1)] (by rfl) rfl rfl (by (try simp only [List.map_toArray,List.map_cons,List.map_nil]);first | done | rfl) ?_
 refine (wt.rint1 HK.out (wt.qB6 HC.out HB.out FRd.out) HCC.out).mono ?_
 rintro e w5 ⟨rfl,hd⟩
 refine ⟨_,rfl, ?_⟩
 have L5:=qAA.mk (Ld.out.below hd.below)
 have FR5:=qAA.mk (FRd.out.trans (wt.Fr.of_below hd.below))
 have BL5:=qAA.mk (qAh BLd.out BLd.out.size hd.below)
 clear hd
 refine hK.out _ _ ⟨L5.out.blk.c0,L5.out.blk.c1⟩ (fun hHeld => ?_)
 clear hK K
 refine qBS (a' := ?_) ?_ ?_
 rotate_left
 ·show Act.put _ (some 87) _=_
  simp only [Act.put,qs1,qs2,qs3,qAR,qAT]
  rfl
 refine qAd (i:=9) (N:=some 78) (v := ?_) (a' := ?_) #[qT,qT,qT,qT,qT,qT,qT,qT,qT,qT,qF,qF,qF,qF,qF,qF] rfl rfl (by kernel_rfl) (fun _ _ _ h=>h) (Or.inl ⟨by rfl, ?_⟩) ?_ ?_
 rotate_left
 ·intro w'
  go_simp
  with_reducible rfl
 rotate_left
 ·simp only [Act.put,qs1,qs2,qs3,qAR,qAT]
  rfl
 refine qAd (i:=10) (N:=some 88) (v := ?_) (a' := ?_) #[qT,qT,qT,qT,qT,qT,qT,qT,qT,qT,qT,qF,qF,qF,qF,qF] rfl rfl (by kernel_rfl) (fun _ _ _ h=>h) (Or.inl ⟨by rfl, ?_⟩) ?_ ?_
 rotate_left
 ·intro w'
  go_simp
  with_reducible rfl
 rotate_left
 ·simp only [Act.put,qs1,qs2,qs3,qAR,qAT]
  rfl
 refine qAd (i:=11) (N:=some 89) (v := ?_) (a' := ?_) #[qT,qT,qT,qT,qT,qT,qT,qT,qT,qT,qT,qT,qF,qF,qF,qF] rfl rfl (by kernel_rfl) (fun _ _ _ h=>h) (Or.inl ⟨by rfl, ?_⟩) ?_ ?_
 rotate_left
 ·intro w'
  go_simp
  with_reducible rfl
 rotate_left
 ·simp only [Act.put,qs1,qs2,qs3,qAR,qAT]
  rfl
 refine qAd (i:=12) (N:=some 90) (v := ?_) (a' := ?_) #[qT,qT,qT,qT,qT,qT,qT,qT,qT,qT,qT,qT,qT,qF,qF,qF] rfl rfl (by kernel_rfl) (fun _ _ _ h=>h) (Or.inl ⟨by rfl, ?_⟩) ?_ ?_
 rotate_left
 ·intro w'
  go_simp
  with_reducible rfl
 rotate_left
 ·simp only [Act.put,qs1,qs2,qs3,qAR,qAT]
  rfl
 refine qAd (i:=13) (N:=some 6) (v := ?_) (a' := ?_) #[qT,qT,qT,qT,qT,qT,qT,qT,qT,qT,qT,qT,qT,qT,qF,qF] rfl rfl (by kernel_rfl) (fun _ _ _ h=>h) (Or.inl ⟨by rfl, ?_⟩) ?_ ?_
 rotate_left
 ·intro w'
  go_simp
  with_reducible rfl
 rotate_left
 ·simp only [Act.put,qs1,qs2,qs3,qAR,qAT]
  rfl
 refine qAd (i:=14) (N:=some 7) (v := ?_) (a' := ?_) #[qT,qT,qT,qT,qT,qT,qT,qT,qT,qT,qT,qT,qT,qT,qT,qF] rfl rfl (by kernel_rfl) (fun _ _ _ h=>h) (Or.inl ⟨by rfl, ?_⟩) ?_ ?_
 rotate_left
 ·intro w'
  go_simp
  with_reducible rfl
 rotate_left
 ·simp only [Act.put,qs1,qs2,qs3,qAR,qAT]
  rfl
 refine qAd (i:=15) (N:=some 8) (v := ?_) (a' := ?_) #[qT,qT,qT,qT,qT,qT,qT,qT,qT,qT,qT,qT,qT,qT,qT,qT] rfl rfl (by kernel_rfl) (fun _ _ _ h=>h) (Or.inl ⟨by rfl, ?_⟩) ?_ ?_
 rotate_left
 ·intro w'
  go_simp
  with_reducible rfl
 rotate_left
 ·simp only [Act.put,qs1,qs2,qs3,qAR,qAT]
  rfl
 refine qBu (by kernel_rfl) ?_
 have h0:=L5.out.blk.c0;have h1:=L5.out.blk.c1;have h2:=L5.out.blk.c2;have h3:=L5.out.blk.c3;have f1:=L5.out.blk.fz 1;have f2:=L5.out.blk.fz 2;have hx0:=L5.out.byt;have fr_:=qAC L5.out.res 0
 go_wp2_with (first | (go_at_call 58;refine (wt.qCT BL5.out HGG.out L5.out.blk 41 ((a:Int)+1)).mono ?_;rintro e_ w6 ⟨rfl,hx⟩;have HX:=qAA.mk hx;have LX:=qAA.mk (L5.out.fr HX.out.fr HX.out.blk);clear hx;clear h0 h1 h2 h3 f1 f2 hx0 fr_;have h0:=LX.out.blk.c0;have h1:=LX.out.blk.c1;have h2:=LX.out.blk.c2;have h3:=LX.out.blk.c3;have f1:=LX.out.blk.fz 1;have f2:=LX.out.blk.fz 2;have hx0:=LX.out.byt;have fr_:=qAC LX.out.res 0) | ((with_reducible refine qAY (p:=4) rfl ?_);refine wt.qAk rfl rfl 4 _ rfl w.heap.size rfl (.int .i64 0) (.int .i64 0) (.string ⟨#[]⟩) (.slice none 0 0) (.slice none 0 0) rfl (fun q hq=>by simp at hq;rcases hq with rfl | rfl | rfl | rfl | rfl <;> rfl) _ rfl LX.out.res ?_;intro w5_ hres hgr;have HRES:=qAA.mk hres;have HGR:=qAA.mk hgr;clear hgr hres))
 go_wp2
 refine bodyPost_ret (results_cell_row rfl _ _ w.heap.size 25 _ (0,0) _ rfl HRES.out Try.underlying25 rfl (by kernel_rfl)) rfl ?_
 exact ⟨⟨⟨0,0,⟨#[]⟩,[],[]⟩,_,_,rfl,Kd.qBB _ _ _ _ _,Kd.qBB _ _ _ _ _⟩,by decide,_,_,wt.qBl (FR5.out.trans HX.out.fr) HX.out.blk L5.out.ne.2 HGR.out (Nat.le_refl _) HBB.out.size HX.out.bel⟩
end
end Go.Proofs.Ytnkbobblnhaclaa.X
namespace Go.Proofs.Ytnkbobblnhaclaa.X
open Go.RowKit Go.Proofs.YtnkbobblnhaclaaW.PrintWords Go.Proofs.YtnkbobblnhaclaaW.PrintLast Go.Proofs.YtnkbobblnhaclaaW.PrintMore Go.Proofs.YtnkbobblnhaclaaW
section
set_option maxHeartbeats 4000000
set_option maxRecDepth 100000
theorem wt.genW1 {F:Exit→Act→World→Prop} {e:Exit} {a:Act} {w:World} (n:Nat) (h:∀ w1,w1=w.drewN n→F e a w1):F e a (w.drewN n):=h _ rfl
theorem wt.keyS_ne {bs:List Int} {u:Int→Int × Int × Int} {ks:List ByteArray} {a l f q:Int} (h:wt.keyS bs u ks a l=.bad f q):f ≠ 0:=by
 unfold wt.keyS at h
 split at h
 ·injection h with e1 _;subst e1;decide
 split at h
 ·injection h with e1 _;subst e1;decide
 split at h
 ·injection h with e1 _;subst e1;decide
 dsimp only at h
 split at h
 ·injection h with e1 _;subst e1;decide
 split at h
 ·injection h with e1 _;subst e1;decide
 ·cases h
theorem wt.rv_t4E {bs:List Int} {u i:Int→Int × Int × Int} (hU:wt.Uin bs u i) (hR:wt.Rin bs u i) {w0 w:World} {g:Nat} {A:Option Addr} {c:Nat} {a wq p:Int} (hb:Below w0.heap.size w0 w) (hg:w0.heap.size≤g) (hB:wt.RB w g A bs.length c a wq 0 p) (hC:(Kd.int .u8).C w A bs.length bs) (hc:bs.length≤c) (within:Int) (hw:within < 8) (ha0:0≤a) (ha1:a < (bs.length:Int)) (hwq:0≤wq∧wq+1≤2048) (ht:rd bs a=4) {f q:Int} (hf:f ≠ 0) (hcb:wt.qB0 u (a:Int) 1 (a+1) (2048 - (wq+1))=.bad f q) :
  Calls Try.prog 40 #[.pointer (some ⟨g,0,none⟩),.int .i64 within] w (wt.qCM (.bad f q) w0 w g A bs.length c p):=by
 have HB:=qAA.mk hB
 have HC:=qAA.mk hC
 have HCC:=qAA.mk hc
 have HBB:=qAA.mk hb
 have HGG:=qAA.mk hg
 have HLL:=qAA.mk hU.L
 have HUU:=qAA.mk hU
 have HRR:=qAA.mk hR
 have HGL:=qAA.mk (show g < w.heap.size from qAg hB)
 have hu25:=Try.underlying25
 have HBW:=qAA.mk ((Below.refl w.heap.size w).alloc (Nat.le_refl _) (.cells #[.int .i64 0,.int .i64 0,.string ⟨#[]⟩,.slice none 0 0,.slice none 0 0] 25))
 have BL1:=qAA.mk (hb.alloc hb.size (.cells #[.int .i64 0,.int .i64 0,.string ⟨#[]⟩,.slice none 0 0,.slice none 0 0] 25))
 obtain ⟨a,rfl⟩:=Int.eq_ofNat_of_zero_le ha0
 have t0:decide ((a:Int) ≥ (bs.length:Int))=false:=decide_eq_false (by omega)
 have t1:decide ((bs.length:Int)≤(a:Int))=false:=decide_eq_false (by omega)
 have t2:decide (bs.length≤a)=false:=decide_eq_false (by omega)
 have t3:(a:Int) < (bs.length:Int):=ha1
 have t4:a < bs.length:=by omega
 have t5:decide (a < bs.length)=true:=decide_eq_true t4
 obtain ⟨ad,hA,hx0_⟩:=Kd.qBL hC (a:Int) (by omega) ha1
 subst hA
 rw [Int.toNat_natCast] at hx0_
 obtain ⟨x,hxd⟩:∃ x,rd bs (a:Int)=x:=⟨_,rfl⟩
 rw [hxd] at hx0_ ht
 have L1:=qAA.mk (show wt.RLy (w.alloc (.cells #[.int .i64 0,.int .i64 0,.string ⟨#[]⟩,.slice none 0 0,.slice none 0 0] 25)) g (some ad) bs.length c (a:Int) wq 0 p (ad.add a) x w.heap.size #[.int .i64 0,.int .i64 0,.string ⟨#[]⟩,.slice none 0 0,.slice none 0 0] from ⟨HB.out.below HBW.out,(HBW.out.cell (qs4 w _ hx0_)).trans hx0_,by simpa using heap_alloc_new w _⟩)
 clear hx0_ hxd
 subst ht
 have w1:decide (within ≥ 8)=false:=decide_eq_false (by omega)
 have w2:decide (8≤within)=false:=decide_eq_false (by omega)
 have HWQ:=qAA.mk hwq
 have hwr:wrap64 ((a:Int)+1)=(a:Int)+1:=by have:=HLL.out;unfold wrap64;omega
 have d1:(f != 0)=true:=bne_iff_ne.2 hf
 have d2:(f == 0)=false:=beq_eq_false_iff_ne.2 hf
 have d3:decide (f=0)=false:=decide_eq_false hf
 have HCB:=qAA.mk hcb
 have HFN:=qAA.mk hf
 clear hf hcb
 have h0:=L1.out.blk.c0;have h1:=L1.out.blk.c1;have h2:=L1.out.blk.c2;have h3:=L1.out.blk.c3;have f1:=L1.out.blk.fz 1;have f2:=L1.out.blk.fz 2;have hx0:=L1.out.byt;have fr_:=qAC L1.out.res 0
 clear ha1 ha0 hwq hw
 clear hU hR hb hg hB hC hc
 go_enter Try.func40,Try.ntmps40
 go_wp2_with (first | (go_at_call 59;refine (wt.heavY BL1.out HGG.out L1.out.blk 1 (a:Int) HWQ.out.1 (by omega) HWQ.out.2).mono ?_;rintro e_ w3 ⟨rfl,hx⟩;have L3:=qAA.mk (L1.out.fr hx.fr hx.blk);have FR3:=qAA.mk ((wt.Fr.of_below HBW.out).trans hx.fr);have BL3:=qAA.mk hx.bel;clear hx;clear h0 h1 h2 h3 f1 f2 hx0 fr_;have h0:=L3.out.blk.c0;have h1:=L3.out.blk.c1;have h2:=L3.out.blk.c2;have h3:=L3.out.blk.c3;have f1:=L3.out.blk.fz 1;have f2:=L3.out.blk.fz 2;have hx0:=L3.out.byt;have fr_:=qAC L3.out.res 0) | ((with_reducible refine qAY (p:=62) rfl ?_);go_must (refine qAq ?hg (t:=3) (p:=62) (v:=.tmp 60) (w1:=w3.setCell ⟨g,1,none⟩ (.int .i64 ((a:Int)+1))) ?ho ?hN ?hr ?_);(case ho=>rfl);(case hN=>rfl);(case hg=>rfl);(case hr=>first | (go_simp;done) | (go_simp;rfl));intro w4 ex;have L4:=qAA.mk (L3.out.fr (ex▸wt.Fr.set _ _ _ _) (ex▸L3.out.blk.set1 _));have FR4:=qAA.mk (show wt.Fr g w w4 from ex▸FR3.out.trans (wt.Fr.set _ _ _ _));have BL4:=qAA.mk (show Below w0.heap.size w0 w4 from ex▸BL3.out.setCell HGG.out _);clear ex;clear h0 h1 h2 h3 f1 f2 hx0 fr_;have h0:=L4.out.blk.c0;have h1:=L4.out.blk.c1;have h2:=L4.out.blk.c2;have h3:=L4.out.blk.c3;have f1:=L4.out.blk.fz 1;have f2:=L4.out.blk.fz 2;have hx0:=L4.out.byt;have fr_:=qAC L4.out.res 0))
 go_wp2_with (first | (go_at_call 61;refine (wt.rnum1 HUU.out HRR.out BL4.out HGG.out L4.out.blk (wt.qB6 HC.out HB.out FR4.out) HCC.out (a:Int) 1 (by omega) (by have:=HWQ.out;omega)).mono ?_;rw [HCB.out];rintro e_ w5 ⟨⟨y,rfl⟩,b1,b2,hx⟩;have L5:=qAA.mk (L4.out.fr hx.fr hx.blk);have FR5:=qAA.mk (FR4.out.trans hx.fr);have BL5:=qAA.mk hx.bel;clear hx;clear h0 h1 h2 h3 f1 f2 hx0 fr_;have h0:=L5.out.blk.c0;have h1:=L5.out.blk.c1;have h2:=L5.out.blk.c2;have h3:=L5.out.blk.c3;have f1:=L5.out.blk.fz 1;have f2:=L5.out.blk.fz 2;have hx0:=L5.out.byt;have fr_:=qAC L5.out.res 0))
 go_quiet (fail)
 refine wt.genW1 _ (fun w6 hw => ?_)
 have L6:=qAA.mk (hw▸L5.out.below (qAD (Below.refl _ _) _))
 have FR6:=qAA.mk (show wt.Fr g w w6 from hw▸FR5.out.trans (wt.Fr.of_below (qAD (Below.refl _ _) _)))
 have BL6:=qAA.mk (show Below w0.heap.size w0 w6 from hw▸qAD BL5.out _)
 clear hw
 clear h0 h1 h2 h3 f1 f2 hx0 fr_
 have h0:=L6.out.blk.c0;have h1:=L6.out.blk.c1;have h2:=L6.out.blk.c2;have h3:=L6.out.blk.c3;have f1:=L6.out.blk.fz 1;have f2:=L6.out.blk.fz 2;have hx0:=L6.out.byt;have fr_:=qAC L6.out.res 0
 go_wp2_with (first | ((with_reducible refine qAY (p:=4) rfl ?_);refine wt.qAk rfl rfl 4 _ rfl w.heap.size rfl (.int .i64 0) (.int .i64 0) (.string ⟨#[]⟩) (.slice none 0 0) (.slice none 0 0) rfl (fun q hq=>by simp at hq;rcases hq with rfl | rfl | rfl | rfl | rfl <;> rfl) _ rfl L6.out.res ?_;intro w5_ hres hgr;have HRES:=qAA.mk hres;have HGR:=qAA.mk hgr;clear hgr hres))
 go_wp2
 refine bodyPost_ret (results_cell_row rfl _ _ w.heap.size 25 _ (0,0) _ rfl HRES.out Try.underlying25 rfl (by kernel_rfl)) rfl ?_
 exact ⟨⟨⟨0,0,⟨#[]⟩,[],[]⟩,_,_,rfl,Kd.qBB _ _ _ _ _,Kd.qBB _ _ _ _ _⟩,HFN.out,_,_,wt.qBl FR6.out L6.out.blk L6.out.ne.2 HGR.out (Nat.le_refl _) HBB.out.size BL6.out⟩
theorem wt.rv_t4C {bs:List Int} {u i:Int→Int × Int × Int} (hU:wt.Uin bs u i) (hR:wt.Rin bs u i) {w0 w:World} {g:Nat} {A:Option Addr} {c:Nat} {a wq p:Int} (hb:Below w0.heap.size w0 w) (hg:w0.heap.size≤g) (hB:wt.RB w g A bs.length c a wq 0 p) (hC:(Kd.int .u8).C w A bs.length bs) (hc:bs.length≤c) (within:Int) (hw:within < 8) (ha0:0≤a) (ha1:a < (bs.length:Int)) (hwq:0≤wq∧wq+1≤2048) (ht:rd bs a=4) {n a1:Int} (hcb:wt.qB0 u (a:Int) 1 (a+1) (2048 - (wq+1))=.ok n a1 (2048 - (wq+1))) (hbd:0≤n∧n≤2048 - (wq+1)∧0≤a1∧a1≤(bs.length:Int)) (hn:(bs.length:Int) - a1 < n) :
  Calls Try.prog 40 #[.pointer (some ⟨g,0,none⟩),.int .i64 within] w (wt.qCM (.bad 41 (a+1)) w0 w g A bs.length c p):=by
 have HB:=qAA.mk hB
 have HC:=qAA.mk hC
 have HCC:=qAA.mk hc
 have HBB:=qAA.mk hb
 have HGG:=qAA.mk hg
 have HLL:=qAA.mk hU.L
 have HUU:=qAA.mk hU
 have HRR:=qAA.mk hR
 have HGL:=qAA.mk (show g < w.heap.size from qAg hB)
 have hu25:=Try.underlying25
 have HBW:=qAA.mk ((Below.refl w.heap.size w).alloc (Nat.le_refl _) (.cells #[.int .i64 0,.int .i64 0,.string ⟨#[]⟩,.slice none 0 0,.slice none 0 0] 25))
 have BL1:=qAA.mk (hb.alloc hb.size (.cells #[.int .i64 0,.int .i64 0,.string ⟨#[]⟩,.slice none 0 0,.slice none 0 0] 25))
 obtain ⟨a,rfl⟩:=Int.eq_ofNat_of_zero_le ha0
 have t0:decide ((a:Int) ≥ (bs.length:Int))=false:=decide_eq_false (by omega)
 have t1:decide ((bs.length:Int)≤(a:Int))=false:=decide_eq_false (by omega)
 have t2:decide (bs.length≤a)=false:=decide_eq_false (by omega)
 have t3:(a:Int) < (bs.length:Int):=ha1
 have t4:a < bs.length:=by omega
 have t5:decide (a < bs.length)=true:=decide_eq_true t4
 obtain ⟨ad,hA,hx0_⟩:=Kd.qBL hC (a:Int) (by omega) ha1
 subst hA
 rw [Int.toNat_natCast] at hx0_
 obtain ⟨x,hxd⟩:∃ x,rd bs (a:Int)=x:=⟨_,rfl⟩
 rw [hxd] at hx0_ ht
 have L1:=qAA.mk (show wt.RLy (w.alloc (.cells #[.int .i64 0,.int .i64 0,.string ⟨#[]⟩,.slice none 0 0,.slice none 0 0] 25)) g (some ad) bs.length c (a:Int) wq 0 p (ad.add a) x w.heap.size #[.int .i64 0,.int .i64 0,.string ⟨#[]⟩,.slice none 0 0,.slice none 0 0] from ⟨HB.out.below HBW.out,(HBW.out.cell (qs4 w _ hx0_)).trans hx0_,by simpa using heap_alloc_new w _⟩)
 clear hx0_ hxd
 subst ht
 have w1:decide (within ≥ 8)=false:=decide_eq_false (by omega)
 have w2:decide (8≤within)=false:=decide_eq_false (by omega)
 have HWQ:=qAA.mk hwq
 have hwr:wrap64 ((a:Int)+1)=(a:Int)+1:=by have:=HLL.out;unfold wrap64;omega
 have HCB:=qAA.mk hcb
 have HBD:=qAA.mk hbd
 have hs0:wrap64 ((bs.length:Int) - a1)=(bs.length:Int) - a1:=by have:=HLL.out;unfold wrap64;omega
 have d4:decide (n > (bs.length:Int) - a1)=true:=decide_eq_true (by omega)
 have d5:decide ((bs.length:Int) - a1 < n)=true:=decide_eq_true (by omega)
 clear hn hcb hbd
 have h0:=L1.out.blk.c0;have h1:=L1.out.blk.c1;have h2:=L1.out.blk.c2;have h3:=L1.out.blk.c3;have f1:=L1.out.blk.fz 1;have f2:=L1.out.blk.fz 2;have hx0:=L1.out.byt;have fr_:=qAC L1.out.res 0
 clear ha1 ha0 hwq hw
 clear hU hR hb hg hB hC hc
 go_enter Try.func40,Try.ntmps40
 go_wp2_with (first | (go_at_call 59;refine (wt.heavY BL1.out HGG.out L1.out.blk 1 (a:Int) HWQ.out.1 (by omega) HWQ.out.2).mono ?_;rintro e_ w3 ⟨rfl,hx⟩;have L3:=qAA.mk (L1.out.fr hx.fr hx.blk);have FR3:=qAA.mk ((wt.Fr.of_below HBW.out).trans hx.fr);have BL3:=qAA.mk hx.bel;clear hx;clear h0 h1 h2 h3 f1 f2 hx0 fr_;have h0:=L3.out.blk.c0;have h1:=L3.out.blk.c1;have h2:=L3.out.blk.c2;have h3:=L3.out.blk.c3;have f1:=L3.out.blk.fz 1;have f2:=L3.out.blk.fz 2;have hx0:=L3.out.byt;have fr_:=qAC L3.out.res 0) | ((with_reducible refine qAY (p:=62) rfl ?_);go_must (refine qAq ?hg (t:=3) (p:=62) (v:=.tmp 60) (w1:=w3.setCell ⟨g,1,none⟩ (.int .i64 ((a:Int)+1))) ?ho ?hN ?hr ?_);(case ho=>rfl);(case hN=>rfl);(case hg=>rfl);(case hr=>first | (go_simp;done) | (go_simp;rfl));intro w4 ex;have L4:=qAA.mk (L3.out.fr (ex▸wt.Fr.set _ _ _ _) (ex▸L3.out.blk.set1 _));have FR4:=qAA.mk (show wt.Fr g w w4 from ex▸FR3.out.trans (wt.Fr.set _ _ _ _));have BL4:=qAA.mk (show Below w0.heap.size w0 w4 from ex▸BL3.out.setCell HGG.out _);clear ex;clear h0 h1 h2 h3 f1 f2 hx0 fr_;have h0:=L4.out.blk.c0;have h1:=L4.out.blk.c1;have h2:=L4.out.blk.c2;have h3:=L4.out.blk.c3;have f1:=L4.out.blk.fz 1;have f2:=L4.out.blk.fz 2;have hx0:=L4.out.byt;have fr_:=qAC L4.out.res 0))
 go_wp2_with (first | (go_at_call 61;refine (wt.rnum1 HUU.out HRR.out BL4.out HGG.out L4.out.blk (wt.qB6 HC.out HB.out FR4.out) HCC.out (a:Int) 1 (by omega) (by have:=HWQ.out;omega)).mono ?_;rw [HCB.out];rintro e_ w5 ⟨rfl,hx⟩;rw [show (2048 - (2048 - (wq+1)):Int)=wq+1 by omega] at hx;have L5:=qAA.mk (L4.out.fr hx.fr hx.blk);have FR5:=qAA.mk (FR4.out.trans hx.fr);have BL5:=qAA.mk hx.bel;clear hx;clear h0 h1 h2 h3 f1 f2 hx0 fr_;have h0:=L5.out.blk.c0;have h1:=L5.out.blk.c1;have h2:=L5.out.blk.c2;have h3:=L5.out.blk.c3;have f1:=L5.out.blk.fz 1;have f2:=L5.out.blk.fz 2;have hx0:=L5.out.byt;have fr_:=qAC L5.out.res 0))
 go_quiet (fail)
 refine wt.genW1 _ (fun w6 hw => ?_)
 have L6:=qAA.mk (hw▸L5.out.below (qAD (Below.refl _ _) _))
 have FR6:=qAA.mk (show wt.Fr g w w6 from hw▸FR5.out.trans (wt.Fr.of_below (qAD (Below.refl _ _) _)))
 have BL6:=qAA.mk (show Below w0.heap.size w0 w6 from hw▸qAD BL5.out _)
 clear hw
 clear h0 h1 h2 h3 f1 f2 hx0 fr_
 have h0:=L6.out.blk.c0;have h1:=L6.out.blk.c1;have h2:=L6.out.blk.c2;have h3:=L6.out.blk.c3;have f1:=L6.out.blk.fz 1;have f2:=L6.out.blk.fz 2;have hx0:=L6.out.byt;have fr_:=qAC L6.out.res 0
 go_wp2_with (first | (go_at_call 58;refine (wt.qCT BL6.out HGG.out L6.out.blk 41 ((a:Int)+1)).mono ?_;rintro e_ w7 ⟨rfl,hx⟩;have HX:=qAA.mk hx;have LX:=qAA.mk (L6.out.fr HX.out.fr HX.out.blk);clear hx;clear h0 h1 h2 h3 f1 f2 hx0 fr_;have h0:=LX.out.blk.c0;have h1:=LX.out.blk.c1;have h2:=LX.out.blk.c2;have h3:=LX.out.blk.c3;have f1:=LX.out.blk.fz 1;have f2:=LX.out.blk.fz 2;have hx0:=LX.out.byt;have fr_:=qAC LX.out.res 0) | ((with_reducible refine qAY (p:=4) rfl ?_);refine wt.qAk rfl rfl 4 _ rfl w.heap.size rfl (.int .i64 0) (.int .i64 0) (.string ⟨#[]⟩) (.slice none 0 0) (.slice none 0 0) rfl (fun q hq=>by simp at hq;rcases hq with rfl | rfl | rfl | rfl | rfl <;> rfl) _ rfl LX.out.res ?_;intro w5_ hres hgr;have HRES:=qAA.mk hres;have HGR:=qAA.mk hgr;clear hgr hres))
 go_wp2
 refine bodyPost_ret (results_cell_row rfl _ _ w.heap.size 25 _ (0,0) _ rfl HRES.out Try.underlying25 rfl (by kernel_rfl)) rfl ?_
 exact ⟨⟨⟨0,0,⟨#[]⟩,[],[]⟩,_,_,rfl,Kd.qBB _ _ _ _ _,Kd.qBB _ _ _ _ _⟩,by decide,_,_,wt.qBl (FR6.out.trans HX.out.fr) HX.out.blk L6.out.ne.2 HGR.out (Nat.le_refl _) HBB.out.size HX.out.bel⟩
theorem wt.rv_t4 {bs:List Int} {u i:Int→Int × Int × Int} (hU:wt.Uin bs u i) (hR:wt.Rin bs u i) {w0 w:World} {g:Nat} {A:Option Addr} {c:Nat} {a wq p:Int} (hb:Below w0.heap.size w0 w) (hg:w0.heap.size≤g) (hB:wt.RB w g A bs.length c a wq 0 p) (hC:(Kd.int .u8).C w A bs.length bs) (hc:bs.length≤c) (within:Int) (hw:within < 8) (ha0:0≤a) (ha1:a < (bs.length:Int)) (hwq:0≤wq∧wq+1≤2048) (ht:rd bs a=4) {n a1:Int} (hcb:wt.qB0 u (a:Int) 1 (a+1) (2048 - (wq+1))=.ok n a1 (2048 - (wq+1))) (hbd:0≤n∧n≤2048 - (wq+1)∧0≤a1∧a1≤(bs.length:Int)) (hn:n≤(bs.length:Int) - a1) :
  Calls Try.prog 40 #[.pointer (some ⟨g,0,none⟩),.int .i64 within] w (wt.qCM (.ok ⟨3,0,strOfNums ((bs.drop a1.toNat).take n.toNat),[],[]⟩ (a1+n) (2048 - (wq+1) - n)) w0 w g A bs.length c p):=by
 have HB:=qAA.mk hB
 have HC:=qAA.mk hC
 have HCC:=qAA.mk hc
 have HBB:=qAA.mk hb
 have HGG:=qAA.mk hg
 have HLL:=qAA.mk hU.L
 have HUU:=qAA.mk hU
 have HRR:=qAA.mk hR
 have HGL:=qAA.mk (show g < w.heap.size from qAg hB)
 have hu25:=Try.underlying25
 have HBW:=qAA.mk ((Below.refl w.heap.size w).alloc (Nat.le_refl _) (.cells #[.int .i64 0,.int .i64 0,.string ⟨#[]⟩,.slice none 0 0,.slice none 0 0] 25))
 have BL1:=qAA.mk (hb.alloc hb.size (.cells #[.int .i64 0,.int .i64 0,.string ⟨#[]⟩,.slice none 0 0,.slice none 0 0] 25))
 obtain ⟨a,rfl⟩:=Int.eq_ofNat_of_zero_le ha0
 have t0:decide ((a:Int) ≥ (bs.length:Int))=false:=decide_eq_false (by omega)
 have t1:decide ((bs.length:Int)≤(a:Int))=false:=decide_eq_false (by omega)
 have t2:decide (bs.length≤a)=false:=decide_eq_false (by omega)
 have t3:(a:Int) < (bs.length:Int):=ha1
 have t4:a < bs.length:=by omega
 have t5:decide (a < bs.length)=true:=decide_eq_true t4
 obtain ⟨ad,hA,hx0_⟩:=Kd.qBL hC (a:Int) (by omega) ha1
 subst hA
 rw [Int.toNat_natCast] at hx0_
 obtain ⟨x,hxd⟩:∃ x,rd bs (a:Int)=x:=⟨_,rfl⟩
 rw [hxd] at hx0_ ht
 have L1:=qAA.mk (show wt.RLy (w.alloc (.cells #[.int .i64 0,.int .i64 0,.string ⟨#[]⟩,.slice none 0 0,.slice none 0 0] 25)) g (some ad) bs.length c (a:Int) wq 0 p (ad.add a) x w.heap.size #[.int .i64 0,.int .i64 0,.string ⟨#[]⟩,.slice none 0 0,.slice none 0 0] from ⟨HB.out.below HBW.out,(HBW.out.cell (qs4 w _ hx0_)).trans hx0_,by simpa using heap_alloc_new w _⟩)
 clear hx0_ hxd
 subst ht
 have w1:decide (within ≥ 8)=false:=decide_eq_false (by omega)
 have w2:decide (8≤within)=false:=decide_eq_false (by omega)
 have HWQ:=qAA.mk hwq
 have hwr:wrap64 ((a:Int)+1)=(a:Int)+1:=by have:=HLL.out;unfold wrap64;omega
 have HCB:=qAA.mk hcb
 have HBD:=qAA.mk hbd
 have hs0:wrap64 ((bs.length:Int) - a1)=(bs.length:Int) - a1:=by have:=HLL.out;unfold wrap64;omega
 have d4:decide (n > (bs.length:Int) - a1)=false:=decide_eq_false (by omega)
 have d5:decide ((bs.length:Int) - a1 < n)=false:=decide_eq_false (by omega)
 obtain ⟨q1,rfl⟩:=Int.eq_ofNat_of_zero_le hbd.1
 obtain ⟨q2,rfl⟩:=Int.eq_ofNat_of_zero_le hbd.2.2.1
 have n1:(q2:Int)≤(q2:Int)+(q1:Int):=by omega
 have n2:(q2:Int)+(q1:Int)≤(bs.length:Int):=by omega
 have n3:q2≤bs.length:=by omega
 have n4:q1≤bs.length - q2:=by omega
 have n0:(0:Int)≤(q2:Int):=Int.natCast_nonneg q2
 obtain ⟨i0,hi0,_,hsz0,_⟩:=info_parts info5
 have hcm:=cut_mid (P:=Try.prog) 26 5 .i64 .i64 Try.underlying26 hi0 1 hsz0 (some ad) bs.length c (q2:Int) ((q2:Int)+(q1:Int)) n0 n1 n2 hc
 rw [Int.toNat_natCast,show ((q2:Int)+(q1:Int)).toNat - q2=q1 by omega] at hcm
 rw [Int.toNat_natCast,Int.toNat_natCast]
 have hlen:((bs.drop q2).take q1).length=q1:=by rw [List.length_take,List.length_drop];omega
 have hC3:∀ W,wt.Fr g w W→(Kd.int .u8).C W (if c=q2 then some ad else (some ad).map (·.add (q2 * 1))) ((bs.drop q2).take q1).length ((bs.drop q2).take q1):=fun W hW=>by
  have:=Kd.C_take (m:=q1) (Kd.C_drop (m:=q2) (wt.qB6 hC HB.out hW) n3 hc) (by rw [List.length_drop];omega)
  exact this
 have STR:=fun (W:World) (hd:wt.Fr g w W)=>Kd.C_string (P:=Try.prog) (c:=c - q2) Try.underlying26 Try.underlying5 Try.underlying9 (hC3 W hd)
 rw [hlen] at STR
 have STR:=qAA.mk STR
 have hz:wrap64 ((q2:Int)+(q1:Int))=(q2:Int)+(q1:Int):=by have:=HLL.out;unfold wrap64;omega
 have hz2:wrap64 (wq+1+(q1:Int))=wq+1+(q1:Int):=by have:=hbd.2.1;have:=hwq.1;unfold wrap64;omega
 clear hi0 hsz0 hlen hC3 hbd hcb n1 n2 n3 n4 n0 hn
 generalize (if c=q2 then some ad else (some ad).map (·.add (q2 * 1)))=A2 at hcm STR
 generalize hc2:c - q2=c2 at hcm STR
 generalize hst:strOfNums ((bs.drop q2).take q1)=st at STR ⊢
 clear hc2 hst
 have h0:=L1.out.blk.c0;have h1:=L1.out.blk.c1;have h2:=L1.out.blk.c2;have h3:=L1.out.blk.c3;have f1:=L1.out.blk.fz 1;have f2:=L1.out.blk.fz 2;have hx0:=L1.out.byt;have fr_:=qAC L1.out.res 0
 clear ha1 ha0 hwq hw
 clear hU hR hb hg hB hC hc
 go_enter Try.func40,Try.ntmps40
 go_wp2_with (first | (go_at_call 59;refine (wt.heavY BL1.out HGG.out L1.out.blk 1 (a:Int) HWQ.out.1 (by omega) HWQ.out.2).mono ?_;rintro e_ w3 ⟨rfl,hx⟩;have L3:=qAA.mk (L1.out.fr hx.fr hx.blk);have FR3:=qAA.mk ((wt.Fr.of_below HBW.out).trans hx.fr);have BL3:=qAA.mk hx.bel;clear hx;clear h0 h1 h2 h3 f1 f2 hx0 fr_;have h0:=L3.out.blk.c0;have h1:=L3.out.blk.c1;have h2:=L3.out.blk.c2;have h3:=L3.out.blk.c3;have f1:=L3.out.blk.fz 1;have f2:=L3.out.blk.fz 2;have hx0:=L3.out.byt;have fr_:=qAC L3.out.res 0) | ((with_reducible refine qAY (p:=62) rfl ?_);go_must (refine qAq ?hg (t:=3) (p:=62) (v:=.tmp 60) (w1:=w3.setCell ⟨g,1,none⟩ (.int .i64 ((a:Int)+1))) ?ho ?hN ?hr ?_);(case ho=>rfl);(case hN=>rfl);(case hg=>rfl);(case hr=>first | (go_simp;done) | (go_simp;rfl));intro w4 ex;have L4:=qAA.mk (L3.out.fr (ex▸wt.Fr.set _ _ _ _) (ex▸L3.out.blk.set1 _));have FR4:=qAA.mk (show wt.Fr g w w4 from ex▸FR3.out.trans (wt.Fr.set _ _ _ _));have BL4:=qAA.mk (show Below w0.heap.size w0 w4 from ex▸BL3.out.setCell HGG.out _);clear ex;clear h0 h1 h2 h3 f1 f2 hx0 fr_;have h0:=L4.out.blk.c0;have h1:=L4.out.blk.c1;have h2:=L4.out.blk.c2;have h3:=L4.out.blk.c3;have f1:=L4.out.blk.fz 1;have f2:=L4.out.blk.fz 2;have hx0:=L4.out.byt;have fr_:=qAC L4.out.res 0))
 go_wp2_with (first | (go_at_call 61;refine (wt.rnum1 HUU.out HRR.out BL4.out HGG.out L4.out.blk (wt.qB6 HC.out HB.out FR4.out) HCC.out (a:Int) 1 (by omega) (by have:=HWQ.out;omega)).mono ?_;rw [HCB.out];rintro e_ w5 ⟨rfl,hx⟩;rw [show (2048 - (2048 - (wq+1)):Int)=wq+1 by omega] at hx;have L5:=qAA.mk (L4.out.fr hx.fr hx.blk);have FR5:=qAA.mk (FR4.out.trans hx.fr);have BL5:=qAA.mk hx.bel;clear hx;clear h0 h1 h2 h3 f1 f2 hx0 fr_;have h0:=L5.out.blk.c0;have h1:=L5.out.blk.c1;have h2:=L5.out.blk.c2;have h3:=L5.out.blk.c3;have f1:=L5.out.blk.fz 1;have f2:=L5.out.blk.fz 2;have hx0:=L5.out.byt;have fr_:=qAC L5.out.res 0))
 go_quiet (fail)
 refine wt.genW1 _ (fun w6 hw => ?_)
 have L6:=qAA.mk (hw▸L5.out.below (qAD (Below.refl _ _) _))
 have FR6:=qAA.mk (show wt.Fr g w w6 from hw▸FR5.out.trans (wt.Fr.of_below (qAD (Below.refl _ _) _)))
 have BL6:=qAA.mk (show Below w0.heap.size w0 w6 from hw▸qAD BL5.out _)
 clear hw
 clear h0 h1 h2 h3 f1 f2 hx0 fr_
 have h0:=L6.out.blk.c0;have h1:=L6.out.blk.c1;have h2:=L6.out.blk.c2;have h3:=L6.out.blk.c3;have f1:=L6.out.blk.fz 1;have f2:=L6.out.blk.fz 2;have hx0:=L6.out.byt;have fr_:=qAC L6.out.res 0
 go_wp2
 have hst:=fun (n_:Nat)=>STR.out (w6.drewN n_) (FR6.out.trans (wt.Fr.of_below (qAD (Below.refl _ _) _)))
 go_quiet (fail)
 clear hst
 refine wt.genW1 _ (fun w7 hw => ?_)
 have L7:=qAA.mk (hw▸L6.out.below (qAD (Below.refl _ _) _))
 have FR7:=qAA.mk (show wt.Fr g w w7 from hw▸FR6.out.trans (wt.Fr.of_below (qAD (Below.refl _ _) _)))
 have BL7:=qAA.mk (show Below w0.heap.size w0 w7 from hw▸qAD BL6.out _)
 clear hw
 clear h0 h1 h2 h3 f1 f2 hx0 fr_
 have h0:=L7.out.blk.c0;have h1:=L7.out.blk.c1;have h2:=L7.out.blk.c2;have h3:=L7.out.blk.c3;have f1:=L7.out.blk.fz 1;have f2:=L7.out.blk.fz 2;have hx0:=L7.out.byt;have fr_:=qAC L7.out.res 0
 go_wp2_with (first | ((with_reducible refine qAY (p:=164) rfl ?_);go_must (refine qAq ?hg (t:=3) (p:=164) (v:=.tmp 162) (w1:=w7.setCell ⟨g,1,none⟩ (.int .i64 ((q2:Int)+(q1:Int)))) ?ho ?hN ?hr ?_);(case ho=>rfl);(case hN=>rfl);(case hg=>rfl);(case hr=>first | (go_simp;done) | (go_simp;rfl));intro w8 ex;have L8:=qAA.mk (L7.out.fr (ex▸wt.Fr.set _ _ _ _) (ex▸L7.out.blk.set1 _));have FR8:=qAA.mk (show wt.Fr g w w8 from ex▸FR7.out.trans (wt.Fr.set _ _ _ _));have BL8:=qAA.mk (show Below w0.heap.size w0 w8 from ex▸BL7.out.setCell HGG.out _);clear ex;clear h0 h1 h2 h3 f1 f2 hx0 fr_;have h0:=L8.out.blk.c0;have h1:=L8.out.blk.c1;have h2:=L8.out.blk.c2;have h3:=L8.out.blk.c3;have f1:=L8.out.blk.fz 1;have f2:=L8.out.blk.fz 2;have hx0:=L8.out.byt;have fr_:=qAC L8.out.res 0) | ((with_reducible refine qAY (p:=173) rfl ?_);go_must (refine qAq ?hg (t:=3) (p:=173) (v:=.tmp 171) (w1:=w8.setCell ⟨g,2,none⟩ (.int .i64 (wq+1+(q1:Int)))) ?ho ?hN ?hr ?_);(case ho=>rfl);(case hN=>rfl);(case hg=>rfl);(case hr=>first | (go_simp;done) | (go_simp;rfl));intro w9 ex;have L9:=qAA.mk (L8.out.fr (ex▸wt.Fr.set _ _ _ _) (ex▸L8.out.blk.set2 _));have FR9:=qAA.mk (show wt.Fr g w w9 from ex▸FR8.out.trans (wt.Fr.set _ _ _ _));have BL9:=qAA.mk (show Below w0.heap.size w0 w9 from ex▸BL8.out.setCell HGG.out _);clear ex;clear h0 h1 h2 h3 f1 f2 hx0 fr_;have h0:=L9.out.blk.c0;have h1:=L9.out.blk.c1;have h2:=L9.out.blk.c2;have h3:=L9.out.blk.c3;have f1:=L9.out.blk.fz 1;have f2:=L9.out.blk.fz 2;have hx0:=L9.out.byt;have fr_:=qAC L9.out.res 0) | ((with_reducible refine qAY (p:=4) rfl ?_);refine wt.qAk rfl rfl 4 _ rfl w.heap.size rfl (.int .i64 3) (.int .i64 0) (.string st) (.slice none 0 0) (.slice none 0 0) rfl (fun q hq=>by simp at hq;rcases hq with rfl | rfl | rfl | rfl | rfl <;> rfl) _ rfl L9.out.res ?_;intro w5_ hres hgr;have HRES:=qAA.mk hres;have HGR:=qAA.mk hgr;clear hgr hres))
 go_wp2
 refine bodyPost_ret (results_cell_row rfl _ _ w.heap.size 25 _ (0,0) _ rfl HRES.out Try.underlying25 rfl (by kernel_rfl)) rfl ?_
 refine ⟨⟨_,_,rfl,Kd.qBB _ _ _ _ _,Kd.qBB _ _ _ _ _⟩, ?_⟩
 rw [show 2048 - (2048 - (wq+1) - (q1:Int))=wq+1+(q1:Int) by omega]
 exact wt.qBl FR9.out L9.out.blk L9.out.ne.2 HGR.out (Nat.le_refl _) HBB.out.size BL9.out
end
end Go.Proofs.Ytnkbobblnhaclaa.X
namespace Go.Proofs.Ytnkbobblnhaclaa.X
open Go.RowKit Go.Proofs.YtnkbobblnhaclaaW.PrintWords Go.Proofs.YtnkbobblnhaclaaW.PrintLast Go.Proofs.YtnkbobblnhaclaaW.PrintMore Go.Proofs.YtnkbobblnhaclaaW
section
set_option maxHeartbeats 4000000
set_option maxRecDepth 100000
structure wt.LR (w0 w W:World) (g:Nat) (A:Option Addr) (m c:Nat) (vb:Nat) (a wq f p kd:Int) (v3 v4:Value) (acc:List S25) (ks:List ByteArray):Prop where
 blk:wt.RB W g A m c a wq f p
 fr:wt.Fr g w W
 bel:Below w0.heap.size w0 W
 box:W.heap[vb]?=some (.cells #[.int .i64 kd,.int .i64 0,.string ⟨#[]⟩,v3,v4] 25 (0,0))
 res:W.heap[w.heap.size]?=some (.cells #[.int .i64 0,.int .i64 0,.string ⟨#[]⟩,.slice none 0 0,.slice none 0 0] 25 (0,0))
 row:k25.R 25 W w0.heap.size (fun k=>vb < k∧some k ≠ v4.ownBlock) v3 acc
 keys:Kd.string.R 9 W w0.heap.size (fun k=>vb < k) v4 ks
 hvb:w.heap.size < vb
 hgl:g < w.heap.size
 hg:w0.heap.size≤g
section
variable {w0 w W W1:World} {g:Nat} {A:Option Addr} {m c:Nat} {vb:Nat} {a wq f p a1 wq1 f1 p1 kd:Int} {v3 v4:Value} {acc:List S25} {ks:List ByteArray}
theorem wt.LR.lt (h:wt.LR w0 w W g A m c vb a wq f p kd v3 v4 acc ks):vb < W.heap.size:=qAg h.box
theorem wt.LR.below (h:wt.LR w0 w W g A m c vb a wq f p kd v3 v4 acc ks) (hb:Below W.heap.size W W1):wt.LR w0 w W1 g A m c vb a wq f p kd v3 v4 acc ks :=
 ⟨h.blk.below hb,h.fr.trans (wt.Fr.of_below hb),qAh h.bel h.bel.size hb,qAW h.box hb,qAW h.res hb,Kd.qBb h.row hb,Kd.qBb h.keys hb,h.hvb,h.hgl,h.hg⟩
theorem wt.LR.step (h:wt.LR w0 w W g A m c vb a wq f p kd v3 v4 acc ks) (hn:wt.RNx w0 W W1 g A m c a1 wq1 f1 p1):wt.LR w0 w W1 g A m c vb a1 wq1 f1 p1 kd v3 v4 acc ks :=
 have h1:=h.hgl
 have h2:=h.hvb
 ⟨hn.blk,h.fr.trans hn.fr,hn.bel,(hn.fr.2 vb h.lt (by omega)).trans h.box,(hn.fr.2 _ (qAg h.res) (by omega)).trans h.res,Kd.R_step h.row (fun k hk hlt=>hn.fr.2 k hlt (by have:=hk.1;omega)),Kd.R_step h.keys (fun k hk hlt=>hn.fr.2 k hlt (by omega)),h2,h1,h.hg⟩
theorem wt.LR.app3 {v5:Value} {acc2:List S25} (h:wt.LR w0 w W g A m c vb a wq f p kd v3 v4 acc ks) (ho:k25.R 25 W1 w0.heap.size (fun k=>vb < k∧some k ≠ v4.ownBlock) v5 acc2) (hb:Below w0.heap.size w0 W1) (hg:W.grownBy W1 v3.ownBlock):wt.LR w0 w (W1.setCell ⟨vb,3,none⟩ v5) g A m c vb a wq f p kd v5 v4 acc2 ks:=by
 have h1:=h.hgl
 have h2:=h.hvb
 have h3:=h.hg
 have hne:∀ b,b≤vb→some b ≠ v3.ownBlock:=fun b hb2 e=>by have:=(h.row.1 b e.symm).1;omega
 have hsz:w.heap.size≤W.heap.size:=h.fr.1
 have fr1:wt.Fr g w W1:=⟨Nat.le_trans hsz hg.size,fun k hk hkg=>(hg.block k (by omega) (hne k (by omega))).trans (h.fr.2 k hk hkg)⟩
 have box1:=qAz h.box hg (hne vb (Nat.le_refl _))
 exact ⟨(Below.heap_setCell W1 ⟨vb,3,none⟩ v5 g (show g ≠ vb by omega)).trans (qAz h.blk hg (hne g (by omega))),
  ⟨Nat.le_trans fr1.1 (by simp [World.setCell]),fun k hk hkg=>(Below.heap_setCell W1 ⟨vb,3,none⟩ v5 k (show k ≠ vb by omega)).trans (fr1.2 k hk hkg)⟩,
  hb.setCell (show w0.heap.size≤vb by omega) v5,
  qA2 box1 3 v5 rfl,
  (Below.heap_setCell W1 ⟨vb,3,none⟩ v5 _ (show w.heap.size ≠ vb by omega)).trans (qAz h.res hg (hne _ (by omega))),
  Kd.qBy ho (fun k hk=>by show k ≠ vb;have:=hk.1;omega) v5,
  Kd.qBy (Kd.R_over' h.keys (Kd.R_typed h.row) (by decide) hg) (fun k hk=>by show k ≠ vb;omega) v5,h2,h1,h3⟩
theorem wt.LR.app4 {v5:Value} {ks2:List ByteArray} (h:wt.LR w0 w W g A m c vb a wq f p kd v3 v4 acc ks) (ho:Kd.string.R 9 W1 w0.heap.size (fun k=>vb < k) v5 ks2) (hb:Below w0.heap.size w0 W1) (hg:W.grownBy W1 v4.ownBlock) (hat:v5.ownBlock=v4.ownBlock ∨ ∃ b,v5.ownBlock=some b∧W.heap.size≤b):wt.LR w0 w (W1.setCell ⟨vb,4,none⟩ v5) g A m c vb a wq f p kd v3 v5 acc ks2:=by
 have h1:=h.hgl
 have h2:=h.hvb
 have h3:=h.hg
 have hne:∀ b,b≤vb→some b ≠ v4.ownBlock:=fun b hb2 e=>by have:=h.keys.1 b e.symm;omega
 have hsz:w.heap.size≤W.heap.size:=h.fr.1
 have fr1:wt.Fr g w W1:=⟨Nat.le_trans hsz hg.size,fun k hk hkg=>(hg.block k (by omega) (hne k (by omega))).trans (h.fr.2 k hk hkg)⟩
 have box1:=qAz h.box hg (hne vb (Nat.le_refl _))
 exact ⟨(Below.heap_setCell W1 ⟨vb,4,none⟩ v5 g (show g ≠ vb by omega)).trans (qAz h.blk hg (hne g (by omega))),
  ⟨Nat.le_trans fr1.1 (by simp [World.setCell]),fun k hk hkg=>(Below.heap_setCell W1 ⟨vb,4,none⟩ v5 k (show k ≠ vb by omega)).trans (fr1.2 k hk hkg)⟩,
  hb.setCell (show w0.heap.size≤vb by omega) v5,
  qA2 box1 4 v5 rfl,
  (Below.heap_setCell W1 ⟨vb,4,none⟩ v5 _ (show w.heap.size ≠ vb by omega)).trans (qAz h.res hg (hne _ (by omega))),
  Kd.qBy (Kd.R_after h.row hg hat) (fun k hk=>by show k ≠ vb;have:=hk.1;omega) v5,
  Kd.qBy ho (fun k hk=>by show k ≠ vb;omega) v5,h2,h1,h3⟩
end
theorem wt.qCM.open {r:wt.R3 S25} {w0 w w':World} {g:Nat} {A:Option Addr} {m c:Nat} {p:Int} {e:Ending} (h:wt.qCM r w0 w g A m c p e w'):∃ (x:S25) (v3 v4:Value) (a2 wq2 f2 p2:Int),e=.returned (.agg #[.int .i64 x.f0,.int .i64 x.f1,.string x.f2,v3,v4])∧k25.R 25 w' w0.heap.size (fun k=>w.heap.size≤k) v3 x.f3∧Kd.string.R 9 w' w0.heap.size (fun k=>w.heap.size≤k) v4 x.f4∧wt.RNx w0 w w' g A m c a2 wq2 f2 p2∧((f2=0∧p2=p∧r=.ok x a2 (2048 - wq2)) ∨ (f2 ≠ 0∧r=.bad f2 p2)):=by
 cases r with
 | ok x a2 l2 =>
  obtain ⟨⟨v3,v4,h1,h2,h3⟩,h4⟩:=h
  exact ⟨x,v3,v4,_,_,_,_,h1,h2,h3,h4,Or.inl ⟨rfl,rfl,by rw [show 2048 - (2048 - l2)=l2 by omega]⟩⟩
 | bad f q =>
  obtain ⟨⟨x,v3,v4,h1,h2,h3⟩,hf,a2,wq2,h4⟩:=h
  exact ⟨x,v3,v4,_,_,_,_,h1,h2,h3,h4,Or.inr ⟨hf,rfl⟩⟩
theorem wt.arr_step {f:Int→Int→wt.R3 S25} {n j:Nat} {acc:List S25} {a' l':Int} {T:wt.R3 (List S25)} {x:S25} {a2 wq2 f2 p2 p:Int} (hj:j < n) (hrem:wt.arrL f (n - j) acc a' l'=T) (hout:(f2=0∧p2=p∧f a' l'=.ok x a2 (2048 - wq2)) ∨ (f2 ≠ 0∧f a' l'=.bad f2 p2)):(f2=0∧p2=p∧wt.arrL f (n - (j+1)) (acc ++ [x]) a2 (2048 - wq2)=T∧f a' l'=.ok x a2 (2048 - wq2)) ∨ (f2 ≠ 0∧T=.bad f2 p2):=by
 rw [show n - j=(n - (j+1))+1 by omega] at hrem
 unfold wt.arrL at hrem
 rcases hout with ⟨h1,h2,h3⟩ | ⟨h1,h2⟩
 ·rw [h3] at hrem
  exact Or.inl ⟨h1,h2,hrem,h3⟩
 ·rw [h2] at hrem
  exact Or.inr ⟨h1,hrem.symm⟩
theorem wt.rec_step {bs:List Int} {u:Int→Int × Int × Int} {f:Int→Int→wt.R3 S25} {n j:Nat} {acc:List S25} {ks:List ByteArray} {kk:ByteArray} {a' l' ak lk:Int} {T:wt.R3 (List ByteArray × List S25)} {x:S25} {a2 wq2 f2 p2 p:Int} (hj:j < n) (hrem:wt.recL bs u f (n - j) ks acc a' l'=T) (hk:wt.keyS bs u ks a' l'=.ok kk ak lk) (hout:(f2=0∧p2=p∧f ak lk=.ok x a2 (2048 - wq2)) ∨ (f2 ≠ 0∧f ak lk=.bad f2 p2)):(f2=0∧p2=p∧wt.recL bs u f (n - (j+1)) (ks ++ [kk]) (acc ++ [x]) a2 (2048 - wq2)=T∧f ak lk=.ok x a2 (2048 - wq2)) ∨ (f2 ≠ 0∧T=.bad f2 p2):=by
 rw [show n - j=(n - (j+1))+1 by omega] at hrem
 unfold wt.recL at hrem
 rw [hk] at hrem
 dsimp only at hrem
 rcases hout with ⟨h1,h2,h3⟩ | ⟨h1,h2⟩
 ·rw [h3] at hrem
  exact Or.inl ⟨h1,h2,hrem,h3⟩
 ·rw [h2] at hrem
  exact Or.inr ⟨h1,hrem.symm⟩
theorem wt.rec_bad {bs:List Int} {u:Int→Int × Int × Int} {f:Int→Int→wt.R3 S25} {n j:Nat} {acc:List S25} {ks:List ByteArray} {a' l' ee pp:Int} {T:wt.R3 (List ByteArray × List S25)} (hj:j < n) (hrem:wt.recL bs u f (n - j) ks acc a' l'=T) (hk:wt.keyS bs u ks a' l'=.bad ee pp):T=.bad ee pp:=by
 rw [show n - j=(n - (j+1))+1 by omega] at hrem
 unfold wt.recL at hrem
 rw [hk] at hrem
 exact hrem.symm
theorem wt.rd_last (ks:List ByteArray) (k:ByteArray) (j:Nat) (h:ks.length=j):k=rdOf ByteArray.empty (ks ++ [k]) (((j+1:Nat):Int) - 1):=by
 have e:(((j+1:Nat):Int) - 1).toNat=j:=by omega
 unfold rdOf
 rw [e,List.getD_eq_getElem?_getD,List.getElem?_append_right (by omega),h,Nat.sub_self]
 rfl
theorem wt.rv_t5E {bs:List Int} {u i:Int→Int × Int × Int} (hU:wt.Uin bs u i) (hR:wt.Rin bs u i) {w0 w:World} {g:Nat} {A:Option Addr} {c:Nat} {a wq p:Int} (hb:Below w0.heap.size w0 w) (hg:w0.heap.size≤g) (hB:wt.RB w g A bs.length c a wq 0 p) (hC:(Kd.int .u8).C w A bs.length bs) (hc:bs.length≤c) (within:Int) (hw:within < 8) (ha0:0≤a) (ha1:a < (bs.length:Int)) (hwq:0≤wq∧wq+1≤2048) (ht:rd bs a=5) {f q:Int} (hf:f ≠ 0) (hcb:wt.qB0 u a 1 (a+1) (2048 - (wq+1))=.bad f q) :
  Calls Try.prog 40 #[.pointer (some ⟨g,0,none⟩),.int .i64 within] w (wt.qCM (.bad f q) w0 w g A bs.length c p):=by
 have HB:=qAA.mk hB
 have HC:=qAA.mk hC
 have HCC:=qAA.mk hc
 have HBB:=qAA.mk hb
 have HGG:=qAA.mk hg
 have HLL:=qAA.mk hU.L
 have HUU:=qAA.mk hU
 have HRR:=qAA.mk hR
 have HGL:=qAA.mk (show g < w.heap.size from qAg hB)
 have hu25:=Try.underlying25
 have HBW:=qAA.mk ((Below.refl w.heap.size w).alloc (Nat.le_refl _) (.cells #[.int .i64 0,.int .i64 0,.string ⟨#[]⟩,.slice none 0 0,.slice none 0 0] 25))
 have BL1:=qAA.mk (hb.alloc hb.size (.cells #[.int .i64 0,.int .i64 0,.string ⟨#[]⟩,.slice none 0 0,.slice none 0 0] 25))
 obtain ⟨a,rfl⟩:=Int.eq_ofNat_of_zero_le ha0
 have t0:decide ((a:Int) ≥ (bs.length:Int))=false:=decide_eq_false (by omega)
 have t1:decide ((bs.length:Int)≤(a:Int))=false:=decide_eq_false (by omega)
 have t2:decide (bs.length≤a)=false:=decide_eq_false (by omega)
 have t3:(a:Int) < (bs.length:Int):=ha1
 have t4:a < bs.length:=by omega
 have t5:decide (a < bs.length)=true:=decide_eq_true t4
 obtain ⟨ad,hA,hx0_⟩:=Kd.qBL hC (a:Int) (by omega) ha1
 subst hA
 rw [Int.toNat_natCast] at hx0_
 obtain ⟨x,hxd⟩:∃ x,rd bs (a:Int)=x:=⟨_,rfl⟩
 rw [hxd] at hx0_ ht
 have L1:=qAA.mk (show wt.RLy (w.alloc (.cells #[.int .i64 0,.int .i64 0,.string ⟨#[]⟩,.slice none 0 0,.slice none 0 0] 25)) g (some ad) bs.length c (a:Int) wq 0 p (ad.add a) x w.heap.size #[.int .i64 0,.int .i64 0,.string ⟨#[]⟩,.slice none 0 0,.slice none 0 0] from ⟨HB.out.below HBW.out,(HBW.out.cell (qs4 w _ hx0_)).trans hx0_,by simpa using heap_alloc_new w _⟩)
 clear hx0_ hxd
 subst ht
 have w1:decide (within ≥ 8)=false:=decide_eq_false (by omega)
 have w2:decide (8≤within)=false:=decide_eq_false (by omega)
 have HWQ:=qAA.mk hwq
 have hwr:wrap64 ((a:Int)+1)=(a:Int)+1:=by have:=HLL.out;unfold wrap64;omega
 have HCB:=qAA.mk hcb
 have HFN:=qAA.mk hf
 have g1:(f == 0)=false:=beq_eq_false_iff_ne.2 hf
 have g2:decide (f=0)=false:=decide_eq_false hf
 have h0:=L1.out.blk.c0;have h1:=L1.out.blk.c1;have h2:=L1.out.blk.c2;have h3:=L1.out.blk.c3;have f1:=L1.out.blk.fz 1;have f2:=L1.out.blk.fz 2;have hx0:=L1.out.byt;have fr_:=qAC L1.out.res 0
 clear ha1 ha0 hwq hw hf hcb
 clear hU hR hb hg hB hC hc
 go_enter Try.func40,Try.ntmps40
 go_wp2_with (first | (go_at_call 59;refine (wt.heavY BL1.out HGG.out L1.out.blk 1 (a:Int) HWQ.out.1 (by omega) HWQ.out.2).mono ?_;rintro e_ w3 ⟨rfl,hx⟩;have L3:=qAA.mk (L1.out.fr hx.fr hx.blk);have FR3:=qAA.mk ((wt.Fr.of_below HBW.out).trans hx.fr);have BL3:=qAA.mk hx.bel;clear hx;clear h0 h1 h2 h3 f1 f2 hx0 fr_;have h0:=L3.out.blk.c0;have h1:=L3.out.blk.c1;have h2:=L3.out.blk.c2;have h3:=L3.out.blk.c3;have f1:=L3.out.blk.fz 1;have f2:=L3.out.blk.fz 2;have hx0:=L3.out.byt;have fr_:=qAC L3.out.res 0) | ((with_reducible refine qAY (p:=62) rfl ?_);go_must (refine qAq ?hg (t:=3) (p:=62) (v:=.tmp 60) (w1:=w3.setCell ⟨g,1,none⟩ (.int .i64 ((a:Int)+1))) ?ho ?hN ?hr ?_);(case ho=>rfl);(case hN=>rfl);(case hg=>rfl);(case hr=>first | (go_simp;done) | (go_simp;rfl));intro w4 ex;have L4:=qAA.mk (L3.out.fr (ex▸wt.Fr.set _ _ _ _) (ex▸L3.out.blk.set1 _));have FR4:=qAA.mk (show wt.Fr g w w4 from ex▸FR3.out.trans (wt.Fr.set _ _ _ _));have BL4:=qAA.mk (show Below w0.heap.size w0 w4 from ex▸BL3.out.setCell HGG.out _);have HV4:=qAA.mk (show w.heap.size < w4.heap.size from by { rw [ex,Deep.nblk_setCell];have:=qAg L3.out.res;exact this });clear ex;clear h0 h1 h2 h3 f1 f2 hx0 fr_;have h0:=L4.out.blk.c0;have h1:=L4.out.blk.c1;have h2:=L4.out.blk.c2;have h3:=L4.out.blk.c3;have f1:=L4.out.blk.fz 1;have f2:=L4.out.blk.fz 2;have hx0:=L4.out.byt;have fr_:=qAC L4.out.res 0) | ((with_reducible refine qAY (p:=11) rfl ?_);refine wt.qAk rfl rfl 11 _ rfl w4.heap.size rfl (.int .i64 4) (.int .i64 0) (.string ⟨#[]⟩) (.slice none 0 0) (.slice none 0 0) rfl (fun q hq=>by simp at hq;rcases hq with rfl | rfl | rfl | rfl | rfl <;> rfl) _ rfl (by simpa using heap_alloc_new w4 _) ?_;intro w5 hres hgr;have HB5:=qAA.mk (wt.qBi hgr);have L5:=qAA.mk (L4.out.below HB5.out);have Q5:=qAA.mk (show wt.LR w0 w w5 g (some ad) bs.length c w4.heap.size ((a:Int)+1) (wq+1) 0 p 4 (.slice none 0 0) (.slice none 0 0) [] [] from ⟨L5.out.blk,FR4.out.trans (wt.Fr.of_below HB5.out),qAh BL4.out BL4.out.size HB5.out,hres,L5.out.res,Kd.qBB _ _ _ _ _,Kd.qBB _ _ _ _ _,HV4.out,HGL.out,HGG.out⟩);clear hres hgr;clear h0 h1 h2 h3 f1 f2 hx0 fr_;have h0:=L5.out.blk.c0;have h1:=L5.out.blk.c1;have h2:=L5.out.blk.c2;have h3:=L5.out.blk.c3;have f1:=L5.out.blk.fz 1;have f2:=L5.out.blk.fz 2;have hx0:=L5.out.byt;have fr_:=qAC L5.out.res 0) | (go_at_call 61;refine (wt.rnum1 HUU.out HRR.out Q5.out.bel HGG.out Q5.out.blk (wt.qB6 HC.out HB.out Q5.out.fr) HCC.out (a:Int) 1 (by omega) (by have:=HWQ.out;omega)).mono ?_;rw [HCB.out];rintro e_ w6 ⟨⟨y,rfl⟩,b1,b2,hx⟩;have Q6:=qAA.mk (Q5.out.step hx);clear hx;clear h0 h1 h2 h3 f1 f2 hx0 fr_))
 generalize w4.heap.size=vb at *
 go_loopw [13] (fun v13 wr=>(v13=.int .i64 0)∧qAA (wt.LR w0 w wr g (some ad) bs.length c vb b1 b2 f q 4 (.slice none 0 0) (.slice none 0 0) [] [])) (fun v13 _=>0)
 case atStart=>exact ⟨rfl,Q6⟩
 case round =>
  clear Q6 Q5 HB5 L5
  obtain ⟨rfl,HL⟩:=hrel
  have h3:=HL.out.blk.c3
  obtain ⟨v3,hv3⟩:∃ v3,v3=(Value.slice none 0 0):=⟨_,rfl⟩
  by_cases hlt:0 < y
  ·have i1:decide (0 < y)=true:=decide_eq_true hlt
   have hz0:wr.cell? ⟨vb,0,none⟩=some (.int .i64 4):=(qAB HL.out.box 0).trans rfl
   have hz1:wr.cell? ⟨vb,1,none⟩=some (.int .i64 0):=(qAB HL.out.box 1).trans rfl
   have hz2:wr.cell? ⟨vb,2,none⟩=some (.string ⟨#[]⟩):=(qAB HL.out.box 2).trans rfl
   have hz3:wr.cell? ⟨vb,3,none⟩=some (.slice none 0 0):=(qAB HL.out.box 3).trans rfl
   have hz4:wr.cell? ⟨vb,4,none⟩=some (.slice none 0 0):=(qAB HL.out.box 4).trans rfl
   go_wp2_with (first | ((with_reducible refine qAY (p:=4) rfl ?_);refine wt.qAk rfl rfl 4 _ rfl w.heap.size rfl (.int .i64 4) (.int .i64 0) (.string ⟨#[]⟩) (.slice none 0 0) (.slice none 0 0) rfl (fun q hq=>by simp at hq;rcases hq with rfl | rfl | rfl | rfl | rfl <;> rfl) _ rfl HL.out.res ?_;intro w5_ hres hgr;have HRES:=qAA.mk hres;have HGR:=qAA.mk hgr;clear hgr hres))
   go_wp2
   refine bodyPost_ret (results_cell_row rfl _ _ w.heap.size 25 _ (0,0) _ rfl HRES.out Try.underlying25 rfl (by kernel_rfl)) rfl ?_
   have e1:=HL.out.hgl;have e2:=HL.out.hvb
   exact ⟨⟨⟨4,0,⟨#[]⟩,[],[]⟩,_,_,rfl,Kd.qBB _ _ _ _ _,Kd.qBB _ _ _ _ _⟩,HFN.out,_,_,wt.qBl HL.out.fr HL.out.blk (by omega) HGR.out (Nat.le_refl _) HBB.out.size HL.out.bel⟩
  ·have i1:decide (0 < y)=false:=decide_eq_false hlt
   have hz0:wr.cell? ⟨vb,0,none⟩=some (.int .i64 4):=(qAB HL.out.box 0).trans rfl
   have hz1:wr.cell? ⟨vb,1,none⟩=some (.int .i64 0):=(qAB HL.out.box 1).trans rfl
   have hz2:wr.cell? ⟨vb,2,none⟩=some (.string ⟨#[]⟩):=(qAB HL.out.box 2).trans rfl
   have hz3:wr.cell? ⟨vb,3,none⟩=some (.slice none 0 0):=(qAB HL.out.box 3).trans rfl
   have hz4:wr.cell? ⟨vb,4,none⟩=some (.slice none 0 0):=(qAB HL.out.box 4).trans rfl
   go_wp2_with (first | ((with_reducible refine qAY (p:=4) rfl ?_);refine wt.qAk rfl rfl 4 _ rfl w.heap.size rfl (.int .i64 4) (.int .i64 0) (.string ⟨#[]⟩) (.slice none 0 0) (.slice none 0 0) rfl (fun q hq=>by simp at hq;rcases hq with rfl | rfl | rfl | rfl | rfl <;> rfl) _ rfl HL.out.res ?_;intro w5_ hres hgr;have HRES:=qAA.mk hres;have HGR:=qAA.mk hgr;clear hgr hres))
   go_wp2
   refine bodyPost_ret (results_cell_row rfl _ _ w.heap.size 25 _ (0,0) _ rfl HRES.out Try.underlying25 rfl (by kernel_rfl)) rfl ?_
   have e1:=HL.out.hgl;have e2:=HL.out.hvb
   exact ⟨⟨⟨4,0,⟨#[]⟩,[],[]⟩,_,_,rfl,Kd.qBB _ _ _ _ _,Kd.qBB _ _ _ _ _⟩,HFN.out,_,_,wt.qBl HL.out.fr HL.out.blk (by omega) HGR.out (Nat.le_refl _) HBB.out.size HL.out.bel⟩
theorem wt.rv_t6E {bs:List Int} {u i:Int→Int × Int × Int} (hU:wt.Uin bs u i) (hR:wt.Rin bs u i) {w0 w:World} {g:Nat} {A:Option Addr} {c:Nat} {a wq p:Int} (hb:Below w0.heap.size w0 w) (hg:w0.heap.size≤g) (hB:wt.RB w g A bs.length c a wq 0 p) (hC:(Kd.int .u8).C w A bs.length bs) (hc:bs.length≤c) (within:Int) (hw:within < 8) (ha0:0≤a) (ha1:a < (bs.length:Int)) (hwq:0≤wq∧wq+1≤2048) (ht:rd bs a=6) {f q:Int} (hf:f ≠ 0) (hcb:wt.qB0 u a 2 (a+1) (2048 - (wq+1))=.bad f q) :
  Calls Try.prog 40 #[.pointer (some ⟨g,0,none⟩),.int .i64 within] w (wt.qCM (.bad f q) w0 w g A bs.length c p):=by
 have HB:=qAA.mk hB
 have HC:=qAA.mk hC
 have HCC:=qAA.mk hc
 have HBB:=qAA.mk hb
 have HGG:=qAA.mk hg
 have HLL:=qAA.mk hU.L
 have HUU:=qAA.mk hU
 have HRR:=qAA.mk hR
 have HGL:=qAA.mk (show g < w.heap.size from qAg hB)
 have hu25:=Try.underlying25
 have HBW:=qAA.mk ((Below.refl w.heap.size w).alloc (Nat.le_refl _) (.cells #[.int .i64 0,.int .i64 0,.string ⟨#[]⟩,.slice none 0 0,.slice none 0 0] 25))
 have BL1:=qAA.mk (hb.alloc hb.size (.cells #[.int .i64 0,.int .i64 0,.string ⟨#[]⟩,.slice none 0 0,.slice none 0 0] 25))
 obtain ⟨a,rfl⟩:=Int.eq_ofNat_of_zero_le ha0
 have t0:decide ((a:Int) ≥ (bs.length:Int))=false:=decide_eq_false (by omega)
 have t1:decide ((bs.length:Int)≤(a:Int))=false:=decide_eq_false (by omega)
 have t2:decide (bs.length≤a)=false:=decide_eq_false (by omega)
 have t3:(a:Int) < (bs.length:Int):=ha1
 have t4:a < bs.length:=by omega
 have t5:decide (a < bs.length)=true:=decide_eq_true t4
 obtain ⟨ad,hA,hx0_⟩:=Kd.qBL hC (a:Int) (by omega) ha1
 subst hA
 rw [Int.toNat_natCast] at hx0_
 obtain ⟨x,hxd⟩:∃ x,rd bs (a:Int)=x:=⟨_,rfl⟩
 rw [hxd] at hx0_ ht
 have L1:=qAA.mk (show wt.RLy (w.alloc (.cells #[.int .i64 0,.int .i64 0,.string ⟨#[]⟩,.slice none 0 0,.slice none 0 0] 25)) g (some ad) bs.length c (a:Int) wq 0 p (ad.add a) x w.heap.size #[.int .i64 0,.int .i64 0,.string ⟨#[]⟩,.slice none 0 0,.slice none 0 0] from ⟨HB.out.below HBW.out,(HBW.out.cell (qs4 w _ hx0_)).trans hx0_,by simpa using heap_alloc_new w _⟩)
 clear hx0_ hxd
 subst ht
 have w1:decide (within ≥ 8)=false:=decide_eq_false (by omega)
 have w2:decide (8≤within)=false:=decide_eq_false (by omega)
 have HWQ:=qAA.mk hwq
 have hwr:wrap64 ((a:Int)+1)=(a:Int)+1:=by have:=HLL.out;unfold wrap64;omega
 have HCB:=qAA.mk hcb
 have HFN:=qAA.mk hf
 have g1:(f == 0)=false:=beq_eq_false_iff_ne.2 hf
 have g2:decide (f=0)=false:=decide_eq_false hf
 have h0:=L1.out.blk.c0;have h1:=L1.out.blk.c1;have h2:=L1.out.blk.c2;have h3:=L1.out.blk.c3;have f1:=L1.out.blk.fz 1;have f2:=L1.out.blk.fz 2;have hx0:=L1.out.byt;have fr_:=qAC L1.out.res 0
 clear ha1 ha0 hwq hw hf hcb
 clear hU hR hb hg hB hC hc
 go_enter Try.func40,Try.ntmps40
 go_wp2_with (first | (go_at_call 59;refine (wt.heavY BL1.out HGG.out L1.out.blk 1 (a:Int) HWQ.out.1 (by omega) HWQ.out.2).mono ?_;rintro e_ w3 ⟨rfl,hx⟩;have L3:=qAA.mk (L1.out.fr hx.fr hx.blk);have FR3:=qAA.mk ((wt.Fr.of_below HBW.out).trans hx.fr);have BL3:=qAA.mk hx.bel;clear hx;clear h0 h1 h2 h3 f1 f2 hx0 fr_;have h0:=L3.out.blk.c0;have h1:=L3.out.blk.c1;have h2:=L3.out.blk.c2;have h3:=L3.out.blk.c3;have f1:=L3.out.blk.fz 1;have f2:=L3.out.blk.fz 2;have hx0:=L3.out.byt;have fr_:=qAC L3.out.res 0) | ((with_reducible refine qAY (p:=62) rfl ?_);go_must (refine qAq ?hg (t:=3) (p:=62) (v:=.tmp 60) (w1:=w3.setCell ⟨g,1,none⟩ (.int .i64 ((a:Int)+1))) ?ho ?hN ?hr ?_);(case ho=>rfl);(case hN=>rfl);(case hg=>rfl);(case hr=>first | (go_simp;done) | (go_simp;rfl));intro w4 ex;have L4:=qAA.mk (L3.out.fr (ex▸wt.Fr.set _ _ _ _) (ex▸L3.out.blk.set1 _));have FR4:=qAA.mk (show wt.Fr g w w4 from ex▸FR3.out.trans (wt.Fr.set _ _ _ _));have BL4:=qAA.mk (show Below w0.heap.size w0 w4 from ex▸BL3.out.setCell HGG.out _);have HV4:=qAA.mk (show w.heap.size < w4.heap.size from by { rw [ex,Deep.nblk_setCell];have:=qAg L3.out.res;exact this });clear ex;clear h0 h1 h2 h3 f1 f2 hx0 fr_;have h0:=L4.out.blk.c0;have h1:=L4.out.blk.c1;have h2:=L4.out.blk.c2;have h3:=L4.out.blk.c3;have f1:=L4.out.blk.fz 1;have f2:=L4.out.blk.fz 2;have hx0:=L4.out.byt;have fr_:=qAC L4.out.res 0) | ((with_reducible refine qAY (p:=14) rfl ?_);refine wt.qAk rfl rfl 14 _ rfl w4.heap.size rfl (.int .i64 5) (.int .i64 0) (.string ⟨#[]⟩) (.slice none 0 0) (.slice none 0 0) rfl (fun q hq=>by simp at hq;rcases hq with rfl | rfl | rfl | rfl | rfl <;> rfl) _ rfl (by simpa using heap_alloc_new w4 _) ?_;intro w5 hres hgr;have HB5:=qAA.mk (wt.qBi hgr);have L5:=qAA.mk (L4.out.below HB5.out);have Q5:=qAA.mk (show wt.LR w0 w w5 g (some ad) bs.length c w4.heap.size ((a:Int)+1) (wq+1) 0 p 5 (.slice none 0 0) (.slice none 0 0) [] [] from ⟨L5.out.blk,FR4.out.trans (wt.Fr.of_below HB5.out),qAh BL4.out BL4.out.size HB5.out,hres,L5.out.res,Kd.qBB _ _ _ _ _,Kd.qBB _ _ _ _ _,HV4.out,HGL.out,HGG.out⟩);clear hres hgr;clear h0 h1 h2 h3 f1 f2 hx0 fr_;have h0:=L5.out.blk.c0;have h1:=L5.out.blk.c1;have h2:=L5.out.blk.c2;have h3:=L5.out.blk.c3;have f1:=L5.out.blk.fz 1;have f2:=L5.out.blk.fz 2;have hx0:=L5.out.byt;have fr_:=qAC L5.out.res 0) | (go_at_call 61;refine (wt.rnum1 HUU.out HRR.out Q5.out.bel HGG.out Q5.out.blk (wt.qB6 HC.out HB.out Q5.out.fr) HCC.out (a:Int) 2 (by omega) (by have:=HWQ.out;omega)).mono ?_;rw [HCB.out];rintro e_ w6 ⟨⟨y,rfl⟩,b1,b2,hx⟩;have Q6:=qAA.mk (Q5.out.step hx);clear hx;clear h0 h1 h2 h3 f1 f2 hx0 fr_))
 generalize w4.heap.size=vb at *
 go_loopw [16,17] (fun v16 v17 wr=>(∃ last:ByteArray,v16=.string last∧v17=.int .i64 0)∧qAA (wt.LR w0 w wr g (some ad) bs.length c vb b1 b2 f q 5 (.slice none 0 0) (.slice none 0 0) [] [])) (fun v16 v17 _=>0)
 case atStart=>exact ⟨⟨_,rfl,rfl⟩,Q6⟩
 case round =>
  clear Q6 Q5 HB5 L5
  obtain ⟨⟨last,rfl,rfl⟩,HL⟩:=hrel
  have h3:=HL.out.blk.c3
  obtain ⟨v3,hv3⟩:∃ v3,v3=(Value.slice none 0 0):=⟨_,rfl⟩
  by_cases hlt:0 < y
  ·have i1:decide (0 < y)=true:=decide_eq_true hlt
   have hz0:wr.cell? ⟨vb,0,none⟩=some (.int .i64 5):=(qAB HL.out.box 0).trans rfl
   have hz1:wr.cell? ⟨vb,1,none⟩=some (.int .i64 0):=(qAB HL.out.box 1).trans rfl
   have hz2:wr.cell? ⟨vb,2,none⟩=some (.string ⟨#[]⟩):=(qAB HL.out.box 2).trans rfl
   have hz3:wr.cell? ⟨vb,3,none⟩=some (.slice none 0 0):=(qAB HL.out.box 3).trans rfl
   have hz4:wr.cell? ⟨vb,4,none⟩=some (.slice none 0 0):=(qAB HL.out.box 4).trans rfl
   go_wp2_with (first | ((with_reducible refine qAY (p:=4) rfl ?_);refine wt.qAk rfl rfl 4 _ rfl w.heap.size rfl (.int .i64 5) (.int .i64 0) (.string ⟨#[]⟩) (.slice none 0 0) (.slice none 0 0) rfl (fun q hq=>by simp at hq;rcases hq with rfl | rfl | rfl | rfl | rfl <;> rfl) _ rfl HL.out.res ?_;intro w5_ hres hgr;have HRES:=qAA.mk hres;have HGR:=qAA.mk hgr;clear hgr hres))
   go_wp2
   refine bodyPost_ret (results_cell_row rfl _ _ w.heap.size 25 _ (0,0) _ rfl HRES.out Try.underlying25 rfl (by kernel_rfl)) rfl ?_
   have e1:=HL.out.hgl;have e2:=HL.out.hvb
   exact ⟨⟨⟨5,0,⟨#[]⟩,[],[]⟩,_,_,rfl,Kd.qBB _ _ _ _ _,Kd.qBB _ _ _ _ _⟩,HFN.out,_,_,wt.qBl HL.out.fr HL.out.blk (by omega) HGR.out (Nat.le_refl _) HBB.out.size HL.out.bel⟩
  ·have i1:decide (0 < y)=false:=decide_eq_false hlt
   have hz0:wr.cell? ⟨vb,0,none⟩=some (.int .i64 5):=(qAB HL.out.box 0).trans rfl
   have hz1:wr.cell? ⟨vb,1,none⟩=some (.int .i64 0):=(qAB HL.out.box 1).trans rfl
   have hz2:wr.cell? ⟨vb,2,none⟩=some (.string ⟨#[]⟩):=(qAB HL.out.box 2).trans rfl
   have hz3:wr.cell? ⟨vb,3,none⟩=some (.slice none 0 0):=(qAB HL.out.box 3).trans rfl
   have hz4:wr.cell? ⟨vb,4,none⟩=some (.slice none 0 0):=(qAB HL.out.box 4).trans rfl
   go_wp2_with (first | ((with_reducible refine qAY (p:=4) rfl ?_);refine wt.qAk rfl rfl 4 _ rfl w.heap.size rfl (.int .i64 5) (.int .i64 0) (.string ⟨#[]⟩) (.slice none 0 0) (.slice none 0 0) rfl (fun q hq=>by simp at hq;rcases hq with rfl | rfl | rfl | rfl | rfl <;> rfl) _ rfl HL.out.res ?_;intro w5_ hres hgr;have HRES:=qAA.mk hres;have HGR:=qAA.mk hgr;clear hgr hres))
   go_wp2
   refine bodyPost_ret (results_cell_row rfl _ _ w.heap.size 25 _ (0,0) _ rfl HRES.out Try.underlying25 rfl (by kernel_rfl)) rfl ?_
   have e1:=HL.out.hgl;have e2:=HL.out.hvb
   exact ⟨⟨⟨5,0,⟨#[]⟩,[],[]⟩,_,_,rfl,Kd.qBB _ _ _ _ _,Kd.qBB _ _ _ _ _⟩,HFN.out,_,_,wt.qBl HL.out.fr HL.out.blk (by omega) HGR.out (Nat.le_refl _) HBB.out.size HL.out.bel⟩
theorem wt.rv_t5 {bs:List Int} {u i:Int→Int × Int × Int} (hU:wt.Uin bs u i) (hR:wt.Rin bs u i) {w0 w:World} {g:Nat} {A:Option Addr} {c:Nat} {a wq p:Int} (hb:Below w0.heap.size w0 w) (hg:w0.heap.size≤g) (hB:wt.RB w g A bs.length c a wq 0 p) (hC:(Kd.int .u8).C w A bs.length bs) (hc:bs.length≤c) (within:Int) (hw:within < 8) (ha0:0≤a) (ha1:a < (bs.length:Int)) (hwq:0≤wq∧wq+1≤2048) (ht:rd bs a=5) {n:Nat} {a1:Int} (hcb:wt.qB0 u a 1 (a+1) (2048 - (wq+1))=.ok (n:Int) a1 (2048 - (wq+1))) (hn2:n≤2048) (hbd:0≤a1∧a1≤(bs.length:Int)) (hwi:0≤within) (f:Int→Int→wt.R3 S25) (hfb:∀ (a l:Int) (x:S25) (a2 l2:Int),0≤a→a≤(bs.length:Int)→0≤l→l≤2048→f a l=.ok x a2 l2→0≤a2∧a2≤(bs.length:Int)∧0≤l2∧l2≤2048) (IH:∀ (W:World) (a wq:Int),Below w0.heap.size w0 W→wt.RB W g A bs.length c a wq 0 p→(Kd.int .u8).C W A bs.length bs→0≤a→a≤(bs.length:Int)→0≤wq→wq≤2048→Calls Try.prog 40 #[.pointer (some ⟨g,0,none⟩),.int .i64 (within+1)] W (wt.qCM (f a (2048 - wq)) w0 W g A bs.length c p)) :
  Calls Try.prog 40 #[.pointer (some ⟨g,0,none⟩),.int .i64 within] w (wt.qCM (wt.arrV (wt.arrL f n [] a1 (2048 - (wq+1)))) w0 w g A bs.length c p):=by
 have HB:=qAA.mk hB
 have HC:=qAA.mk hC
 have HCC:=qAA.mk hc
 have HBB:=qAA.mk hb
 have HGG:=qAA.mk hg
 have HLL:=qAA.mk hU.L
 have HUU:=qAA.mk hU
 have HRR:=qAA.mk hR
 have HGL:=qAA.mk (show g < w.heap.size from qAg hB)
 have hu25:=Try.underlying25
 have HBW:=qAA.mk ((Below.refl w.heap.size w).alloc (Nat.le_refl _) (.cells #[.int .i64 0,.int .i64 0,.string ⟨#[]⟩,.slice none 0 0,.slice none 0 0] 25))
 have BL1:=qAA.mk (hb.alloc hb.size (.cells #[.int .i64 0,.int .i64 0,.string ⟨#[]⟩,.slice none 0 0,.slice none 0 0] 25))
 obtain ⟨a,rfl⟩:=Int.eq_ofNat_of_zero_le ha0
 have t0:decide ((a:Int) ≥ (bs.length:Int))=false:=decide_eq_false (by omega)
 have t1:decide ((bs.length:Int)≤(a:Int))=false:=decide_eq_false (by omega)
 have t2:decide (bs.length≤a)=false:=decide_eq_false (by omega)
 have t3:(a:Int) < (bs.length:Int):=ha1
 have t4:a < bs.length:=by omega
 have t5:decide (a < bs.length)=true:=decide_eq_true t4
 obtain ⟨ad,hA,hx0_⟩:=Kd.qBL hC (a:Int) (by omega) ha1
 subst hA
 rw [Int.toNat_natCast] at hx0_
 obtain ⟨x,hxd⟩:∃ x,rd bs (a:Int)=x:=⟨_,rfl⟩
 rw [hxd] at hx0_ ht
 have L1:=qAA.mk (show wt.RLy (w.alloc (.cells #[.int .i64 0,.int .i64 0,.string ⟨#[]⟩,.slice none 0 0,.slice none 0 0] 25)) g (some ad) bs.length c (a:Int) wq 0 p (ad.add a) x w.heap.size #[.int .i64 0,.int .i64 0,.string ⟨#[]⟩,.slice none 0 0,.slice none 0 0] from ⟨HB.out.below HBW.out,(HBW.out.cell (qs4 w _ hx0_)).trans hx0_,by simpa using heap_alloc_new w _⟩)
 clear hx0_ hxd
 subst ht
 have w1:decide (within ≥ 8)=false:=decide_eq_false (by omega)
 have w2:decide (8≤within)=false:=decide_eq_false (by omega)
 have HWQ:=qAA.mk hwq
 have hwr:wrap64 ((a:Int)+1)=(a:Int)+1:=by have:=HLL.out;unfold wrap64;omega
 have HCB:=qAA.mk hcb
 have hwi2:wrap64 (within+1)=within+1:=by unfold wrap64;omega
 rw [← hwi2] at IH
 clear hwi2
 have HIH:=qAA.mk IH
 have HFB:=qAA.mk hfb
 have HN2:=qAA.mk hn2
 obtain ⟨T,hT⟩:∃ T,wt.arrL f n [] a1 (2048 - (wq+1))=T:=⟨_,rfl⟩
 rw [hT]
 have HP0:=qAA.mk (And.intro hT (And.intro hbd.1 (And.intro hbd.2 (show 0≤wq+1∧wq+1≤2048 by omega))))
 have h0:=L1.out.blk.c0;have h1:=L1.out.blk.c1;have h2:=L1.out.blk.c2;have h3:=L1.out.blk.c3;have f1:=L1.out.blk.fz 1;have f2:=L1.out.blk.fz 2;have hx0:=L1.out.byt;have fr_:=qAC L1.out.res 0
 clear hT hn2 IH hfb hwi ha1 ha0 hwq hw hbd hcb
 clear hU hR hb hg hB hC hc
 go_enter Try.func40,Try.ntmps40
 go_wp2_with (first | (go_at_call 59;refine (wt.heavY BL1.out HGG.out L1.out.blk 1 (a:Int) HWQ.out.1 (by omega) HWQ.out.2).mono ?_;rintro e_ w3 ⟨rfl,hx⟩;have L3:=qAA.mk (L1.out.fr hx.fr hx.blk);have FR3:=qAA.mk ((wt.Fr.of_below HBW.out).trans hx.fr);have BL3:=qAA.mk hx.bel;clear hx;clear h0 h1 h2 h3 f1 f2 hx0 fr_;have h0:=L3.out.blk.c0;have h1:=L3.out.blk.c1;have h2:=L3.out.blk.c2;have h3:=L3.out.blk.c3;have f1:=L3.out.blk.fz 1;have f2:=L3.out.blk.fz 2;have hx0:=L3.out.byt;have fr_:=qAC L3.out.res 0) | ((with_reducible refine qAY (p:=62) rfl ?_);go_must (refine qAq ?hg (t:=3) (p:=62) (v:=.tmp 60) (w1:=w3.setCell ⟨g,1,none⟩ (.int .i64 ((a:Int)+1))) ?ho ?hN ?hr ?_);(case ho=>rfl);(case hN=>rfl);(case hg=>rfl);(case hr=>first | (go_simp;done) | (go_simp;rfl));intro w4 ex;have L4:=qAA.mk (L3.out.fr (ex▸wt.Fr.set _ _ _ _) (ex▸L3.out.blk.set1 _));have FR4:=qAA.mk (show wt.Fr g w w4 from ex▸FR3.out.trans (wt.Fr.set _ _ _ _));have BL4:=qAA.mk (show Below w0.heap.size w0 w4 from ex▸BL3.out.setCell HGG.out _);have HV4:=qAA.mk (show w.heap.size < w4.heap.size from by { rw [ex,Deep.nblk_setCell];have:=qAg L3.out.res;exact this });clear ex;clear h0 h1 h2 h3 f1 f2 hx0 fr_;have h0:=L4.out.blk.c0;have h1:=L4.out.blk.c1;have h2:=L4.out.blk.c2;have h3:=L4.out.blk.c3;have f1:=L4.out.blk.fz 1;have f2:=L4.out.blk.fz 2;have hx0:=L4.out.byt;have fr_:=qAC L4.out.res 0) | ((with_reducible refine qAY (p:=11) rfl ?_);refine wt.qAk rfl rfl 11 _ rfl w4.heap.size rfl (.int .i64 4) (.int .i64 0) (.string ⟨#[]⟩) (.slice none 0 0) (.slice none 0 0) rfl (fun q hq=>by simp at hq;rcases hq with rfl | rfl | rfl | rfl | rfl <;> rfl) _ rfl (by simpa using heap_alloc_new w4 _) ?_;intro w5 hres hgr;have HB5:=qAA.mk (wt.qBi hgr);have L5:=qAA.mk (L4.out.below HB5.out);have Q5:=qAA.mk (show wt.LR w0 w w5 g (some ad) bs.length c w4.heap.size ((a:Int)+1) (wq+1) 0 p 4 (.slice none 0 0) (.slice none 0 0) [] [] from ⟨L5.out.blk,FR4.out.trans (wt.Fr.of_below HB5.out),qAh BL4.out BL4.out.size HB5.out,hres,L5.out.res,Kd.qBB _ _ _ _ _,Kd.qBB _ _ _ _ _,HV4.out,HGL.out,HGG.out⟩);clear hres hgr;clear h0 h1 h2 h3 f1 f2 hx0 fr_;have h0:=L5.out.blk.c0;have h1:=L5.out.blk.c1;have h2:=L5.out.blk.c2;have h3:=L5.out.blk.c3;have f1:=L5.out.blk.fz 1;have f2:=L5.out.blk.fz 2;have hx0:=L5.out.byt;have fr_:=qAC L5.out.res 0) | (go_at_call 61;refine (wt.rnum1 HUU.out HRR.out Q5.out.bel HGG.out Q5.out.blk (wt.qB6 HC.out HB.out Q5.out.fr) HCC.out (a:Int) 1 (by omega) (by have:=HWQ.out;omega)).mono ?_;rw [HCB.out];rintro e_ w6 ⟨rfl,hx⟩;rw [show (2048 - (2048 - (wq+1)):Int)=wq+1 by omega] at hx;have Q6:=qAA.mk (Q5.out.step hx);clear hx;clear h0 h1 h2 h3 f1 f2 hx0 fr_))
 generalize w4.heap.size=vb at *
 go_loopw [13] (fun v13 wr=>∃ (j:Nat) (acc:List S25) (v3:Value) (a' wq' f' p':Int),v13=.int .i64 (j:Int)∧qAA ((f'=0∧p'=p∧wt.arrL f (n - j) acc a' (2048 - wq')=T∧acc.length=j∧j≤n∧(0≤a'∧a'≤(bs.length:Int)∧0≤wq'∧wq'≤2048)) ∨ (f' ≠ 0∧T=.bad f' p'))∧qAA (wt.LR w0 w wr g (some ad) bs.length c vb a' wq' f' p' 4 v3 (.slice none 0 0) acc [])) (fun v13 _=>n - (intOf v13).toNat)
 case atStart=>exact ⟨0,[],_,a1,wq+1,0,p,rfl,⟨Or.inl ⟨rfl,rfl,HP0.out.1,rfl,Nat.zero_le _,HP0.out.2.1,HP0.out.2.2.1,HP0.out.2.2.2.1,HP0.out.2.2.2.2⟩⟩,Q6⟩
 case round =>
  clear Q6 Q5 HP0 HB5 L5
  obtain ⟨j,acc,v3,a',wq',f',p',rfl,HS,HL⟩:=hrel
  have h3:=HL.out.blk.c3
  rcases HS.out with ⟨rfl,rfl,hrem,hlen,hjn,hbd⟩ | ⟨hf,rfl⟩
  ·clear HS
   have HP:=qAA.mk (And.intro hrem (And.intro hlen (And.intro hjn hbd)))
   by_cases hlt:j < n
   ·have i1:decide ((j:Int) < (n:Int))=true:=decide_eq_true (by omega)
    have i2:decide (j < n)=true:=decide_eq_true hlt
    have i3:(j < n)=True:=eq_true hlt
    have HWR:=qAA.mk (show wrap64 ((j:Int)+1)=(j:Int)+1 by have:=HN2.out;unfold wrap64;omega)
    have HM:=qAA.mk (wt.meas j n hlt HWR.out)
    have HJ:=qAA.mk hlt
    clear hlt hrem hlen hjn hbd
    go_wp2
    refine qBd (n:=10) (S:=fun w'=>w'.cell? ⟨vb,3,none⟩=some v3) (ds:=[9]) #[qF,qF,qF,qF,qF,qF,qF,qF,qF,qF] (by kernel_rfl) rfl rfl ((qAB (HL.out.below (qAc (Below.refl _ _))).box 3).trans rfl) (fun hHeld => ?_)
    generalize hwd:wr.drew=wd at hHeld ⊢
    have QD:=qAA.mk (hwd▸HL.out.below (qAc (Below.refl _ _)))
    clear hwd
    refine qAd (i:=0) (N:=some 194) (v := ?_) (a' := ?_) #[qT,qF,qF,qF,qF,qF,qF,qF,qF,qF] rfl rfl (by kernel_rfl) (fun _ _ _ h=>h) (Or.inl ⟨by rfl, ?_⟩) ?_ ?_
    rotate_left
    ·intro w'
     go_simp
     with_reducible rfl
    rotate_left
    ·simp only [Act.put,qs1,qs2,qs3,qAR,qAT]
     rfl
    refine qAd (i:=2) (N:=some 196) (v := ?_) (a' := ?_) #[qT,qF,qT,qF,qF,qF,qF,qF,qF,qF] rfl rfl (by kernel_rfl) (fun _ _ _ h=>h) (Or.inl ⟨by rfl, ?_⟩) ?_ ?_
    rotate_left
    ·intro w'
     go_simp
     with_reducible rfl
    rotate_left
    ·simp only [Act.put,qs1,qs2,qs3,qAR,qAT]
     rfl
    refine qAd (i:=3) (N:=some 197) (v := ?_) (a' := ?_) #[qT,qF,qT,qT,qF,qF,qF,qF,qF,qF] rfl rfl (by kernel_rfl) (fun _ _ _ h=>h) (Or.inl ⟨by rfl, ?_⟩) ?_ ?_
    rotate_left
    ·intro w'
     go_simp
     with_reducible rfl
    rotate_left
    ·simp only [Act.put,qs1,qs2,qs3,qAR,qAT]
     rfl
    refine qAd (i:=4) (N:=some 198) (v := ?_) (a' := ?_) #[qT,qF,qT,qT,qT,qF,qF,qF,qF,qF] rfl rfl (by kernel_rfl) (fun _ _ _ h=>h) (Or.inl ⟨by rfl, ?_⟩) ?_ ?_
    rotate_left
    ·intro w'
     go_simp
     with_reducible rfl
    rotate_left
    ·simp only [Act.put,qs1,qs2,qs3,qAR,qAT]
     rfl
    refine qBP (i:=1) (N:=some 195) (v := ?_) (a' := ?_) #[qT,qT,qT,qT,qT,qF,qF,qF,qF,qF] rfl rfl (by kernel_rfl) (fun _ _ _ h=>h) (Or.inl ⟨by rfl, ?_⟩) hHeld ?_ ?_
    rotate_left
    ·intro w' s0
     go_simp
     with_reducible rfl
    rotate_left
    ·simp only [Act.put,qs1,qs2,qs3,qAR,qAT]
     rfl
    refine one_ (i:=5) (N:=some 199) #[qT,qT,qT,qT,qT,qT,qF,qF,qF,qF] rfl rfl (by kernel_rfl) (by decide) (fun K hK => ?_)
    refine qB2 Try.func40 (by kernel_rfl) rfl #[.pointer (some ⟨g,0,none⟩),.int .i64 (wrap64 (within+1))] (by rfl) rfl rfl (by (try simp only [List.map_toArray,List.map_cons,List.map_nil]);first | done | rfl) ?_
    refine (HIH.out _ _ _ QD.out.bel QD.out.blk (wt.qB6 HC.out HB.out QD.out.fr) HP.out.2.2.2.1 HP.out.2.2.2.2.1 HP.out.2.2.2.2.2.1 HP.out.2.2.2.2.2.2).mono ?_
    rintro e w7_ hgot
    obtain ⟨x,u3,u4,a2,wq2,f2,p2,rfl,hr3,hr4,hnx,hout⟩:=hgot.open
    refine ⟨_,rfl, ?_⟩
    have HOUT:=qAA.mk hout
    have Q7_:=qAA.mk (QD.out.step hnx)
    have R3_:=qAA.mk hr3
    have R4_:=qAA.mk hr4
    have HSZ:=qAA.mk (show wd.heap.size≤w7_.heap.size from hnx.fr.1)
    clear hgot hnx hr3 hr4 hout
    refine hK.out _ _ ((qAB Q7_.out.box 3).trans rfl) (fun hHeld => ?_)
    clear hK K
    refine qBS (a' := ?_) ?_ ?_
    rotate_left
    ·show Act.put _ (some 199) _=_
     simp only [Act.put,qs1,qs2,qs3,qAR,qAT]
     rfl
    refine one_ (i:=6) (N:=some 200) #[qT,qT,qT,qT,qT,qT,qT,qF,qF,qF] rfl rfl (by kernel_rfl) (by decide) (fun K hK => ?_)
    refine qCB (w1 := ?_) (v := ?_) (by rfl) rfl ?_ ?_
    rotate_left 2
    ·go_simp
     constructor
     ·rfl
     ·rfl
    refine hK.out _ _ ((qAB (qAK Q7_.out.box _) 3).trans rfl) (fun hHeld => ?_)
    clear hK K
    refine qBS (a' := ?_) ?_ ?_
    rotate_left
    ·show Act.put _ (some 200) _=_
     simp only [Act.put,qs1,qs2,qs3,qAR,qAT]
     rfl
    refine one_ (i:=7) (N:=some 201) #[qT,qT,qT,qT,qT,qT,qT,qT,qF,qF] rfl rfl (by kernel_rfl) (by decide) (fun K hK => ?_)
    refine Kd.qBK k25 (w0:=w0) w0.heap.size (by rfl) (.tmp 195) (.tmp 200) 22 25 (.agg #[(.int .i64 0),(.int .i64 0),(.string ⟨#[]⟩),(.slice none 0 0),(.slice none 0 0)]) 80 rfl Try.underlying22 info25 rfl (by decide) (by omega) v3 acc x [.int .i64 x.f0,.int .i64 x.f1,.string x.f2,u3,u4] (fun k=>vb < k∧some k ≠ (.slice none 0 0:Value).ownBlock) (fun k=>wd.heap.size≤k) rfl rfl ?aP ?aK ?aF ?aO ?aB ?aS ?aL ?_
    (case aP=>exact k25_mkM _ _ _ x R3_.out R4_.out)
    (case aK=>exact fun k hk=>⟨⟨Nat.lt_of_lt_of_le QD.out.lt hk,fun e=>absurd (Kd.R_lt QD.out.keys k e.symm) (by omega)⟩,fun e=>absurd (Kd.R_lt QD.out.row k e.symm) (by omega)⟩)
    (case aF=>exact fun k hk=>⟨Nat.lt_of_lt_of_le Q7_.out.lt hk,fun e=>absurd (Kd.R_lt Q7_.out.keys k e.symm) (by omega)⟩)
    (case aO=>exact Q7_.out.row)
    (case aB=>exact Q7_.out.bel)
    (case aS=>exact Q7_.out.bel.size)
    (case aL=>have e1:=HP.out.2.1;have e2:=HJ.out;have e3:=HN2.out;omega)
    intro v5 w8_ ho hb hg2 hat
    obtain ⟨A5,c5,e5⟩:=Kd.qA4 ho
    subst e5
    have Q9:=qAA.mk (Q7_.out.app3 ho hb hg2)
    have B8_:=qAA.mk (qAz Q7_.out.box hg2 (fun e=>absurd (Q7_.out.row.1 vb e.symm).1 (Nat.lt_irrefl _)))
    have fv8_:=qAC B8_.out 3
    clear ho hb hg2 hat
    refine hK.out _ _ ((qAB B8_.out 3).trans rfl) (fun hHeld => ?_)
    clear hK K
    refine qBS (a' := ?_) ?_ ?_
    rotate_left
    ·show Act.put _ (some 201) _=_
     simp only [Act.put,qs1,qs2,qs3,qAR,qAT]
     rfl
    refine qAd (i:=8) (N:=some 202) (v := ?_) (a' := ?_) #[qT,qT,qT,qT,qT,qT,qT,qT,qT,qF] rfl rfl (by kernel_rfl) (fun _ _ _ h=>h) (Or.inl ⟨by rfl, ?_⟩) ?_ ?_
    rotate_left
    ·intro w'
     go_simp
     with_reducible rfl
    rotate_left
    ·simp only [Act.put,qs1,qs2,qs3,qAR,qAT]
     rfl
    refine last_ (i:=9) (N:=none) #[qT,qT,qT,qT,qT,qT,qT,qT,qT,qT] rfl rfl (by kernel_rfl) (by decide) (fun K hK => ?_)
    refine skip_ (w1 := ?_) (by rfl) rfl ?_ ?_
    rotate_left
    ·go_simp
     rfl
    refine hK.out _ _ ?_
    clear hK K
    refine qBu (by kernel_rfl) ?_
    go_wp2
    rw [show (acc ++ [x]).length=acc.length+1 from by simp] at Q9
    go_roundw
    case rel =>
     refine ⟨j+1,acc ++ [x],_,a2,wq2,f2,p2,by rw [HWR.out];rfl,⟨?_⟩,Q9⟩
     rcases wt.arr_step HJ.out HP.out.1 HOUT.out with ⟨q1,q2,q3,q4⟩ | ⟨q1,q2⟩
     ·have hb2:=HFB.out _ _ _ _ _ HP.out.2.2.2.1 HP.out.2.2.2.2.1 (by have:=HP.out.2.2.2.2.2;omega) (by have:=HP.out.2.2.2.2.2;omega) q4
      exact Or.inl ⟨q1,q2,q3,by rw [List.length_append,HP.out.2.1];rfl,HJ.out,hb2.1,hb2.2.1,by omega,by omega⟩
     ·exact Or.inr ⟨q1,q2⟩
    case measure=>exact HM.out
   ·have i1:decide ((j:Int) < (n:Int))=false:=decide_eq_false (by omega)
    have i2:decide (j < n)=false:=decide_eq_false hlt
    have i3:(j < n)=False:=eq_false hlt
    have hjn2:n - j=0:=by omega
    rw [hjn2] at hrem
    have hT2:T=.ok acc a' (2048 - wq'):=hrem.symm
    subst hT2
    clear hrem hjn2 hlt hlen hjn hbd HP
    have hz0:wr.cell? ⟨vb,0,none⟩=some (.int .i64 4):=(qAB HL.out.box 0).trans rfl
    have hz1:wr.cell? ⟨vb,1,none⟩=some (.int .i64 0):=(qAB HL.out.box 1).trans rfl
    have hz2:wr.cell? ⟨vb,2,none⟩=some (.string ⟨#[]⟩):=(qAB HL.out.box 2).trans rfl
    have hz3:wr.cell? ⟨vb,3,none⟩=some v3:=(qAB HL.out.box 3).trans rfl
    have hz4:wr.cell? ⟨vb,4,none⟩=some (.slice none 0 0):=(qAB HL.out.box 4).trans rfl
    have hv1:v3.oneCell'=true:=by obtain ⟨A_,c_,e_⟩:=Kd.qA4 HL.out.row;subst e_;rfl
    go_wp2_with (first | ((with_reducible refine qAY (p:=4) rfl ?_);refine wt.qAk rfl rfl 4 _ rfl w.heap.size rfl (.int .i64 4) (.int .i64 0) (.string ⟨#[]⟩) v3 (.slice none 0 0) rfl (fun q hq=>by simp at hq;rcases hq with rfl | rfl | rfl | rfl | rfl <;> first | rfl | exact hv1) _ rfl HL.out.res ?_;intro w5_ hres hgr;have HRES:=qAA.mk hres;have HGR:=qAA.mk hgr;clear hgr hres))
    go_wp2
    refine bodyPost_ret (results_cell_row rfl _ _ w.heap.size 25 _ (0,0) _ rfl HRES.out Try.underlying25 rfl (by kernel_rfl)) rfl ?_
    have e1:=HL.out.hgl;have e2:=HL.out.hvb
    refine ⟨⟨_,_,rfl,Kd.qA9 (Kd.qB5 HL.out.row HGR.out (fun k hk e=>by have:=Option.some.inj e;have:=hk.1;omega)) (fun k hk=>by have:=hk.1;omega),Kd.qBB _ _ _ _ _⟩, ?_⟩
    rw [show 2048 - (2048 - wq')=wq' by omega]
    exact wt.qBl HL.out.fr HL.out.blk (by omega) HGR.out (Nat.le_refl _) HBB.out.size HL.out.bel
  ·have g1:(f' == 0)=false:=beq_eq_false_iff_ne.2 hf
   have g2:decide (f'=0)=false:=decide_eq_false hf
   have HNE:=qAA.mk hf
   clear hf HS
   by_cases hlt:j < n
   ·have i1:decide ((j:Int) < (n:Int))=true:=decide_eq_true (by omega)
    have i2:decide (j < n)=true:=decide_eq_true hlt
    have i3:(j < n)=True:=eq_true hlt
    clear hlt
    have hz0:wr.cell? ⟨vb,0,none⟩=some (.int .i64 4):=(qAB HL.out.box 0).trans rfl
    have hz1:wr.cell? ⟨vb,1,none⟩=some (.int .i64 0):=(qAB HL.out.box 1).trans rfl
    have hz2:wr.cell? ⟨vb,2,none⟩=some (.string ⟨#[]⟩):=(qAB HL.out.box 2).trans rfl
    have hz3:wr.cell? ⟨vb,3,none⟩=some v3:=(qAB HL.out.box 3).trans rfl
    have hz4:wr.cell? ⟨vb,4,none⟩=some (.slice none 0 0):=(qAB HL.out.box 4).trans rfl
    have hv1:v3.oneCell'=true:=by obtain ⟨A_,c_,e_⟩:=Kd.qA4 HL.out.row;subst e_;rfl
    go_wp2_with (first | ((with_reducible refine qAY (p:=4) rfl ?_);refine wt.qAk rfl rfl 4 _ rfl w.heap.size rfl (.int .i64 4) (.int .i64 0) (.string ⟨#[]⟩) v3 (.slice none 0 0) rfl (fun q hq=>by simp at hq;rcases hq with rfl | rfl | rfl | rfl | rfl <;> first | rfl | exact hv1) _ rfl HL.out.res ?_;intro w5_ hres hgr;have HRES:=qAA.mk hres;have HGR:=qAA.mk hgr;clear hgr hres))
    go_wp2
    refine bodyPost_ret (results_cell_row rfl _ _ w.heap.size 25 _ (0,0) _ rfl HRES.out Try.underlying25 rfl (by kernel_rfl)) rfl ?_
    have e1:=HL.out.hgl;have e2:=HL.out.hvb
    exact ⟨⟨⟨4,0,⟨#[]⟩,acc,[]⟩,_,_,rfl,Kd.qA9 (Kd.qB5 HL.out.row HGR.out (fun k hk e=>by have:=Option.some.inj e;have:=hk.1;omega)) (fun k hk=>by have:=hk.1;omega),Kd.qBB _ _ _ _ _⟩,HNE.out,_,_,wt.qBl HL.out.fr HL.out.blk (by omega) HGR.out (Nat.le_refl _) HBB.out.size HL.out.bel⟩
   ·have i1:decide ((j:Int) < (n:Int))=false:=decide_eq_false (by omega)
    have i2:decide (j < n)=false:=decide_eq_false hlt
    have i3:(j < n)=False:=eq_false hlt
    clear hlt
    have hz0:wr.cell? ⟨vb,0,none⟩=some (.int .i64 4):=(qAB HL.out.box 0).trans rfl
    have hz1:wr.cell? ⟨vb,1,none⟩=some (.int .i64 0):=(qAB HL.out.box 1).trans rfl
    have hz2:wr.cell? ⟨vb,2,none⟩=some (.string ⟨#[]⟩):=(qAB HL.out.box 2).trans rfl
    have hz3:wr.cell? ⟨vb,3,none⟩=some v3:=(qAB HL.out.box 3).trans rfl
    have hz4:wr.cell? ⟨vb,4,none⟩=some (.slice none 0 0):=(qAB HL.out.box 4).trans rfl
    have hv1:v3.oneCell'=true:=by obtain ⟨A_,c_,e_⟩:=Kd.qA4 HL.out.row;subst e_;rfl
    go_wp2_with (first | ((with_reducible refine qAY (p:=4) rfl ?_);refine wt.qAk rfl rfl 4 _ rfl w.heap.size rfl (.int .i64 4) (.int .i64 0) (.string ⟨#[]⟩) v3 (.slice none 0 0) rfl (fun q hq=>by simp at hq;rcases hq with rfl | rfl | rfl | rfl | rfl <;> first | rfl | exact hv1) _ rfl HL.out.res ?_;intro w5_ hres hgr;have HRES:=qAA.mk hres;have HGR:=qAA.mk hgr;clear hgr hres))
    go_wp2
    refine bodyPost_ret (results_cell_row rfl _ _ w.heap.size 25 _ (0,0) _ rfl HRES.out Try.underlying25 rfl (by kernel_rfl)) rfl ?_
    have e1:=HL.out.hgl;have e2:=HL.out.hvb
    exact ⟨⟨⟨4,0,⟨#[]⟩,acc,[]⟩,_,_,rfl,Kd.qA9 (Kd.qB5 HL.out.row HGR.out (fun k hk e=>by have:=Option.some.inj e;have:=hk.1;omega)) (fun k hk=>by have:=hk.1;omega),Kd.qBB _ _ _ _ _⟩,HNE.out,_,_,wt.qBl HL.out.fr HL.out.blk (by omega) HGR.out (Nat.le_refl _) HBB.out.size HL.out.bel⟩
theorem wt.rv_t6 {bs:List Int} {u i:Int→Int × Int × Int} (hU:wt.Uin bs u i) (hR:wt.Rin bs u i) {w0 w:World} {g:Nat} {A:Option Addr} {c:Nat} {a wq p:Int} (hb:Below w0.heap.size w0 w) (hg:w0.heap.size≤g) (hB:wt.RB w g A bs.length c a wq 0 p) (hC:(Kd.int .u8).C w A bs.length bs) (hc:bs.length≤c) (within:Int) (hw:within < 8) (ha0:0≤a) (ha1:a < (bs.length:Int)) (hwq:0≤wq∧wq+1≤2048) (ht:rd bs a=6) {n:Nat} {a1:Int} (hcb:wt.qB0 u a 2 (a+1) (2048 - (wq+1))=.ok (n:Int) a1 (2048 - (wq+1))) (hn2:n≤2048) (hbd:0≤a1∧a1≤(bs.length:Int)) (hwi:0≤within) (f:Int→Int→wt.R3 S25) (hfb:∀ (a l:Int) (x:S25) (a2 l2:Int),0≤a→a≤(bs.length:Int)→0≤l→l≤2048→f a l=.ok x a2 l2→0≤a2∧a2≤(bs.length:Int)∧0≤l2∧l2≤2048) (IH:∀ (W:World) (a wq:Int),Below w0.heap.size w0 W→wt.RB W g A bs.length c a wq 0 p→(Kd.int .u8).C W A bs.length bs→0≤a→a≤(bs.length:Int)→0≤wq→wq≤2048→Calls Try.prog 40 #[.pointer (some ⟨g,0,none⟩),.int .i64 (within+1)] W (wt.qCM (f a (2048 - wq)) w0 W g A bs.length c p)) :
  Calls Try.prog 40 #[.pointer (some ⟨g,0,none⟩),.int .i64 within] w (wt.qCM (wt.recV (wt.recL bs u f n [] [] a1 (2048 - (wq+1)))) w0 w g A bs.length c p):=by
 have HB:=qAA.mk hB
 have HC:=qAA.mk hC
 have HCC:=qAA.mk hc
 have HBB:=qAA.mk hb
 have HGG:=qAA.mk hg
 have HLL:=qAA.mk hU.L
 have HUU:=qAA.mk hU
 have HRR:=qAA.mk hR
 have HGL:=qAA.mk (show g < w.heap.size from qAg hB)
 have hu25:=Try.underlying25
 have HBW:=qAA.mk ((Below.refl w.heap.size w).alloc (Nat.le_refl _) (.cells #[.int .i64 0,.int .i64 0,.string ⟨#[]⟩,.slice none 0 0,.slice none 0 0] 25))
 have BL1:=qAA.mk (hb.alloc hb.size (.cells #[.int .i64 0,.int .i64 0,.string ⟨#[]⟩,.slice none 0 0,.slice none 0 0] 25))
 obtain ⟨a,rfl⟩:=Int.eq_ofNat_of_zero_le ha0
 have t0:decide ((a:Int) ≥ (bs.length:Int))=false:=decide_eq_false (by omega)
 have t1:decide ((bs.length:Int)≤(a:Int))=false:=decide_eq_false (by omega)
 have t2:decide (bs.length≤a)=false:=decide_eq_false (by omega)
 have t3:(a:Int) < (bs.length:Int):=ha1
 have t4:a < bs.length:=by omega
 have t5:decide (a < bs.length)=true:=decide_eq_true t4
 obtain ⟨ad,hA,hx0_⟩:=Kd.qBL hC (a:Int) (by omega) ha1
 subst hA
 rw [Int.toNat_natCast] at hx0_
 obtain ⟨x,hxd⟩:∃ x,rd bs (a:Int)=x:=⟨_,rfl⟩
 rw [hxd] at hx0_ ht
 have L1:=qAA.mk (show wt.RLy (w.alloc (.cells #[.int .i64 0,.int .i64 0,.string ⟨#[]⟩,.slice none 0 0,.slice none 0 0] 25)) g (some ad) bs.length c (a:Int) wq 0 p (ad.add a) x w.heap.size #[.int .i64 0,.int .i64 0,.string ⟨#[]⟩,.slice none 0 0,.slice none 0 0] from ⟨HB.out.below HBW.out,(HBW.out.cell (qs4 w _ hx0_)).trans hx0_,by simpa using heap_alloc_new w _⟩)
 clear hx0_ hxd
 subst ht
 have w1:decide (within ≥ 8)=false:=decide_eq_false (by omega)
 have w2:decide (8≤within)=false:=decide_eq_false (by omega)
 have HWQ:=qAA.mk hwq
 have hwr:wrap64 ((a:Int)+1)=(a:Int)+1:=by have:=HLL.out;unfold wrap64;omega
 have HCB:=qAA.mk hcb
 have hwi2:wrap64 (within+1)=within+1:=by unfold wrap64;omega
 rw [← hwi2] at IH
 clear hwi2
 have HIH:=qAA.mk IH
 have HFB:=qAA.mk hfb
 have HN2:=qAA.mk hn2
 obtain ⟨T,hT⟩:∃ T,wt.recL bs u f n [] [] a1 (2048 - (wq+1))=T:=⟨_,rfl⟩
 rw [hT]
 have HP0:=qAA.mk (And.intro hT (And.intro hbd.1 (And.intro hbd.2 (show 0≤wq+1∧wq+1≤2048 by omega))))
 have h0:=L1.out.blk.c0;have h1:=L1.out.blk.c1;have h2:=L1.out.blk.c2;have h3:=L1.out.blk.c3;have f1:=L1.out.blk.fz 1;have f2:=L1.out.blk.fz 2;have hx0:=L1.out.byt;have fr_:=qAC L1.out.res 0
 clear hT hn2 IH hfb hwi ha1 ha0 hwq hw hbd hcb
 clear hU hR hb hg hB hC hc
 go_enter Try.func40,Try.ntmps40
 go_wp2_with (first | (go_at_call 59;refine (wt.heavY BL1.out HGG.out L1.out.blk 1 (a:Int) HWQ.out.1 (by omega) HWQ.out.2).mono ?_;rintro e_ w3 ⟨rfl,hx⟩;have L3:=qAA.mk (L1.out.fr hx.fr hx.blk);have FR3:=qAA.mk ((wt.Fr.of_below HBW.out).trans hx.fr);have BL3:=qAA.mk hx.bel;clear hx;clear h0 h1 h2 h3 f1 f2 hx0 fr_;have h0:=L3.out.blk.c0;have h1:=L3.out.blk.c1;have h2:=L3.out.blk.c2;have h3:=L3.out.blk.c3;have f1:=L3.out.blk.fz 1;have f2:=L3.out.blk.fz 2;have hx0:=L3.out.byt;have fr_:=qAC L3.out.res 0) | ((with_reducible refine qAY (p:=62) rfl ?_);go_must (refine qAq ?hg (t:=3) (p:=62) (v:=.tmp 60) (w1:=w3.setCell ⟨g,1,none⟩ (.int .i64 ((a:Int)+1))) ?ho ?hN ?hr ?_);(case ho=>rfl);(case hN=>rfl);(case hg=>rfl);(case hr=>first | (go_simp;done) | (go_simp;rfl));intro w4 ex;have L4:=qAA.mk (L3.out.fr (ex▸wt.Fr.set _ _ _ _) (ex▸L3.out.blk.set1 _));have FR4:=qAA.mk (show wt.Fr g w w4 from ex▸FR3.out.trans (wt.Fr.set _ _ _ _));have BL4:=qAA.mk (show Below w0.heap.size w0 w4 from ex▸BL3.out.setCell HGG.out _);have HV4:=qAA.mk (show w.heap.size < w4.heap.size from by { rw [ex,Deep.nblk_setCell];have:=qAg L3.out.res;exact this });clear ex;clear h0 h1 h2 h3 f1 f2 hx0 fr_;have h0:=L4.out.blk.c0;have h1:=L4.out.blk.c1;have h2:=L4.out.blk.c2;have h3:=L4.out.blk.c3;have f1:=L4.out.blk.fz 1;have f2:=L4.out.blk.fz 2;have hx0:=L4.out.byt;have fr_:=qAC L4.out.res 0) | ((with_reducible refine qAY (p:=14) rfl ?_);refine wt.qAk rfl rfl 14 _ rfl w4.heap.size rfl (.int .i64 5) (.int .i64 0) (.string ⟨#[]⟩) (.slice none 0 0) (.slice none 0 0) rfl (fun q hq=>by simp at hq;rcases hq with rfl | rfl | rfl | rfl | rfl <;> rfl) _ rfl (by simpa using heap_alloc_new w4 _) ?_;intro w5 hres hgr;have HB5:=qAA.mk (wt.qBi hgr);have L5:=qAA.mk (L4.out.below HB5.out);have Q5:=qAA.mk (show wt.LR w0 w w5 g (some ad) bs.length c w4.heap.size ((a:Int)+1) (wq+1) 0 p 5 (.slice none 0 0) (.slice none 0 0) [] [] from ⟨L5.out.blk,FR4.out.trans (wt.Fr.of_below HB5.out),qAh BL4.out BL4.out.size HB5.out,hres,L5.out.res,Kd.qBB _ _ _ _ _,Kd.qBB _ _ _ _ _,HV4.out,HGL.out,HGG.out⟩);clear hres hgr;clear h0 h1 h2 h3 f1 f2 hx0 fr_;have h0:=L5.out.blk.c0;have h1:=L5.out.blk.c1;have h2:=L5.out.blk.c2;have h3:=L5.out.blk.c3;have f1:=L5.out.blk.fz 1;have f2:=L5.out.blk.fz 2;have hx0:=L5.out.byt;have fr_:=qAC L5.out.res 0) | (go_at_call 61;refine (wt.rnum1 HUU.out HRR.out Q5.out.bel HGG.out Q5.out.blk (wt.qB6 HC.out HB.out Q5.out.fr) HCC.out (a:Int) 2 (by omega) (by have:=HWQ.out;omega)).mono ?_;rw [HCB.out];rintro e_ w6 ⟨rfl,hx⟩;rw [show (2048 - (2048 - (wq+1)):Int)=wq+1 by omega] at hx;have Q6:=qAA.mk (Q5.out.step hx);clear hx;clear h0 h1 h2 h3 f1 f2 hx0 fr_))
 generalize w4.heap.size=vb at *
 go_loopw [16,17] (fun v16 v17 wr=>∃ (j:Nat) (acc:List S25) (ks:List ByteArray) (v3 v4:Value) (a' wq' f' p':Int) (last:ByteArray),v16=.string last∧v17=.int .i64 (j:Int)∧qAA ((f'=0∧p'=p∧wt.recL bs u f (n - j) ks acc a' (2048 - wq')=T∧(acc.length=j∧ks.length=j)∧j≤n∧(0≤a'∧a'≤(bs.length:Int)∧0≤wq'∧wq'≤2048)∧(0 < j→last=rdOf ByteArray.empty ks ((j:Int) - 1))) ∨ (f' ≠ 0∧T=.bad f' p'))∧qAA (wt.LR w0 w wr g (some ad) bs.length c vb a' wq' f' p' 5 v3 v4 acc ks)) (fun _ v17 _=>n - (intOf v17).toNat)
 case atStart=>exact ⟨0,[],[],_,_,a1,wq+1,0,p,_,rfl,rfl,⟨Or.inl ⟨rfl,rfl,HP0.out.1,⟨rfl,rfl⟩,Nat.zero_le _,⟨HP0.out.2.1,HP0.out.2.2.1,HP0.out.2.2.2.1,HP0.out.2.2.2.2⟩,fun h=>absurd h (Nat.lt_irrefl 0)⟩⟩,Q6⟩
 case round =>
  clear Q6 Q5 HP0 HB5 L5
  obtain ⟨j,acc,ks,v3,v4,a',wq',f',p',last,rfl,rfl,HS,HL⟩:=hrel
  obtain ⟨A4,c4,e4⟩:=Kd.qA4 HL.out.keys
  subst e4
  have h3:=HL.out.blk.c3
  rcases HS.out with ⟨rfl,rfl,hrem,hlen,hjn,hbd,hlast⟩ | ⟨hf,rfl⟩
  ·clear HS
   have HP:=qAA.mk (And.intro hrem (And.intro hlen (And.intro hjn hbd)))
   by_cases hlt:j < n
   ·have i1:decide ((j:Int) < (n:Int))=true:=decide_eq_true (by omega)
    have i2:decide (j < n)=true:=decide_eq_true hlt
    have i3:(j < n)=True:=eq_true hlt
    have HWR:=qAA.mk (show wrap64 ((j:Int)+1)=(j:Int)+1 by have:=HN2.out;unfold wrap64;omega)
    have HM:=qAA.mk (wt.meas j n hlt HWR.out)
    have HJ:=qAA.mk hlt
    obtain ⟨fb,hfb⟩:∃ fb,decide (ks.length=0)=fb:=⟨_,rfl⟩
    have HFI:=qAA.mk (show fb=decide (ks.length=0)∧(0 < ks.length→last=rdOf ByteArray.empty ks ((ks.length:Int) - 1)) from ⟨hfb.symm,fun h=>by rw [hlen.2] at h ⊢;exact hlast h⟩)
    have eb1:((j:Int) == 0)=fb:=by rw [← hfb,hlen.2];by_cases h:j=0 <;> simp [h]
    have eb2:decide ((j:Int)=0)=fb:=by rw [← hfb,hlen.2];by_cases h:j=0 <;> simp [h]
    have eb3:decide (j=0)=fb:=by rw [← hfb,hlen.2]
    have KY:=fun (W:World) (q1:Below w0.heap.size w0 W) (q2:wt.RB W g (some ad) bs.length c a' wq' 0 p') (q3:(Kd.int .u8).C W (some ad) bs.length bs)=>wt.rkey1 HUU.out HRR.out q1 HGG.out q2 q3 HCC.out ⟨hbd.2.2.1,hbd.2.2.2⟩ ks fb last HFI.out.1 HFI.out.2
    rcases hka:wt.keyS bs u ks a' (2048 - wq') with ⟨kk,ak,lk⟩ | ⟨ee,pp⟩
    ·rw [hka] at KY
     have KY:=qAA.mk KY
     have HKA:=qAA.mk hka
     obtain ⟨wk,hwk⟩:∃ wk,lk=2048 - wk:=⟨2048 - lk,by omega⟩
     subst hwk
     have HBK:=qAA.mk (wt.keyS_b HUU.out (by omega) hka)
     clear hlt hrem hlen hjn hbd hlast hfb hka
     go_wp2_with (first | (go_at_call 62;refine (KY.out _ HL.out.bel HL.out.blk (wt.qB6 HC.out HB.out HL.out.fr)).mono ?_;rintro e_ w7 ⟨rfl,hx⟩;rw [show (2048 - (2048 - wk):Int)=wk by omega] at hx;have Q7:=qAA.mk (HL.out.step hx);clear hx h3;have h3:=Q7.out.blk.c3;have hy4:=(qAB Q7.out.box 4).trans rfl) | (at_builtin;go_must (refine Kd.qCD Kd.string (w0:=w0) w0.heap.size rfl (.tmp 233) (.tmp 235) 23 9 (.string ⟨#[]⟩) 16 rfl Try.underlying23 info9 rfl (by decide) (by omega) (.slice A4 ks.length c4) ks kk [.string kk] (fun k=>vb < k) (fun _=>False) rfl rfl rfl (fun _ h=>h.elim) ?aF ?aO ?aB ?aS ?aL ?_);go_must ((case aF=>exact fun k hk=>Nat.lt_of_lt_of_le Q7.out.lt hk));go_must ((case aO=>exact Q7.out.keys));go_must ((case aB=>exact Q7.out.bel));go_must ((case aS=>exact Q7.out.bel.size));go_must ((case aL=>have e1:=HP.out.2.1.2;have e2:=HJ.out;have e3:=HN2.out;omega));intro v6 w8 ho hb hg2 hat;obtain ⟨A6,c6,e6⟩:=Kd.qA4 ho;subst e6;have Q8:=qAA.mk (Q7.out.app4 ho hb hg2 hat);have B8:=qAA.mk (qAz Q7.out.box hg2 (fun e=>absurd (Q7.out.keys.1 vb e.symm) (Nat.lt_irrefl _)));have fv8:=qAC B8.out 4;have hy8:=(qAB B8.out 4).trans rfl;clear ho hb hg2 hat))
     rw [show (ks ++ [kk]).length=ks.length+1 from by simp] at Q8
     generalize hw9:w8.setCell ⟨vb,4,none⟩ (.slice A6 (ks.length+1) c6)=w9 at Q8 ⊢
     clear hw9 hy8 fv8 hy4
     refine qBd (n:=10) (S:=fun w'=>w'.cell? ⟨vb,3,none⟩=some v3) (ds:=[9]) #[qF,qF,qF,qF,qF,qF,qF,qF,qF,qF] (by kernel_rfl) rfl rfl ((qAB (Q8.out.below (qAc (Below.refl _ _))).box 3).trans rfl) (fun hHeld => ?_)
     generalize hwd:w9.drew=wd at hHeld ⊢
     have QD:=qAA.mk (hwd▸Q8.out.below (qAc (Below.refl _ _)))
     clear hwd
     refine qAd (i:=0) (N:=some 238) (v := ?_) (a' := ?_) #[qT,qF,qF,qF,qF,qF,qF,qF,qF,qF] rfl rfl (by kernel_rfl) (fun _ _ _ h=>h) (Or.inl ⟨by rfl, ?_⟩) ?_ ?_
     rotate_left
     ·intro w'
      go_simp
      with_reducible rfl
     rotate_left
     ·simp only [Act.put,qs1,qs2,qs3,qAR,qAT]
      rfl
     refine qAd (i:=2) (N:=some 240) (v := ?_) (a' := ?_) #[qT,qF,qT,qF,qF,qF,qF,qF,qF,qF] rfl rfl (by kernel_rfl) (fun _ _ _ h=>h) (Or.inl ⟨by rfl, ?_⟩) ?_ ?_
     rotate_left
     ·intro w'
      go_simp
      with_reducible rfl
     rotate_left
     ·simp only [Act.put,qs1,qs2,qs3,qAR,qAT]
      rfl
     refine qAd (i:=3) (N:=some 241) (v := ?_) (a' := ?_) #[qT,qF,qT,qT,qF,qF,qF,qF,qF,qF] rfl rfl (by kernel_rfl) (fun _ _ _ h=>h) (Or.inl ⟨by rfl, ?_⟩) ?_ ?_
     rotate_left
     ·intro w'
      go_simp
      with_reducible rfl
     rotate_left
     ·simp only [Act.put,qs1,qs2,qs3,qAR,qAT]
      rfl
     refine qAd (i:=4) (N:=some 242) (v := ?_) (a' := ?_) #[qT,qF,qT,qT,qT,qF,qF,qF,qF,qF] rfl rfl (by kernel_rfl) (fun _ _ _ h=>h) (Or.inl ⟨by rfl, ?_⟩) ?_ ?_
     rotate_left
     ·intro w'
      go_simp
      with_reducible rfl
     rotate_left
     ·simp only [Act.put,qs1,qs2,qs3,qAR,qAT]
      rfl
     refine qBP (i:=1) (N:=some 239) (v := ?_) (a' := ?_) #[qT,qT,qT,qT,qT,qF,qF,qF,qF,qF] rfl rfl (by kernel_rfl) (fun _ _ _ h=>h) (Or.inl ⟨by rfl, ?_⟩) hHeld ?_ ?_
     rotate_left
     ·intro w' s0
      go_simp
      with_reducible rfl
     rotate_left
     ·simp only [Act.put,qs1,qs2,qs3,qAR,qAT]
      rfl
     refine one_ (i:=5) (N:=some 243) #[qT,qT,qT,qT,qT,qT,qF,qF,qF,qF] rfl rfl (by kernel_rfl) (by decide) (fun K hK => ?_)
     refine qB2 Try.func40 (by kernel_rfl) rfl #[.pointer (some ⟨g,0,none⟩),.int .i64 (wrap64 (within+1))] (by rfl) rfl rfl (by (try simp only [List.map_toArray,List.map_cons,List.map_nil]);first | done | rfl) ?_
     refine (HIH.out _ _ _ QD.out.bel QD.out.blk (wt.qB6 HC.out HB.out QD.out.fr) HBK.out.1 HBK.out.2.1 (by have:=HBK.out;omega) (by have:=HBK.out;omega)).mono ?_
     rintro e w7_ hgot
     obtain ⟨x,u3,u4,a2,wq2,f2,p2,rfl,hr3,hr4,hnx,hout⟩:=hgot.open
     refine ⟨_,rfl, ?_⟩
     have HOUT:=qAA.mk hout
     have Q7_:=qAA.mk (QD.out.step hnx)
     have R3_:=qAA.mk hr3
     have R4_:=qAA.mk hr4
     have HSZ:=qAA.mk (show wd.heap.size≤w7_.heap.size from hnx.fr.1)
     clear hgot hnx hr3 hr4 hout
     refine hK.out _ _ ((qAB Q7_.out.box 3).trans rfl) (fun hHeld => ?_)
     clear hK K
     refine qBS (a' := ?_) ?_ ?_
     rotate_left
     ·show Act.put _ (some 243) _=_
      simp only [Act.put,qs1,qs2,qs3,qAR,qAT]
      rfl
     refine one_ (i:=6) (N:=some 244) #[qT,qT,qT,qT,qT,qT,qT,qF,qF,qF] rfl rfl (by kernel_rfl) (by decide) (fun K hK => ?_)
     refine qCB (w1 := ?_) (v := ?_) (by rfl) rfl ?_ ?_
     rotate_left 2
     ·go_simp
      constructor
      ·rfl
      ·rfl
     refine hK.out _ _ ((qAB (qAK Q7_.out.box _) 3).trans rfl) (fun hHeld => ?_)
     clear hK K
     refine qBS (a' := ?_) ?_ ?_
     rotate_left
     ·show Act.put _ (some 244) _=_
      simp only [Act.put,qs1,qs2,qs3,qAR,qAT]
      rfl
     refine one_ (i:=7) (N:=some 245) #[qT,qT,qT,qT,qT,qT,qT,qT,qF,qF] rfl rfl (by kernel_rfl) (by decide) (fun K hK => ?_)
     refine Kd.qBK k25 (w0:=w0) w0.heap.size (by rfl) (.tmp 239) (.tmp 244) 22 25 (.agg #[(.int .i64 0),(.int .i64 0),(.string ⟨#[]⟩),(.slice none 0 0),(.slice none 0 0)]) 80 rfl Try.underlying22 info25 rfl (by decide) (by omega) v3 acc x [.int .i64 x.f0,.int .i64 x.f1,.string x.f2,u3,u4] (fun k=>vb < k∧some k ≠ (.slice A6 (ks.length+1) c6:Value).ownBlock) (fun k=>wd.heap.size≤k) rfl rfl ?aP ?aK ?aF ?aO ?aB ?aS ?aL ?_
     (case aP=>exact k25_mkM _ _ _ x R3_.out R4_.out)
     (case aK=>exact fun k hk=>⟨⟨Nat.lt_of_lt_of_le QD.out.lt hk,fun e=>absurd (Kd.R_lt QD.out.keys k e.symm) (by omega)⟩,fun e=>absurd (Kd.R_lt QD.out.row k e.symm) (by omega)⟩)
     (case aF=>exact fun k hk=>⟨Nat.lt_of_lt_of_le Q7_.out.lt hk,fun e=>absurd (Kd.R_lt Q7_.out.keys k e.symm) (by omega)⟩)
     (case aO=>exact Q7_.out.row)
     (case aB=>exact Q7_.out.bel)
     (case aS=>exact Q7_.out.bel.size)
     (case aL=>have e1:=HP.out.2.1;have e2:=HJ.out;have e3:=HN2.out;omega)
     intro v5 w8_ ho hb hg2 hat
     obtain ⟨A5,c5,e5⟩:=Kd.qA4 ho
     subst e5
     have Q9:=qAA.mk (Q7_.out.app3 ho hb hg2)
     have B8_:=qAA.mk (qAz Q7_.out.box hg2 (fun e=>absurd (Q7_.out.row.1 vb e.symm).1 (Nat.lt_irrefl _)))
     have fv8_:=qAC B8_.out 3
     clear ho hb hg2 hat
     refine hK.out _ _ ((qAB B8_.out 3).trans rfl) (fun hHeld => ?_)
     clear hK K
     refine qBS (a' := ?_) ?_ ?_
     rotate_left
     ·show Act.put _ (some 245) _=_
      simp only [Act.put,qs1,qs2,qs3,qAR,qAT]
      rfl
     refine qAd (i:=8) (N:=some 246) (v := ?_) (a' := ?_) #[qT,qT,qT,qT,qT,qT,qT,qT,qT,qF] rfl rfl (by kernel_rfl) (fun _ _ _ h=>h) (Or.inl ⟨by rfl, ?_⟩) ?_ ?_
     rotate_left
     ·intro w'
      go_simp
      with_reducible rfl
     rotate_left
     ·simp only [Act.put,qs1,qs2,qs3,qAR,qAT]
      rfl
     refine last_ (i:=9) (N:=none) #[qT,qT,qT,qT,qT,qT,qT,qT,qT,qT] rfl rfl (by kernel_rfl) (by decide) (fun K hK => ?_)
     refine skip_ (w1 := ?_) (by rfl) rfl ?_ ?_
     rotate_left
     ·go_simp
      rfl
     refine hK.out _ _ ?_
     clear hK K
     refine qBu (by kernel_rfl) ?_
     go_wp2
     rw [show (acc ++ [x]).length=acc.length+1 from by simp] at Q9
     go_roundw
     case rel =>
      refine ⟨j+1,acc ++ [x],ks ++ [kk],_,_,a2,wq2,f2,p2,_,rfl,by rw [HWR.out];rfl,⟨?_⟩,Q9⟩
      rcases wt.rec_step HJ.out HP.out.1 HKA.out HOUT.out with ⟨q1,q2,q3,q4⟩ | ⟨q1,q2⟩
      ·have hb2:=HFB.out _ _ _ _ _ HBK.out.1 HBK.out.2.1 HBK.out.2.2.1 HBK.out.2.2.2 q4
       exact Or.inl ⟨q1,q2,q3,⟨by rw [List.length_append,HP.out.2.1.1];rfl,by rw [List.length_append,HP.out.2.1.2];rfl⟩,HJ.out,⟨hb2.1,hb2.2.1,by omega,by omega⟩,fun _=>wt.rd_last ks kk j HP.out.2.1.2⟩
      ·exact Or.inr ⟨q1,q2⟩
     case measure=>exact HM.out
    ·rw [hka] at KY
     have KY:=qAA.mk KY
     have HTB:=qAA.mk (And.intro (wt.keyS_ne hka) (wt.rec_bad hlt hrem hka))
     have g1:(ee == 0)=false:=beq_eq_false_iff_ne.2 HTB.out.1
     have g2:decide (ee=0)=false:=decide_eq_false HTB.out.1
     clear hlt hrem hlen hjn hbd hlast hfb hka
     go_wp2_with (first | (go_at_call 62;refine (KY.out _ HL.out.bel HL.out.blk (wt.qB6 HC.out HB.out HL.out.fr)).mono ?_;rintro e_ w7 ⟨⟨kk,rfl⟩,b1,b2,hx⟩;have Q7:=qAA.mk (HL.out.step hx);clear hx h3;have h3:=Q7.out.blk.c3))
     go_roundw
     case rel=>exact ⟨j+1,acc,ks,_,_,b1,b2,ee,pp,_,rfl,by rw [HWR.out];rfl,⟨Or.inr HTB.out⟩,Q7⟩
     case measure=>exact HM.out
   ·have i1:decide ((j:Int) < (n:Int))=false:=decide_eq_false (by omega)
    have i2:decide (j < n)=false:=decide_eq_false hlt
    have i3:(j < n)=False:=eq_false hlt
    have hjn2:n - j=0:=by omega
    rw [hjn2] at hrem
    have hT2:T=.ok (ks,acc) a' (2048 - wq'):=hrem.symm
    subst hT2
    clear hrem hjn2 hlt hlen hjn hbd HP hlast
    have hz0:wr.cell? ⟨vb,0,none⟩=some (.int .i64 5):=(qAB HL.out.box 0).trans rfl
    have hz1:wr.cell? ⟨vb,1,none⟩=some (.int .i64 0):=(qAB HL.out.box 1).trans rfl
    have hz2:wr.cell? ⟨vb,2,none⟩=some (.string ⟨#[]⟩):=(qAB HL.out.box 2).trans rfl
    have hz3:wr.cell? ⟨vb,3,none⟩=some v3:=(qAB HL.out.box 3).trans rfl
    have hz4:wr.cell? ⟨vb,4,none⟩=some (.slice A4 ks.length c4):=(qAB HL.out.box 4).trans rfl
    have hv1:v3.oneCell'=true:=by obtain ⟨A_,c_,e_⟩:=Kd.qA4 HL.out.row;subst e_;rfl
    go_wp2_with (first | ((with_reducible refine qAY (p:=4) rfl ?_);refine wt.qAk rfl rfl 4 _ rfl w.heap.size rfl (.int .i64 5) (.int .i64 0) (.string ⟨#[]⟩) v3 (.slice A4 ks.length c4) rfl (fun q hq=>by simp at hq;rcases hq with rfl | rfl | rfl | rfl | rfl <;> first | rfl | exact hv1) _ rfl HL.out.res ?_;intro w5_ hres hgr;have HRES:=qAA.mk hres;have HGR:=qAA.mk hgr;clear hgr hres))
    go_wp2
    refine bodyPost_ret (results_cell_row rfl _ _ w.heap.size 25 _ (0,0) _ rfl HRES.out Try.underlying25 rfl (by kernel_rfl)) rfl ?_
    have e1:=HL.out.hgl;have e2:=HL.out.hvb
    refine ⟨⟨_,_,rfl,Kd.qA9 (Kd.qB5 HL.out.row HGR.out (fun k hk e=>by have:=Option.some.inj e;have:=hk.1;omega)) (fun k hk=>by have:=hk.1;omega),Kd.qA9 (Kd.qB5 HL.out.keys HGR.out (fun k hk e=>by have:=Option.some.inj e;omega)) (fun k hk=>by omega)⟩, ?_⟩
    rw [show 2048 - (2048 - wq')=wq' by omega]
    exact wt.qBl HL.out.fr HL.out.blk (by omega) HGR.out (Nat.le_refl _) HBB.out.size HL.out.bel
  ·have g1:(f' == 0)=false:=beq_eq_false_iff_ne.2 hf
   have g2:decide (f'=0)=false:=decide_eq_false hf
   have HNE:=qAA.mk hf
   clear hf HS
   by_cases hlt:j < n
   ·have i1:decide ((j:Int) < (n:Int))=true:=decide_eq_true (by omega)
    have i2:decide (j < n)=true:=decide_eq_true hlt
    have i3:(j < n)=True:=eq_true hlt
    clear hlt
    have hz0:wr.cell? ⟨vb,0,none⟩=some (.int .i64 5):=(qAB HL.out.box 0).trans rfl
    have hz1:wr.cell? ⟨vb,1,none⟩=some (.int .i64 0):=(qAB HL.out.box 1).trans rfl
    have hz2:wr.cell? ⟨vb,2,none⟩=some (.string ⟨#[]⟩):=(qAB HL.out.box 2).trans rfl
    have hz3:wr.cell? ⟨vb,3,none⟩=some v3:=(qAB HL.out.box 3).trans rfl
    have hz4:wr.cell? ⟨vb,4,none⟩=some (.slice A4 ks.length c4):=(qAB HL.out.box 4).trans rfl
    have hv1:v3.oneCell'=true:=by obtain ⟨A_,c_,e_⟩:=Kd.qA4 HL.out.row;subst e_;rfl
    go_wp2_with (first | ((with_reducible refine qAY (p:=4) rfl ?_);refine wt.qAk rfl rfl 4 _ rfl w.heap.size rfl (.int .i64 5) (.int .i64 0) (.string ⟨#[]⟩) v3 (.slice A4 ks.length c4) rfl (fun q hq=>by simp at hq;rcases hq with rfl | rfl | rfl | rfl | rfl <;> first | rfl | exact hv1) _ rfl HL.out.res ?_;intro w5_ hres hgr;have HRES:=qAA.mk hres;have HGR:=qAA.mk hgr;clear hgr hres))
    go_wp2
    refine bodyPost_ret (results_cell_row rfl _ _ w.heap.size 25 _ (0,0) _ rfl HRES.out Try.underlying25 rfl (by kernel_rfl)) rfl ?_
    have e1:=HL.out.hgl;have e2:=HL.out.hvb
    exact ⟨⟨⟨5,0,⟨#[]⟩,acc,ks⟩,_,_,rfl,Kd.qA9 (Kd.qB5 HL.out.row HGR.out (fun k hk e=>by have:=Option.some.inj e;have:=hk.1;omega)) (fun k hk=>by have:=hk.1;omega),Kd.qA9 (Kd.qB5 HL.out.keys HGR.out (fun k hk e=>by have:=Option.some.inj e;omega)) (fun k hk=>by omega)⟩,HNE.out,_,_,wt.qBl HL.out.fr HL.out.blk (by omega) HGR.out (Nat.le_refl _) HBB.out.size HL.out.bel⟩
   ·have i1:decide ((j:Int) < (n:Int))=false:=decide_eq_false (by omega)
    have i2:decide (j < n)=false:=decide_eq_false hlt
    have i3:(j < n)=False:=eq_false hlt
    clear hlt
    have hz0:wr.cell? ⟨vb,0,none⟩=some (.int .i64 5):=(qAB HL.out.box 0).trans rfl
    have hz1:wr.cell? ⟨vb,1,none⟩=some (.int .i64 0):=(qAB HL.out.box 1).trans rfl
    have hz2:wr.cell? ⟨vb,2,none⟩=some (.string ⟨#[]⟩):=(qAB HL.out.box 2).trans rfl
    have hz3:wr.cell? ⟨vb,3,none⟩=some v3:=(qAB HL.out.box 3).trans rfl
    have hz4:wr.cell? ⟨vb,4,none⟩=some (.slice A4 ks.length c4):=(qAB HL.out.box 4).trans rfl
    have hv1:v3.oneCell'=true:=by obtain ⟨A_,c_,e_⟩:=Kd.qA4 HL.out.row;subst e_;rfl
    go_wp2_with (first | ((with_reducible refine qAY (p:=4) rfl ?_);refine wt.qAk rfl rfl 4 _ rfl w.heap.size rfl (.int .i64 5) (.int .i64 0) (.string ⟨#[]⟩) v3 (.slice A4 ks.length c4) rfl (fun q hq=>by simp at hq;rcases hq with rfl | rfl | rfl | rfl | rfl <;> first | rfl | exact hv1) _ rfl HL.out.res ?_;intro w5_ hres hgr;have HRES:=qAA.mk hres;have HGR:=qAA.mk hgr;clear hgr hres))
    go_wp2
    refine bodyPost_ret (results_cell_row rfl _ _ w.heap.size 25 _ (0,0) _ rfl HRES.out Try.underlying25 rfl (by kernel_rfl)) rfl ?_
    have e1:=HL.out.hgl;have e2:=HL.out.hvb
    exact ⟨⟨⟨5,0,⟨#[]⟩,acc,ks⟩,_,_,rfl,Kd.qA9 (Kd.qB5 HL.out.row HGR.out (fun k hk e=>by have:=Option.some.inj e;have:=hk.1;omega)) (fun k hk=>by have:=hk.1;omega),Kd.qA9 (Kd.qB5 HL.out.keys HGR.out (fun k hk e=>by have:=Option.some.inj e;omega)) (fun k hk=>by omega)⟩,HNE.out,_,_,wt.qBl HL.out.fr HL.out.blk (by omega) HGR.out (Nat.le_refl _) HBB.out.size HL.out.bel⟩
end
end Go.Proofs.Ytnkbobblnhaclaa.X
namespace Go.Proofs.Ytnkbobblnhaclaa.X
open Go.RowKit Go.Proofs.YtnkbobblnhaclaaW.PrintWords Go.Proofs.YtnkbobblnhaclaaW.PrintLast Go.Proofs.YtnkbobblnhaclaaW.PrintMore Go.Proofs.YtnkbobblnhaclaaW
section
set_option maxHeartbeats 4000000
set_option maxRecDepth 100000
theorem wt.rvalue1 {bs:List Int} {u i:Int→Int × Int × Int} (hU:wt.Uin bs u i) (hR:wt.Rin bs u i) {w0:World} {g:Nat} {A:Option Addr} {c:Nat} {p:Int} (hg:w0.heap.size≤g) (hc:bs.length≤c):∀ (d:Nat),d≤8→∀ (within:Int),within=8 - (d:Int)→∀ (w:World) (a wq:Int),Below w0.heap.size w0 w→wt.RB w g A bs.length c a wq 0 p→(Kd.int .u8).C w A bs.length bs→0≤a→a≤(bs.length:Int)→0≤wq→wq≤2048 →
  Calls Try.prog 40 #[.pointer (some ⟨g,0,none⟩),.int .i64 within] w (wt.qCM (wt.valS bs u i d a (2048 - wq)) w0 w g A bs.length c p):=by
 intro d
 induction d with
 | zero =>
  intro _ within hw w a wq hb hB hC ha0 ha1 hl0 hl1
  rw [wt.valS]
  by_cases h0:a=(bs.length:Int) ∨ rd bs a > 6
  ·rw [if_pos h0]
   by_cases h00:a=(bs.length:Int)
   ·exact wt.rv_b1 hU hR hb hg hB hC hc within h00
   ·exact wt.rv_b2 hU hR hb hg hB hC hc within ha0 (by omega) (h0.resolve_left h00)
  rw [if_neg h0]
  exact wt.rv_bd hU hR hb hg hB hC hc within ha0 (by have:a ≠ (bs.length:Int):=fun e=>h0 (Or.inl e);omega) (by have:¬ rd bs a > 6:=fun e=>h0 (Or.inr e);omega) (by omega)
 | succ d ih =>
  intro hd within hw w a wq hb hB hC ha0 ha1 hl0 hl1
  rw [wt.valS_s]
  by_cases h0:a=(bs.length:Int) ∨ rd bs a > 6
  ·rw [if_pos h0]
   by_cases h00:a=(bs.length:Int)
   ·exact wt.rv_b1 hU hR hb hg hB hC hc within h00
   ·exact wt.rv_b2 hU hR hb hg hB hC hc within ha0 (by omega) (h0.resolve_left h00)
  rw [if_neg h0]
  have ha2:a < (bs.length:Int):=by
   have:a ≠ (bs.length:Int):=fun e=>h0 (Or.inl e)
   omega
  have hx:rd bs a≤6:=by
   have:¬ rd bs a > 6:=fun e=>h0 (Or.inr e)
   omega
  have hw8:within < 8:=by omega
  by_cases h1:1 > 2048 - wq
  ·rw [if_pos h1]
   exact wt.rv_bw hU hR hb hg hB hC hc within ha0 ha2 hx hw8 hl1 (by omega)
  rw [if_neg h1]
  have hwq:0≤wq∧wq+1≤2048:=by omega
  by_cases k1:rd bs a=1
  ·rw [if_pos k1];exact wt.rv_t1 hU hR hb hg hB hC hc within hw8 ha0 ha2 hwq k1
  rw [if_neg k1]
  by_cases k2:rd bs a=2
  ·rw [if_pos k2];exact wt.rv_t2 hU hR hb hg hB hC hc within hw8 ha0 ha2 hwq k2
  rw [if_neg k2]
  by_cases k3:rd bs a=3
  ·rw [if_pos k3]
   by_cases e1:(i (a+1)).2.2 ≠ 0
   ·rw [if_pos e1];exact wt.rv_t3N hU hR hb hg hB hC hc within hw8 ha0 ha2 hwq k3 e1
   ·rw [if_neg e1];exact wt.rv_t3 hU hR hb hg hB hC hc within hw8 ha0 ha2 hwq k3 (Classical.byContradiction e1)
  rw [if_neg k3]
  have hL:2048 - wq - 1=2048 - (wq+1):=by omega
  rw [hL]
  have hIH:∀ (W:World) (a wq:Int),Below w0.heap.size w0 W→wt.RB W g A bs.length c a wq 0 p→(Kd.int .u8).C W A bs.length bs→0≤a→a≤(bs.length:Int)→0≤wq→wq≤2048→Calls Try.prog 40 #[.pointer (some ⟨g,0,none⟩),.int .i64 (within+1)] W (wt.qCM (wt.valS bs u i d a (2048 - wq)) w0 W g A bs.length c p):=ih (by omega) (within+1) (by omega)
  have hFB:∀ (a l:Int) (x:S25) (a2 l2:Int),0≤a→a≤(bs.length:Int)→0≤l→l≤2048→wt.valS bs u i d a l=.ok x a2 l2→0≤a2∧a2≤(bs.length:Int)∧0≤l2∧l2≤2048:=fun a l x a2 l2 q1 q2 q3 q4 q=>wt.valS_b hU d a l x a2 l2 ⟨q1,q2,q3,q4⟩ q
  have cE:∀ t,(u (a+1)).2.2 ≠ 0→wt.qB0 u a t (a+1) (2048 - (wq+1))=.bad 41 (a+1):=fun t e1=>by unfold wt.qB0;rw [if_pos e1]
  have cS:∀ t,¬ (u (a+1)).2.2 ≠ 0→(2048 - (wq+1)) / t < (u (a+1)).1→wt.qB0 u a t (a+1) (2048 - (wq+1))=.bad 42 a:=fun t e1 e2=>by unfold wt.qB0;rw [if_neg e1,if_pos e2]
  have cK:∀ t,¬ (u (a+1)).2.2 ≠ 0→¬ (2048 - (wq+1)) / t < (u (a+1)).1→wt.qB0 u a t (a+1) (2048 - (wq+1))=.ok (u (a+1)).1 (u (a+1)).2.1 (2048 - (wq+1)):=fun t e1 e2=>by unfold wt.qB0;rw [if_neg e1,if_neg e2]
  have hRR:=hU.R (a+1)
  by_cases k4:rd bs a=4
  ·rw [if_pos k4]
   by_cases e1:(u (a+1)).2.2 ≠ 0
   ·rw [if_pos e1];exact wt.rv_t4E hU hR hb hg hB hC hc within hw8 ha0 ha2 hwq k4 (by decide) (cE 1 e1)
   rw [if_neg e1]
   by_cases e2:(2048 - (wq+1)) / 1 < (u (a+1)).1
   ·rw [if_pos e2];exact wt.rv_t4E hU hR hb hg hB hC hc within hw8 ha0 ha2 hwq k4 (by decide) (cS 1 e1 e2)
   rw [if_neg e2]
   have hN:=hU.N (a+1) (Classical.byContradiction e1)
   have hcb:=cK 1 e1 e2
   rw [Int.ediv_one] at e2
   by_cases e3:(bs.length:Int) - (u (a+1)).2.1 < (u (a+1)).1
   ·rw [if_pos e3];exact wt.rv_t4C hU hR hb hg hB hC hc within hw8 ha0 ha2 hwq k4 hcb ⟨hRR.1,by omega,by omega,hN.2.2⟩ e3
   ·rw [if_neg e3];exact wt.rv_t4 hU hR hb hg hB hC hc within hw8 ha0 ha2 hwq k4 hcb ⟨hRR.1,by omega,by omega,hN.2.2⟩ (Int.not_lt.1 e3)
  rw [if_neg k4]
  by_cases k5:rd bs a=5
  ·rw [if_pos k5]
   by_cases e1:(u (a+1)).2.2 ≠ 0
   ·rw [if_pos e1];exact wt.rv_t5E hU hR hb hg hB hC hc within hw8 ha0 ha2 hwq k5 (by decide) (cE 1 e1)
   rw [if_neg e1]
   by_cases e2:(2048 - (wq+1)) / 1 < (u (a+1)).1
   ·rw [if_pos e2];exact wt.rv_t5E hU hR hb hg hB hC hc within hw8 ha0 ha2 hwq k5 (by decide) (cS 1 e1 e2)
   rw [if_neg e2]
   have hN:=hU.N (a+1) (Classical.byContradiction e1)
   have hcb:=cK 1 e1 e2
   rw [Int.ediv_one] at e2
   obtain ⟨n,hn⟩:=Int.eq_ofNat_of_zero_le hRR.1
   rw [hn] at hcb e2 ⊢
   rw [Int.toNat_natCast]
   exact wt.rv_t5 hU hR hb hg hB hC hc within hw8 ha0 ha2 hwq k5 hcb (by omega) ⟨by omega,hN.2.2⟩ (by omega) _ hFB hIH
  rw [if_neg k5]
  by_cases k6:rd bs a=6
  ·rw [if_pos k6]
   by_cases e1:(u (a+1)).2.2 ≠ 0
   ·rw [if_pos e1];exact wt.rv_t6E hU hR hb hg hB hC hc within hw8 ha0 ha2 hwq k6 (by decide) (cE 2 e1)
   rw [if_neg e1]
   by_cases e2:(2048 - (wq+1)) / 2 < (u (a+1)).1
   ·rw [if_pos e2];exact wt.rv_t6E hU hR hb hg hB hC hc within hw8 ha0 ha2 hwq k6 (by decide) (cS 2 e1 e2)
   rw [if_neg e2]
   have hN:=hU.N (a+1) (Classical.byContradiction e1)
   have hcb:=cK 2 e1 e2
   obtain ⟨n,hn⟩:=Int.eq_ofNat_of_zero_le hRR.1
   rw [hn] at hcb e2 ⊢
   rw [Int.toNat_natCast]
   have hle:(2048 - (wq+1)) / 2≤2048 - (wq+1):=Int.ediv_le_self _ (by omega)
   exact wt.rv_t6 hU hR hb hg hB hC hc within hw8 ha0 ha2 hwq k6 hcb (by omega) ⟨by omega,hN.2.2⟩ (by omega) _ hFB hIH
  rw [if_neg k6]
  have hbx:0≤rd bs a:=by
   have hlt:a.toNat < bs.length:=by omega
   have:rd bs a=bs[a.toNat]:=by unfold rd;rw [List.getD_eq_getElem?_getD,List.getElem?_eq_getElem hlt];rfl
   rw [this]
   exact (hU.B _ (List.getElem_mem hlt)).1
  rw [← hL]
  exact wt.rv_t0 hU hR hb hg hB hC hc within hw8 ha0 ha2 hwq (by omega)
theorem wt.res23 {tmps:Array Value} {w:World} {bv:Nat} (hp4:tmps[4]?=some (.pointer (some ⟨bv,0,none⟩))) {v0 v1 v2 v3 v4:Value} {x y:Int} (hp5:tmps[5]?=some (.int .i64 x)) (hp6:tmps[6]?=some (.int .i64 y)) (hv:w.heap[bv]?=some (.cells #[v0,v1,v2,v3,v4] 25 (0,0))) :
  (results Try.f23 tmps).run Try.prog w=.ok (.tuple #[.agg #[v0,v1,v2,v3,v4],.int .i64 x,.int .i64 y]) w:=by
 have z0:w.cell? ⟨bv,0,none⟩=some v0:=(qAB hv 0).trans rfl
 have z1:w.cell? ⟨bv,1,none⟩=some v1:=(qAB hv 1).trans rfl
 have z2:w.cell? ⟨bv,2,none⟩=some v2:=(qAB hv 2).trans rfl
 have z3:w.cell? ⟨bv,3,none⟩=some v3:=(qAB hv 3).trans rfl
 have z4:w.cell? ⟨bv,4,none⟩=some v4:=(qAB hv 4).trans rfl
 simp [results,Try.results23,hp4,hp5,hp6,asAddr,z0,z1,z2,z3,z4,go_sem]
def wt.RGotT (r:wt.R3 S25) (w:World) (e:Ending) (w':World):Prop :=
 match r with
 | .ok x a' _=>∃ v3 v4:Value,e=.returned (.tuple #[.agg #[.int .i64 x.f0,.int .i64 x.f1,.string x.f2,v3,v4],.int .i64 a',.int .i64 0])∧k25.R 25 w' w.heap.size (fun _=>True) v3 x.f3∧Kd.string.R 9 w' w.heap.size (fun _=>True) v4 x.f4∧Below w.heap.size w w'
 | .bad f p=>e=.returned (.tuple #[.agg #[.int .i64 0,.int .i64 0,.string ⟨#[]⟩,.slice none 0 0,.slice none 0 0],.int .i64 p,.int .i64 f])∧Below w.heap.size w w'
theorem wt.rtakeA {bs:List Int} {w:World} {A:Option Addr} {c:Nat} {at_:Int} (h:at_ < 0 ∨ at_ > (bs.length:Int)):Calls Try.prog 23 #[.slice A bs.length c,.int .i64 at_] w (wt.RGotT (.bad 41 0) w):=by
 obtain ⟨m,hm⟩:∃ m,bs.length=m:=⟨_,rfl⟩
 rw [hm] at h ⊢
 have FIN:=qAA.mk (show (w.alloc (.cells #[.int .i64 0,.int .i64 0,.string ⟨#[]⟩,.slice none 0 0,.slice none 0 0] 25)).heap[w.heap.size]?=some (.cells #[.int .i64 0,.int .i64 0,.string ⟨#[]⟩,.slice none 0 0,.slice none 0 0] 25 (0,0))∧Below w.heap.size w (w.alloc (.cells #[.int .i64 0,.int .i64 0,.string ⟨#[]⟩,.slice none 0 0,.slice none 0 0] 25)) from ⟨by simpa using heap_alloc_new w _,(Below.refl _ _).alloc (Nat.le_refl _) _⟩)
 by_cases h1:at_ < 0
 ·have d1:decide (at_ < 0)=true:=decide_eq_true h1
  clear h
  go_enter Try.func23,Try.ntmps23
  go_wp2
  refine bodyPost_ret (wt.res23 rfl rfl rfl FIN.out.1) rfl ?_
  exact ⟨rfl,FIN.out.2⟩
 ·have d1:decide (at_ < 0)=false:=decide_eq_false h1
  have h2:at_ > (m:Int):=h.resolve_left h1
  have d2:decide (at_ > (m:Int))=true:=decide_eq_true h2
  have d3:decide ((m:Int) < at_)=true:=decide_eq_true h2
  clear h h1
  go_enter Try.func23,Try.ntmps23
  go_wp2
  refine bodyPost_ret (wt.res23 rfl rfl rfl FIN.out.1) rfl ?_
  exact ⟨rfl,FIN.out.2⟩
theorem wt.rtakeC {bs:List Int} {u i:Int→Int × Int × Int} (hU:wt.Uin bs u i) (hRR:wt.Rin bs u i) {w:World} {A:Option Addr} {c:Nat} {at_:Int} (hC:(Kd.int .u8).C w A bs.length bs) (hc:bs.length≤c) (h0:0≤at_) (h1:at_≤(bs.length:Int)) {ee pp:Int} (hr:wt.valS bs u i 8 at_ 2048=.bad ee pp) :
  Calls Try.prog 23 #[.slice A bs.length c,.int .i64 at_] w (wt.RGotT (.bad ee pp) w):=by
 have d1:decide (at_ < 0)=false:=decide_eq_false (by omega)
 have d2:decide (at_ > (bs.length:Int))=false:=decide_eq_false (by omega)
 have d3:decide ((bs.length:Int) < at_)=false:=decide_eq_false (by omega)
 have HU:=qAA.mk hU
 have HRR:=qAA.mk hRR
 have HC:=qAA.mk hC
 have HCC:=qAA.mk hc
 have H0:=qAA.mk h0
 have H1:=qAA.mk h1
 have HR:=qAA.mk hr
 have HT:=qAA.mk (show (w.alloc (.cells #[.int .i64 0,.int .i64 0,.string ⟨#[]⟩,.slice none 0 0,.slice none 0 0] 25)).heap[w.heap.size]?=some (.cells #[.int .i64 0,.int .i64 0,.string ⟨#[]⟩,.slice none 0 0,.slice none 0 0] 25 (0,0))∧(w.alloc (.cells #[.int .i64 0,.int .i64 0,.string ⟨#[]⟩,.slice none 0 0,.slice none 0 0] 25)).heap.size=w.heap.size+1∧Below w.heap.size w (w.alloc (.cells #[.int .i64 0,.int .i64 0,.string ⟨#[]⟩,.slice none 0 0,.slice none 0 0] 25)) from ⟨by simpa using heap_alloc_new w _,Deep.nblk_alloc _ _,(Below.refl _ _).alloc (Nat.le_refl _) _⟩)
 clear hU hRR hC hc h0 h1 hr
 go_enter Try.func23,Try.ntmps23
 go_wp2_with (first | ((with_reducible refine qAj (N:=21) rfl ?_);refine qAf ?hg (N:=21) ?hd (cs:=#[.slice A bs.length c,.int .i64 at_,.int .i64 0,.int .i64 0,.int .i64 0]) (t:=62) ?hr ?_;(case hd=>rfl);(case hg=>rfl);(case hr=>first | (go_simp;done) | (go_simp;rfl));intro g hg w2 hbox hb1;have HB2:=qAA.mk (qAh HT.out.2.2 HT.out.2.2.size hb1);have V2:=qAA.mk (qAW HT.out.1 hb1);have G2:=qAA.mk (show wt.RB w2 g A bs.length c at_ 0 0 0 from hbox);have HG:=qAA.mk (hg.trans HT.out.2.1);clear hbox hb1 hg) | (go_at_call 40;refine (wt.rvalue1 HU.out HRR.out (show w.heap.size≤g by have:=HG.out;omega) HCC.out 8 (by omega) 0 rfl w2 at_ 0 HB2.out G2.out (Kd.qAe HC.out HB2.out) H0.out H1.out (by omega) (by omega)).mono ?_;rw [show (2048 - 0:Int)=2048 from rfl,HR.out];rintro e_ w3 ⟨⟨x,v3,v4,rfl,hr3,hr4⟩,hf,b1,b2,hx⟩;have g1:(ee != 0)=true:=bne_iff_ne.2 hf;have g2:(ee == 0)=false:=beq_eq_false_iff_ne.2 hf;have g3:decide (ee=0)=false:=decide_eq_false hf;clear hf;have HV:=qAA.mk (wt.qBz (by obtain ⟨A_,c_,e_⟩:=Kd.qA4 hr3;exact ⟨_,_,_,e_⟩));have HW:=qAA.mk (wt.qBz (by obtain ⟨A_,c_,e_⟩:=Kd.qA4 hr4;exact ⟨_,_,_,e_⟩));have R3_:=qAA.mk hr3;have R4_:=qAA.mk hr4;have V3:=qAA.mk ((hx.fr.2 _ (qAg V2.out) (by have:=HG.out;omega)).trans V2.out);have G3:=qAA.mk hx.blk;have HB3:=qAA.mk hx.bel;clear hx hr3 hr4) | ((with_reducible refine qAY (p:=8) rfl ?_);refine wt.qAk rfl rfl 8 _ rfl w3.heap.size rfl (.int .i64 x.f0) (.int .i64 x.f1) (.string x.f2) v3 v4 rfl (fun q hq=>by simp at hq;rcases hq with rfl | rfl | rfl | rfl | rfl <;> first | rfl | exact HV.out.1 | exact HW.out.1) _ rfl (by simpa using heap_alloc_new w3 _) ?_;intro w4 hres hgr;have HB4:=qAA.mk (wt.qBi hgr);have X4:=qAA.mk hres;have V4:=qAA.mk (qAW V3.out HB4.out);have G4:=qAA.mk (G3.out.below HB4.out);have BL4:=qAA.mk (qAh HB3.out HB3.out.size HB4.out);have HLT:=qAA.mk (qAg V3.out);clear hres hgr;have h3:=G4.out.c3))
 clear h3
 refine qBd (n:=12) (S:=fun w'=>w'.cell? ⟨g,4,none⟩=some (.int .i64 pp)∧w'.cell? ⟨g,3,none⟩=some (.int .i64 ee)) (ds:=[]) #[qF,qF,qF,qF,qF,qF,qF,qF,qF,qF,qF,qF] (by kernel_rfl) rfl rfl ⟨(G4.out.below (qAc (Below.refl _ _))).c4,(G4.out.below (qAc (Below.refl _ _))).c3⟩ (fun hHeld => ?_)
 generalize hwd:w4.drew=wd at hHeld ⊢
 have Gd:=qAA.mk (hwd▸G4.out.below (qAc (Below.refl _ _)))
 have Vd:=qAA.mk (hwd▸qAM V4.out)
 have Xd:=qAA.mk (hwd▸qAM X4.out)
 have BLd:=qAA.mk (hwd▸qAc BL4.out)
 clear hwd
 refine qAd (i:=0) (N:=some 29) (v := ?_) (a' := ?_) #[qT,qF,qF,qF,qF,qF,qF,qF,qF,qF,qF,qF] rfl rfl (by kernel_rfl) (fun _ _ _ h=>h) (Or.inl ⟨by rfl, ?_⟩) ?_ ?_
 rotate_left
 ·intro w'
  go_simp
  with_reducible rfl
 rotate_left
 ·simp only [Act.put,qs1,qs2,qs3,qAR,qAT]
  rfl
 refine qAd (i:=1) (N:=some 30) (v := ?_) (a' := ?_) #[qT,qT,qF,qF,qF,qF,qF,qF,qF,qF,qF,qF] rfl rfl (by kernel_rfl) (fun _ _ _ h=>h) (Or.inl ⟨by rfl, ?_⟩) ?_ ?_
 rotate_left
 ·intro w'
  go_simp
  with_reducible rfl
 rotate_left
 ·simp only [Act.put,qs1,qs2,qs3,qAR,qAT]
  rfl
 refine qAd (i:=2) (N:=some 31) (v := ?_) (a' := ?_) #[qT,qT,qT,qF,qF,qF,qF,qF,qF,qF,qF,qF] rfl rfl (by kernel_rfl) (fun _ _ _ h=>h) (Or.inl ⟨by rfl, ?_⟩) ?_ ?_
 rotate_left
 ·intro w'
  go_simp
  with_reducible rfl
 rotate_left
 ·simp only [Act.put,qs1,qs2,qs3,qAR,qAT]
  rfl
 refine qAd (i:=3) (N:=some 32) (v := ?_) (a' := ?_) #[qT,qT,qT,qT,qF,qF,qF,qF,qF,qF,qF,qF] rfl rfl (by kernel_rfl) (fun _ _ _ h=>h) (Or.inl ⟨by rfl, ?_⟩) ?_ ?_
 rotate_left
 ·intro w'
  go_simp
  with_reducible rfl
 rotate_left
 ·simp only [Act.put,qs1,qs2,qs3,qAR,qAT]
  rfl
 refine qAd (i:=5) (N:=some 34) (v := ?_) (a' := ?_) #[qT,qT,qT,qT,qF,qT,qF,qF,qF,qF,qF,qF] rfl rfl (by kernel_rfl) (fun _ _ _ h=>h) (Or.inl ⟨by rfl, ?_⟩) ?_ ?_
 rotate_left
 ·intro w'
  go_simp
  with_reducible rfl
 rotate_left
 ·simp only [Act.put,qs1,qs2,qs3,qAR,qAT]
  rfl
 refine qAd (i:=6) (N:=some 35) (v := ?_) (a' := ?_) #[qT,qT,qT,qT,qF,qT,qT,qF,qF,qF,qF,qF] rfl rfl (by kernel_rfl) (fun _ _ _ h=>h) (Or.inl ⟨by rfl, ?_⟩) ?_ ?_
 rotate_left
 ·intro w'
  go_simp
  with_reducible rfl
 rotate_left
 ·simp only [Act.put,qs1,qs2,qs3,qAR,qAT]
  rfl
 refine qAd (i:=7) (N:=some 36) (v := ?_) (a' := ?_) #[qT,qT,qT,qT,qF,qT,qT,qT,qF,qF,qF,qF] rfl rfl (by kernel_rfl) (fun _ _ _ h=>h) (Or.inl ⟨by rfl, ?_⟩) ?_ ?_
 rotate_left
 ·intro w'
  go_simp
  with_reducible rfl
 rotate_left
 ·simp only [Act.put,qs1,qs2,qs3,qAR,qAT]
  rfl
 refine qBP (i:=4) (N:=some 33) (v := ?_) (a' := ?_) #[qT,qT,qT,qT,qT,qT,qT,qT,qF,qF,qF,qF] rfl rfl (by kernel_rfl) (fun _ _ _ h=>h) (Or.inl ⟨by rfl, ?_⟩) hHeld ?_ ?_
 rotate_left
 ·rintro w' ⟨s0,s1⟩
  go_simp
  with_reducible rfl
 rotate_left
 ·simp only [Act.put,qs1,qs2,qs3,qAR,qAT]
  rfl
 refine qBP (i:=8) (N:=some 37) (v := ?_) (a' := ?_) #[qT,qT,qT,qT,qT,qT,qT,qT,qT,qF,qF,qF] rfl rfl (by kernel_rfl) (fun _ _ _ h=>h) (Or.inl ⟨by rfl, ?_⟩) hHeld ?_ ?_
 rotate_left
 ·rintro w' ⟨s0,s1⟩
  go_simp
  with_reducible rfl
 rotate_left
 ·simp only [Act.put,qs1,qs2,qs3,qAR,qAT]
  rfl
 refine one_ (i:=9) (N:=none) #[qT,qT,qT,qT,qT,qT,qT,qT,qT,qT,qF,qF] rfl rfl (by kernel_rfl) (by decide) (fun K hK => ?_)
 refine wt.st25 25 (by rfl) rfl 4 (.tmp 29) rfl (by kernel_rfl) w.heap.size 0 rfl (.int .i64 0) (.int .i64 0) (.string ⟨#[]⟩) (.slice none 0 0) (.slice none 0 0) rfl ?hone _ 25 (Nat.le_refl _) Vd.out ?_
 (case hone=>intro q hq;simp at hq;rcases hq with rfl | rfl | rfl | rfl | rfl <;> rfl)
 intro w6 cv' q1 q2 q3 q4 q5
 have V6:=qAA.mk q1
 have SZ6:=qAA.mk q2
 have GR6:=qAA.mk q3
 have G6:=qAA.mk (show wt.RB w6 g A bs.length c _ _ _ _ from (q5.block _ (qAg Gd.out) (fun e_=>by have:=Option.some.inj e_;have:=HG.out;omega)).trans Gd.out)
 have X6:=qAA.mk ((q5.block _ (qAg Xd.out) (fun e_=>by have:=Option.some.inj e_;have:=HLT.out;omega)).trans Xd.out)
 have HB6:=qAA.mk (show Below w.heap.size w w6 from ⟨q5.os.trans BLd.out.os,q5.tape.trans BLd.out.tape,q5.output.trans BLd.out.output,Nat.le_trans BLd.out.size q5.size,fun k hk=>(q5.block k (Nat.lt_of_lt_of_le hk BLd.out.size) (fun e_=>by have:=Option.some.inj e_;omega)).trans (BLd.out.block k hk)⟩)
 clear q1 q2 q3 q4 q5
 refine hK.out _ _ ⟨G6.out.c4,G6.out.c3⟩ (fun hHeld => ?_)
 clear hK K
 refine qAd (i:=10) (N:=some 5) (v := ?_) (a' := ?_) #[qT,qT,qT,qT,qT,qT,qT,qT,qT,qT,qT,qF] rfl rfl (by kernel_rfl) (fun _ _ _ h=>h) (Or.inl ⟨by rfl, ?_⟩) ?_ ?_
 rotate_left
 ·intro w'
  go_simp
  with_reducible rfl
 rotate_left
 ·simp only [Act.put,qs1,qs2,qs3,qAR,qAT]
  rfl
 refine qAd (i:=11) (N:=some 6) (v := ?_) (a' := ?_) #[qT,qT,qT,qT,qT,qT,qT,qT,qT,qT,qT,qT] rfl rfl (by kernel_rfl) (fun _ _ _ h=>h) (Or.inl ⟨by rfl, ?_⟩) ?_ ?_
 rotate_left
 ·intro w'
  go_simp
  with_reducible rfl
 rotate_left
 ·simp only [Act.put,qs1,qs2,qs3,qAR,qAT]
  rfl
 refine qBu (by kernel_rfl) ?_
 go_wp2
 have hcv:=wt.grp_eq SZ6.out GR6.out
 have V9:=V6.out
 rw [hcv] at V9
 refine bodyPost_ret (wt.res23 rfl rfl rfl V9) rfl ?_
 exact ⟨rfl,HB6.out⟩
theorem wt.rtakeB {bs:List Int} {u i:Int→Int × Int × Int} (hU:wt.Uin bs u i) (hRR:wt.Rin bs u i) {w:World} {A:Option Addr} {c:Nat} {at_:Int} (hC:(Kd.int .u8).C w A bs.length bs) (hc:bs.length≤c) (h0:0≤at_) (h1:at_≤(bs.length:Int)) {x:S25} {a2 l2:Int} (hr:wt.valS bs u i 8 at_ 2048=.ok x a2 l2) :
  Calls Try.prog 23 #[.slice A bs.length c,.int .i64 at_] w (wt.RGotT (.ok x a2 l2) w):=by
 have d1:decide (at_ < 0)=false:=decide_eq_false (by omega)
 have d2:decide (at_ > (bs.length:Int))=false:=decide_eq_false (by omega)
 have d3:decide ((bs.length:Int) < at_)=false:=decide_eq_false (by omega)
 have HU:=qAA.mk hU
 have HRR:=qAA.mk hRR
 have HC:=qAA.mk hC
 have HCC:=qAA.mk hc
 have H0:=qAA.mk h0
 have H1:=qAA.mk h1
 have HR:=qAA.mk hr
 have HT:=qAA.mk (show (w.alloc (.cells #[.int .i64 0,.int .i64 0,.string ⟨#[]⟩,.slice none 0 0,.slice none 0 0] 25)).heap[w.heap.size]?=some (.cells #[.int .i64 0,.int .i64 0,.string ⟨#[]⟩,.slice none 0 0,.slice none 0 0] 25 (0,0))∧(w.alloc (.cells #[.int .i64 0,.int .i64 0,.string ⟨#[]⟩,.slice none 0 0,.slice none 0 0] 25)).heap.size=w.heap.size+1∧Below w.heap.size w (w.alloc (.cells #[.int .i64 0,.int .i64 0,.string ⟨#[]⟩,.slice none 0 0,.slice none 0 0] 25)) from ⟨by simpa using heap_alloc_new w _,Deep.nblk_alloc _ _,(Below.refl _ _).alloc (Nat.le_refl _) _⟩)
 clear hU hRR hC hc h0 h1 hr
 go_enter Try.func23,Try.ntmps23
 go_wp2_with (first | ((with_reducible refine qAj (N:=21) rfl ?_);refine qAf ?hg (N:=21) ?hd (cs:=#[.slice A bs.length c,.int .i64 at_,.int .i64 0,.int .i64 0,.int .i64 0]) (t:=62) ?hr ?_;(case hd=>rfl);(case hg=>rfl);(case hr=>first | (go_simp;done) | (go_simp;rfl));intro g hg w2 hbox hb1;have HB2:=qAA.mk (qAh HT.out.2.2 HT.out.2.2.size hb1);have V2:=qAA.mk (qAW HT.out.1 hb1);have G2:=qAA.mk (show wt.RB w2 g A bs.length c at_ 0 0 0 from hbox);have HG:=qAA.mk (hg.trans HT.out.2.1);clear hbox hb1 hg) | (go_at_call 40;refine (wt.rvalue1 HU.out HRR.out (show w.heap.size≤g by have:=HG.out;omega) HCC.out 8 (by omega) 0 rfl w2 at_ 0 HB2.out G2.out (Kd.qAe HC.out HB2.out) H0.out H1.out (by omega) (by omega)).mono ?_;rw [show (2048 - 0:Int)=2048 from rfl,HR.out];rintro e_ w3 ⟨⟨v3,v4,rfl,hr3,hr4⟩,hx⟩;have HV:=qAA.mk (wt.qBz (by obtain ⟨A_,c_,e_⟩:=Kd.qA4 hr3;exact ⟨_,_,_,e_⟩));have HW:=qAA.mk (wt.qBz (by obtain ⟨A_,c_,e_⟩:=Kd.qA4 hr4;exact ⟨_,_,_,e_⟩));have R3_:=qAA.mk hr3;have R4_:=qAA.mk hr4;have V3:=qAA.mk ((hx.fr.2 _ (qAg V2.out) (by have:=HG.out;omega)).trans V2.out);have G3:=qAA.mk hx.blk;have HB3:=qAA.mk hx.bel;clear hx hr3 hr4) | ((with_reducible refine qAY (p:=8) rfl ?_);refine wt.qAk rfl rfl 8 _ rfl w3.heap.size rfl (.int .i64 x.f0) (.int .i64 x.f1) (.string x.f2) v3 v4 rfl (fun q hq=>by simp at hq;rcases hq with rfl | rfl | rfl | rfl | rfl <;> first | rfl | exact HV.out.1 | exact HW.out.1) _ rfl (by simpa using heap_alloc_new w3 _) ?_;intro w4 hres hgr;have HB4:=qAA.mk (wt.qBi hgr);have X4:=qAA.mk hres;have V4:=qAA.mk (qAW V3.out HB4.out);have G4:=qAA.mk (G3.out.below HB4.out);have BL4:=qAA.mk (qAh HB3.out HB3.out.size HB4.out);have HLT:=qAA.mk (qAg V3.out);clear hres hgr;have h3:=G4.out.c3))
 clear h3
 refine qBd (n:=8) (S:=fun w'=>w'.cell? ⟨g,1,none⟩=some (.int .i64 a2)∧w'.cell? ⟨w3.heap.size,0,none⟩=some (.int .i64 x.f0)∧w'.cell? ⟨w3.heap.size,1,none⟩=some (.int .i64 x.f1)∧w'.cell? ⟨w3.heap.size,2,none⟩=some (.string x.f2)∧w'.cell? ⟨w3.heap.size,3,none⟩=some (v3)∧w'.cell? ⟨w3.heap.size,4,none⟩=some (v4)) (ds:=[]) #[qF,qF,qF,qF,qF,qF,qF,qF] (by kernel_rfl) rfl rfl ⟨(G4.out.below (qAc (Below.refl _ _))).c1,(qAB (qAM X4.out) 0).trans rfl,(qAB (qAM X4.out) 1).trans rfl,(qAB (qAM X4.out) 2).trans rfl,(qAB (qAM X4.out) 3).trans rfl,(qAB (qAM X4.out) 4).trans rfl⟩ (fun hHeld => ?_)
 generalize hwd:w4.drew=wd at hHeld ⊢
 have Gd:=qAA.mk (hwd▸G4.out.below (qAc (Below.refl _ _)))
 have Vd:=qAA.mk (hwd▸qAM V4.out)
 have Xd:=qAA.mk (hwd▸qAM X4.out)
 have BLd:=qAA.mk (hwd▸qAc BL4.out)
 have R3d:=qAA.mk (hwd▸Kd.qBC (Kd.qBb R3_.out HB4.out))
 have R4d:=qAA.mk (hwd▸Kd.qBC (Kd.qBb R4_.out HB4.out))
 clear hwd
 refine qAd (i:=1) (N:=some 39) (v := ?_) (a' := ?_) #[qF,qT,qF,qF,qF,qF,qF,qF] rfl rfl (by kernel_rfl) (fun _ _ _ h=>h) (Or.inl ⟨by rfl, ?_⟩) ?_ ?_
 rotate_left
 ·intro w'
  go_simp
  with_reducible rfl
 rotate_left
 ·simp only [Act.put,qs1,qs2,qs3,qAR,qAT]
  rfl
 refine qAd (i:=2) (N:=some 40) (v := ?_) (a' := ?_) #[qF,qT,qT,qF,qF,qF,qF,qF] rfl rfl (by kernel_rfl) (fun _ _ _ h=>h) (Or.inl ⟨by rfl, ?_⟩) ?_ ?_
 rotate_left
 ·intro w'
  go_simp
  with_reducible rfl
 rotate_left
 ·simp only [Act.put,qs1,qs2,qs3,qAR,qAT]
  rfl
 refine qAd (i:=3) (N:=some 41) (v := ?_) (a' := ?_) #[qF,qT,qT,qT,qF,qF,qF,qF] rfl rfl (by kernel_rfl) (fun _ _ _ h=>h) (Or.inl ⟨by rfl, ?_⟩) ?_ ?_
 rotate_left
 ·intro w'
  go_simp
  with_reducible rfl
 rotate_left
 ·simp only [Act.put,qs1,qs2,qs3,qAR,qAT]
  rfl
 refine qBP (i:=0) (N:=some 38) (v := ?_) (a' := ?_) #[qT,qT,qT,qT,qF,qF,qF,qF] rfl rfl (by kernel_rfl) (fun _ _ _ h=>h) (Or.inl ⟨by rfl, ?_⟩) hHeld ?_ ?_
 rotate_left
 ·rintro w' ⟨s0,s1,s2,s3,s4,s5⟩
  go_simp
  with_reducible rfl
 rotate_left
 ·simp only [Act.put,qs1,qs2,qs3,qAR,qAT]
  rfl
 refine qBP (i:=4) (N:=some 42) (v := ?_) (a' := ?_) #[qT,qT,qT,qT,qT,qF,qF,qF] rfl rfl (by kernel_rfl) (fun _ _ _ h=>h) (Or.inl ⟨by rfl, ?_⟩) hHeld ?_ ?_
 rotate_left
 ·rintro w' ⟨s0,s1,s2,s3,s4,s5⟩
  go_simp
  with_reducible rfl
 rotate_left
 ·simp only [Act.put,qs1,qs2,qs3,qAR,qAT]
  rfl
 refine one_ (i:=5) (N:=none) #[qT,qT,qT,qT,qT,qT,qF,qF] rfl rfl (by kernel_rfl) (by decide) (fun K hK => ?_)
 refine wt.st25 25 (by rfl) rfl 4 (.tmp 38) rfl (by kernel_rfl) w.heap.size 0 rfl (.int .i64 x.f0) (.int .i64 x.f1) (.string x.f2) v3 v4 rfl ?hone _ 25 (Nat.le_refl _) Vd.out ?_
 (case hone=>intro q hq;simp at hq;rcases hq with rfl | rfl | rfl | rfl | rfl <;> first | rfl | exact HV.out.1 | exact HW.out.1)
 intro w6 cv' q1 q2 q3 q4 q5
 have V6:=qAA.mk q1
 have SZ6:=qAA.mk q2
 have GR6:=qAA.mk q3
 have G6:=qAA.mk (show wt.RB w6 g A bs.length c _ _ _ _ from (q5.block _ (qAg Gd.out) (fun e_=>by have:=Option.some.inj e_;have:=HG.out;omega)).trans Gd.out)
 have X6:=qAA.mk ((q5.block _ (qAg Xd.out) (fun e_=>by have:=Option.some.inj e_;have:=HLT.out;omega)).trans Xd.out)
 have HB6:=qAA.mk (show Below w.heap.size w w6 from ⟨q5.os.trans BLd.out.os,q5.tape.trans BLd.out.tape,q5.output.trans BLd.out.output,Nat.le_trans BLd.out.size q5.size,fun k hk=>(q5.block k (Nat.lt_of_lt_of_le hk BLd.out.size) (fun e_=>by have:=Option.some.inj e_;omega)).trans (BLd.out.block k hk)⟩)
 have R36:=qAA.mk (Kd.qA9 (Kd.qB5 R3d.out q5 (fun k hk e=>by have:=Option.some.inj e;have:=HB2.out.size;have:=qAg G2.out;have:=HG.out;omega)) (fun _ _=>trivial):k25.R 25 w6 w.heap.size (fun _=>True) v3 x.f3)
 have R46:=qAA.mk (Kd.qA9 (Kd.qB5 R4d.out q5 (fun k hk e=>by have:=Option.some.inj e;have:=HB2.out.size;have:=qAg G2.out;have:=HG.out;omega)) (fun _ _=>trivial):Kd.string.R 9 w6 w.heap.size (fun _=>True) v4 x.f4)
 clear q1 q2 q3 q4 q5
 refine hK.out _ _ ⟨G6.out.c1,(qAB X6.out 0).trans rfl,(qAB X6.out 1).trans rfl,(qAB X6.out 2).trans rfl,(qAB X6.out 3).trans rfl,(qAB X6.out 4).trans rfl⟩ (fun hHeld => ?_)
 clear hK K
 refine qAd (i:=6) (N:=some 5) (v := ?_) (a' := ?_) #[qT,qT,qT,qT,qT,qT,qT,qF] rfl rfl (by kernel_rfl) (fun _ _ _ h=>h) (Or.inl ⟨by rfl, ?_⟩) ?_ ?_
 rotate_left
 ·intro w'
  go_simp
  with_reducible rfl
 rotate_left
 ·simp only [Act.put,qs1,qs2,qs3,qAR,qAT]
  rfl
 refine qAd (i:=7) (N:=some 6) (v := ?_) (a' := ?_) #[qT,qT,qT,qT,qT,qT,qT,qT] rfl rfl (by kernel_rfl) (fun _ _ _ h=>h) (Or.inl ⟨by rfl, ?_⟩) ?_ ?_
 rotate_left
 ·intro w'
  go_simp
  with_reducible rfl
 rotate_left
 ·simp only [Act.put,qs1,qs2,qs3,qAR,qAT]
  rfl
 refine qBu (by kernel_rfl) ?_
 go_wp2
 have hcv:=wt.grp_eq SZ6.out GR6.out
 have V9:=V6.out
 rw [hcv] at V9
 refine bodyPost_ret (wt.res23 rfl rfl rfl V9) rfl ?_
 exact ⟨_,_,rfl,R36.out,R46.out,HB6.out⟩
theorem wt.rtake1 {bs:List Int} {u i:Int→Int × Int × Int} (hU:wt.Uin bs u i) (hR:wt.Rin bs u i) {w:World} {A:Option Addr} {c:Nat} (at_:Int) (hC:(Kd.int .u8).C w A bs.length bs) (hc:bs.length≤c):Calls Try.prog 23 #[.slice A bs.length c,.int .i64 at_] w (wt.RGotT (wt.takeS bs u i at_) w):=by
 unfold wt.takeS
 by_cases h:at_ < 0 ∨ at_ > (bs.length:Int)
 ·rw [if_pos h];exact wt.rtakeA h
 ·rw [if_neg h]
  have h0:0≤at_:=by
   have:¬ at_ < 0:=fun e=>h (Or.inl e)
   omega
  have h1:at_≤(bs.length:Int):=by
   have:¬ at_ > (bs.length:Int):=fun e=>h (Or.inr e)
   omega
  rcases hr:wt.valS bs u i 8 at_ 2048 with ⟨x,a2,l2⟩ | ⟨ee,pp⟩
  ·exact wt.rtakeB hU hR hC hc h0 h1 hr
  ·exact wt.rtakeC hU hR hC hc h0 h1 hr
end
end Go.Proofs.Ytnkbobblnhaclaa.X
namespace Go.Proofs.Ytnkbobblnhaclaa.X
open Go.RowKit Go.Proofs.YtnkbobblnhaclaaW.PrintWords Go.Proofs.YtnkbobblnhaclaaW.PrintLast Go.Proofs.YtnkbobblnhaclaaW.PrintMore Go.Proofs.YtnkbobblnhaclaaW
section
set_option maxHeartbeats 4000000
set_option maxRecDepth 100000
def wt.szL (B:Nat):Nat→List S25→Prop
 | 0,_=>False
 | d+1,xs=>xs.length≤B∧∀ x ∈ xs,wt.szL B d x.f3∧x.f4.length≤5 * B+2
theorem wt.szL.deep {B:Nat}:∀ (d:Nat) {xs:List S25},wt.szL B d xs→wt.deepL d xs
 | 0,xs,h=>h
 | d+1,xs,h=>fun x hx=>wt.szL.deep d (h.2 x hx).1
def wt.Gm (t:Nat) (mark:ByteArray) (cs cs':Array Value):Prop:=(t=25→∀ i:Nat,(∀ j,j < 5→cs'[i * 5+j]?=cs[i * 5+j]?) ∨ wt.grp cs' (i * 5) (.int .i64 3) (.int .i64 0) (.string mark) (.slice none 0 0) (.slice none 0 0))∧(t=9→∀ i:Nat,cs'[i]?=cs[i]? ∨ cs'[i]?=some (.string mark))
theorem wt.Gm.refl (t:Nat) (mark:ByteArray) (cs:Array Value):wt.Gm t mark cs cs:=⟨fun _ i=>Or.inl fun _ _=>rfl,fun _ i=>Or.inl rfl⟩
theorem wt.Gm.trans {t:Nat} {mark:ByteArray} {c1 c2 c3:Array Value} (h:wt.Gm t mark c1 c2) (k:wt.Gm t mark c2 c3):wt.Gm t mark c1 c3:=by
 refine ⟨fun ht i => ?_,fun ht i => ?_⟩
 ·rcases k.1 ht i with e | e
  ·rcases h.1 ht i with f | ⟨f0,f1,f2,f3,f4⟩
   ·exact Or.inl fun j hj=>(e j hj).trans (f j hj)
   ·exact Or.inr ⟨(e 0 (by omega)).trans f0,(e 1 (by omega)).trans f1,(e 2 (by omega)).trans f2,(e 3 (by omega)).trans f3,(e 4 (by omega)).trans f4⟩
  ·exact Or.inr e
 ·rcases k.2 ht i with e | e
  ·rcases h.2 ht i with f | f
   ·exact Or.inl (e.trans f)
   ·exact Or.inr (e.trans f)
  ·exact Or.inr e
structure wt.SimW (Y:Nat→Prop) (mark:ByteArray) (w w1:World):Prop where
 os:w1.os=w.os
 tape:w1.tape=w.tape
 output:w1.output=w.output
 size:w.heap.size≤w1.heap.size
 out:∀ k,k < w.heap.size→¬ Y k→w1.heap[k]?=w.heap[k]?
 ins:∀ k,Y k→∀ (cs:Array Value) (t:Nat),w.heap[k]?=some (.cells cs t (0,0))→∃ cs':Array Value,w1.heap[k]?=some (.cells cs' t (0,0))∧cs'.size=cs.size∧wt.Gm t mark cs cs'
section
variable {Y:Nat→Prop} {mark:ByteArray} {w w1 w2:World}
theorem wt.SimW.of_below (h:Below w.heap.size w w1):wt.SimW Y mark w w1:=⟨h.os,h.tape,h.output,h.size,fun k hk _=>h.block k hk,fun k _ cs t hc=>⟨cs,qAW hc h,rfl,wt.Gm.refl _ _ _⟩⟩
theorem wt.SimW.refl (Y:Nat→Prop) (mark:ByteArray) (w:World):wt.SimW Y mark w w:=wt.SimW.of_below (Below.refl _ _)
theorem wt.SimW.trans (h:wt.SimW Y mark w w1) (k:wt.SimW Y mark w1 w2):wt.SimW Y mark w w2:=by
 refine ⟨k.os.trans h.os,k.tape.trans h.tape,k.output.trans h.output,Nat.le_trans h.size k.size,fun i hi hy=>(k.out i (Nat.lt_of_lt_of_le hi h.size) hy).trans (h.out i hi hy),fun i hy cs t hc => ?_⟩
 obtain ⟨c1,e1,e2,e3⟩:=h.ins i hy cs t hc
 obtain ⟨c2,f1,f2,f3⟩:=k.ins i hy c1 t e1
 exact ⟨c2,f1,f2.trans e2,e3.trans f3⟩
theorem wt.SimW.blocks (h:wt.SimW Y mark w w1) (hs:w1.heap.size≤w2.heap.size) (ho:w2.os=w1.os) (ht:w2.tape=w1.tape) (hp:w2.output=w1.output) (hb:∀ i,i < w.heap.size→w2.heap[i]?=w1.heap[i]?):wt.SimW Y mark w w2 :=
 ⟨ho.trans h.os,ht.trans h.tape,hp.trans h.output,Nat.le_trans h.size hs,fun i hi hy=>(hb i hi).trans (h.out i hi hy),fun i hy cs t hc=>by
  obtain ⟨c1,e1,e2,e3⟩:=h.ins i hy cs t hc
  exact ⟨c1,(hb i (qAg hc)).trans e1,e2,e3⟩⟩
theorem wt.SimW.grown (h:wt.SimW Y mark w w1) {row:Option Nat} (hg:w1.grownBy w2 row) (hr:∀ k,row=some k→w.heap.size≤k):wt.SimW Y mark w w2 :=
 h.blocks hg.size hg.os hg.tape hg.output (fun i hi=>hg.block i (Nat.lt_of_lt_of_le hi h.size) (fun e=>by have:=hr i e.symm;omega))
end
def wt.Row (w:World) (t size:Nat) (Z:Nat→Prop) (v:Value) (n:Nat):Prop :=
 (v=.slice none 0 0∧n=0) ∨ ∃ b c cs,v=.slice (some ⟨b,0,none⟩) n c∧Z b∧w.heap[b]?=some (.cells cs t (0,0))∧n≤c∧c * size≤cs.size
theorem wt.VRow.row {w:World} {Y Z:Nat→Prop} (hZ:∀ k,Y k→Z k):∀ {d:Nat} {v:Value} {xs:List S25},wt.VRow w Y d v xs→wt.Row w 25 5 Z v xs.length
 | 0,v,xs,h=>h.elim
 | d+1,v,xs,h=>by
  rcases h with ⟨rfl,rfl⟩ | ⟨b,c,cs,rfl,hy,hh,hl,hsz,hmx,hc⟩
  ·exact Or.inl ⟨rfl,rfl⟩
  ·exact Or.inr ⟨b,c,cs,rfl,hZ b hy,hh,hl,hsz⟩
theorem wt.KRow.row {w:World} {Y Z:Nat→Prop} (hZ:∀ k,Y k→Z k) {v:Value} {ks:List ByteArray} (h:wt.KRow w Y v ks):wt.Row w 9 1 Z v ks.length:=by
 rcases h with ⟨rfl,rfl⟩ | ⟨b,c,cs,rfl,hy,hh,hl,hsz,hmx,hc⟩
 ·exact Or.inl ⟨rfl,rfl⟩
 ·exact Or.inr ⟨b,c,cs,rfl,hZ b hy,hh,hl,by omega⟩
section
variable {P:Program} {ops:Array Oper} {rest:List Oper} {Q:Exit→Act→World→Prop}
end
end
end Go.Proofs.Ytnkbobblnhaclaa.X
namespace Go.Proofs.Ytnkbobblnhaclaa.X
open Go.RowKit Go.Proofs.YtnkbobblnhaclaaW.PrintWords Go.Proofs.YtnkbobblnhaclaaW.PrintLast Go.Proofs.YtnkbobblnhaclaaW.PrintMore Go.Proofs.YtnkbobblnhaclaaW
section
set_option maxHeartbeats 4000000
set_option maxRecDepth 100000
section
variable {Y:Nat→Prop} {mark:ByteArray} {w W W1:World} {b n:Nat} {cs cs':Array Value} {O:Obj}
theorem wt.Row.keep {t t' size:Nat} {Z:Nat→Prop} {v:Value} (h:wt.Row W t size Z v n) (hg:(W.alloc O).grownBy W1 (some b)) (hb:W.heap[b]?=some (.cells cs t' (0,0))) (ht:t ≠ t'):wt.Row W1 t size Z v n:=by
 rcases h with ⟨rfl,rfl⟩ | ⟨b',c,cs',rfl,hZ,hh,hle,hcs⟩
 ·exact Or.inl ⟨rfl,rfl⟩
 ·refine Or.inr ⟨b',c,cs',rfl,hZ,(hg.block b' (by rw [Deep.nblk_alloc];have:=qAg hh;omega) (fun e => ?_)).trans (qAK hh O),hle,hcs⟩
  have e2:=Option.some.inj e
  subst e2
  rw [hb] at hh
  injection hh with hh
  injection hh with _ hh
  exact ht hh.symm
end
section
variable {ops:Array Oper} {rest:List Oper} {Q:Exit→Act→World→Prop} {Y:Nat→Prop} {mark:ByteArray} {w W:World} {o:Oper} {a:Act} {v v2:Value} {n m:Nat}
end
theorem wt.KRow.elem {w:World} {Y:Nat→Prop} {n c:Nat} {A:Option Addr} {ks:List ByteArray} (h:wt.KRow w Y (.slice A n c) ks) {j:Nat} (hj:j < n) (hn:ks.length=n):∃ b cs k,A=some ⟨b,0,none⟩∧Y b∧w.heap[b]?=some (.cells cs 9 (0,0))∧cs[j]?=some (.string k):=by
 rcases h with ⟨_,rfl⟩ | ⟨b,c',cs,e,hy,hh,hl,hsz,hm,hc⟩
 ·simp at hn;omega
 ·injection e with e1 e2 e3
  exact ⟨b,cs,_,e1,hy,hh,hc j _ (List.getElem?_eq_getElem (by omega))⟩
end
end Go.Proofs.Ytnkbobblnhaclaa.X
namespace Go.Proofs.Ytnkbobblnhaclaa.X
open Go.RowKit Go.Proofs.YtnkbobblnhaclaaW.PrintWords Go.Proofs.YtnkbobblnhaclaaW.PrintLast Go.Proofs.YtnkbobblnhaclaaW.PrintMore Go.Proofs.YtnkbobblnhaclaaW
section
set_option maxHeartbeats 4000000
set_option maxRecDepth 100000
end
end Go.Proofs.Ytnkbobblnhaclaa.X
namespace Go.Proofs.Ytnkbobblnhaclaa.X
open Go.RowKit Go.Proofs.YtnkbobblnhaclaaW.PrintWords Go.Proofs.YtnkbobblnhaclaaW.PrintLast Go.Proofs.YtnkbobblnhaclaaW.PrintMore Go.Proofs.YtnkbobblnhaclaaW
section
set_option maxRecDepth 100000
open Go.Proofs.Ytnkbobblnhaclaa
theorem wt.uin_of {bs:List Int} (hb:Pl.Bytes bs) (hl:bs.length≤140737488351232):wt.Uin bs (Pl.qBc bs) (Pl.intAt bs) where
 U:=⟨24,fun a=>Pl.Uint_eq 24 (Nat.le_refl _) bs hb (by omega) a⟩
 I:=⟨24,fun a=>Pl.Int_eq 24 (Nat.le_refl _) bs hb (by omega) a⟩
 R:=fun a=>Pl.qB8 bs hb a
 N:=fun a h=>by have:=Pl.uintAt_ok bs hb a h;omega
 M:=fun a h=>by have:=Pl.uintAt_ok bs hb a h;show 0≤a∧a < (Pl.qBc bs a).2.1∧(Pl.qBc bs a).2.1≤bs.length;omega
 V:=fun a=>Pl.unzz_range _ (Pl.qB8 bs hb a).1 (Pl.qB8 bs hb a).2
 L:=hl
 B:=hb
theorem wt.rin_of {bs:List Int} (hb:Pl.Bytes bs) (hl:bs.length≤140737488351232):wt.Rin bs (Pl.qBc bs) (Pl.intAt bs) where
 U:=⟨24,fun a=>Pl.rUint_eq 24 (Nat.le_refl _) bs hb (by omega) a⟩
 I:=⟨24,fun a=>Pl.rInt_eq 24 (Nat.le_refl _) bs hb (by omega) a⟩
def wt.sm:Nat→S25→Prop
 | 0,_=>False
 | d+1,x=>(0≤x.f0∧x.f0≤5)∧(-9223372036854775808≤x.f1∧x.f1≤9223372036854775807)∧x.f2.size≤2048∧x.f3.length≤2048∧x.f4.length≤2048∧(∀ s ∈ x.f4,s.size≤2048)∧∀ y ∈ x.f3,wt.sm d y
theorem wt.sm.szL:∀ (d:Nat) {x:S25},wt.sm d x→wt.szL 2048 d x.f3
 | 0,x,h=>h
 | d+1,x,h=>⟨h.2.2.2.1,fun y hy=>by
  have hs:=h.2.2.2.2.2.2 y hy
  refine ⟨wt.sm.szL d hs, ?_⟩
  cases d with
  | zero=>exact hs.elim
  | succ d=>exact Nat.le_trans hs.2.2.2.2.1 (by decide)⟩
theorem wt.sm.val:∀ (d:Nat) {x:S25},wt.sm d x→Val x∧Siz x
 | 0,x,h=>h.elim
 | d+1,x,h=>by
  obtain ⟨h0,h1,h2,h3,h4,k4,k3⟩:=h
  exact ⟨.mk x (by omega) (by omega) h1.1 h1.2 (by omega) (by omega) (by omega) (fun s hs=>by have:=k4 s hs;omega) (fun y hy=>(wt.sm.val d (k3 y hy)).1),.mk x (by omega) (by omega) (by omega) (fun s hs=>by have:=k4 s hs;omega) (fun y hy=>(wt.sm.val d (k3 y hy)).2)⟩
theorem wt.arrL_sm {n:Nat} {p:S25→Prop} {f:Int→Int→wt.R3 S25} (hf:∀ (a l:Int) (x:S25) (a2 l2:Int),wt.Bd n a l→f a l=.ok x a2 l2→p x∧wt.Bd n a2 l2):∀ (k:Nat) (acc:List S25) (a l:Int) (vs:List S25) (a2 l2:Int),wt.Bd n a l→(∀ y ∈ acc,p y)→wt.arrL f k acc a l=.ok vs a2 l2→(∀ y ∈ vs,p y)∧vs.length=acc.length+k
 | 0,acc,a,l,vs,a2,l2,hb,hp,h=>by
  unfold wt.arrL at h
  injection h with e1 _ _
  subst e1;exact ⟨hp,rfl⟩
 | k+1,acc,a,l,vs,a2,l2,hb,hp,h=>by
  unfold wt.arrL at h
  rcases hfa:f a l with ⟨x,a1,l1⟩ | ⟨e,q⟩
  ·rw [hfa] at h
   have hx:=hf a l x a1 l1 hb hfa
   have:=wt.arrL_sm hf k (acc ++ [x]) a1 l1 vs a2 l2 hx.2 (fun y hy=>by
    rcases List.mem_append.1 hy with hy | hy
    ·exact hp y hy
    ·rw [List.mem_singleton.1 hy];exact hx.1) h
   refine ⟨this.1, ?_⟩
   rw [this.2,List.length_append,List.length_singleton]
   omega
  ·rw [hfa] at h;cases h
theorem wt.keyS_sm {bs:List Int} {u i:Int→Int × Int × Int} (hU:wt.Uin bs u i) {ks:List ByteArray} {a l a2 l2:Int} {k:ByteArray} (h:wt.keyS bs u ks a l=.ok k a2 l2):k.size≤2048:=by
 unfold wt.keyS at h
 by_cases h1:(u a).2.2 ≠ 0
 ·rw [if_pos h1] at h;cases h
 rw [if_neg h1] at h
 by_cases h2:(u a).1 > 32
 ·rw [if_pos h2] at h;cases h
 rw [if_neg h2] at h
 by_cases h3:(u a).1 > (bs.length:Int) - (u a).2.1
 ·rw [if_pos h3] at h;cases h
 rw [if_neg h3] at h
 dsimp only at h
 split at h
 ·cases h
 split at h
 ·cases h
 ·injection h with e1 e2 e3
  subst e1
  rw [wt.str_size,List.length_take]
  have:=(hU.R a).1
  omega
theorem wt.recL_sm {bs:List Int} {u i:Int→Int × Int × Int} (hU:wt.Uin bs u i) {p:S25→Prop} {f:Int→Int→wt.R3 S25} (hf:∀ (a l:Int) (x:S25) (a2 l2:Int),wt.Bd bs.length a l→f a l=.ok x a2 l2→p x∧wt.Bd bs.length a2 l2):∀ (k:Nat) (ks:List ByteArray) (acc:List S25) (a l:Int) (vs:List ByteArray × List S25) (a2 l2:Int),wt.Bd bs.length a l→(∀ y ∈ acc,p y)→(∀ s ∈ ks,s.size≤2048)→wt.recL bs u f k ks acc a l=.ok vs a2 l2→(∀ y ∈ vs.2,p y)∧vs.2.length=acc.length+k∧(∀ s ∈ vs.1,s.size≤2048)∧vs.1.length=ks.length+k
 | 0,ks,acc,a,l,vs,a2,l2,hb,hp,hk,h=>by
  unfold wt.recL at h
  injection h with e1 _ _
  subst e1;exact ⟨hp,rfl,hk,rfl⟩
 | k+1,ks,acc,a,l,vs,a2,l2,hb,hp,hk,h=>by
  unfold wt.recL at h
  rcases hka:wt.keyS bs u ks a l with ⟨kk,a1,l1⟩ | ⟨e,q⟩
  ·rw [hka] at h
   have hb1:wt.Bd bs.length a1 l1:=wt.keyS_b hU ⟨hb.2.2.1,hb.2.2.2⟩ hka
   have hks:=wt.keyS_sm hU hka
   dsimp only at h
   rcases hfa:f a1 l1 with ⟨x,a3,l3⟩ | ⟨e,q⟩
   ·rw [hfa] at h
    have hx:=hf a1 l1 x a3 l3 hb1 hfa
    have:=wt.recL_sm hU hf k (ks ++ [kk]) (acc ++ [x]) a3 l3 vs a2 l2 hx.2 (fun y hy=>by
     rcases List.mem_append.1 hy with hy | hy
     ·exact hp y hy
     ·rw [List.mem_singleton.1 hy];exact hx.1) (fun s hs=>by
     rcases List.mem_append.1 hs with hs | hs
     ·exact hk s hs
     ·rw [List.mem_singleton.1 hs];exact hks) h
    refine ⟨this.1, ?_,this.2.2.1, ?_⟩
    ·rw [this.2.1,List.length_append,List.length_singleton];omega
    ·rw [this.2.2.2,List.length_append,List.length_singleton];omega
   ·rw [hfa] at h;cases h
  ·rw [hka] at h;cases h
theorem wt.sm.mk {d:Nat} {f0 f1:Int} {f2:ByteArray} {f3:List S25} {f4:List ByteArray} (h0:0≤f0∧f0≤5) (h1 : -9223372036854775808≤f1∧f1≤9223372036854775807) (h2:f2.size≤2048) (h3:f3.length≤2048) (h4:f4.length≤2048) (k4:∀ s ∈ f4,s.size≤2048) (k3:∀ y ∈ f3,wt.sm d y):wt.sm (d+1) ⟨f0,f1,f2,f3,f4⟩:=⟨h0,h1,h2,h3,h4,k4,k3⟩
theorem wt.valS_sm {bs:List Int} {u i:Int→Int × Int × Int} (hU:wt.Uin bs u i):∀ (d:Nat) (a l:Int) (x:S25) (a2 l2:Int),wt.Bd bs.length a l→wt.valS bs u i d a l=.ok x a2 l2→wt.sm d x
 | 0,a,l,x,a2,l2,hb,h=>by
  rw [wt.valS] at h
  split at h <;> cases h
 | d+1,a,l,x,a2,l2,hb,h=>by
  rw [wt.valS_s] at h
  have hbb:=hb
  obtain ⟨b1,b2,b3,b4⟩:=hb
  have leaf:∀ {f0 f1:Int} {f2:ByteArray} {b m:Int},(0≤f0∧f0≤5)→(-9223372036854775808≤f1∧f1≤9223372036854775807)→f2.size≤2048→wt.R3.ok (⟨f0,f1,f2,[],[]⟩:S25) b m=.ok x a2 l2→wt.sm (d+1) x:=fun q0 q1 q2 h=>by
   injection h with e1 _ _
   subst e1
   exact wt.sm.mk q0 q1 q2 (Nat.zero_le _) (Nat.zero_le _) (fun s hs=>by cases hs) (fun y hy=>by cases hy)
  have nb:∀ {e q:Int},wt.R3.bad e q=.ok x a2 l2→wt.sm (d+1) x:=fun h=>by cases h
  have hz:(⟨#[]⟩:ByteArray).size≤2048:=by decide
  have ih:∀ (a l:Int) (x:S25) (a2 l2:Int),wt.Bd bs.length a l→wt.valS bs u i d a l=.ok x a2 l2→wt.sm d x∧wt.Bd bs.length a2 l2:=fun a l x a2 l2 q h=>⟨wt.valS_sm hU d a l x a2 l2 q h,wt.valS_b hU d a l x a2 l2 q h⟩
  by_cases h0:a=(bs.length:Int) ∨ rd bs a > 6
  ·rw [if_pos h0] at h;exact nb h
  rw [if_neg h0] at h
  by_cases h1:1 > l
  ·rw [if_pos h1] at h;exact nb h
  rw [if_neg h1] at h
  by_cases k1:rd bs a=1
  ·rw [if_pos k1] at h;exact leaf (by omega) (by omega) hz h
  rw [if_neg k1] at h
  by_cases k2:rd bs a=2
  ·rw [if_pos k2] at h;exact leaf (by omega) (by omega) hz h
  rw [if_neg k2] at h
  by_cases k3:rd bs a=3
  ·rw [if_pos k3] at h
   by_cases e1:(i (a+1)).2.2 ≠ 0
   ·rw [if_pos e1] at h;exact nb h
   ·rw [if_neg e1] at h;exact leaf (by omega) (hU.V _) hz h
  rw [if_neg k3] at h
  by_cases k4:rd bs a=4
  ·rw [if_pos k4] at h
   by_cases e1:(u (a+1)).2.2 ≠ 0
   ·rw [if_pos e1] at h;exact nb h
   rw [if_neg e1] at h
   by_cases e2:(l - 1) / 1 < (u (a+1)).1
   ·rw [if_pos e2] at h;exact nb h
   rw [if_neg e2] at h
   rw [Int.ediv_one] at e2
   by_cases e3:(bs.length:Int) - (u (a+1)).2.1 < (u (a+1)).1
   ·rw [if_pos e3] at h;exact nb h
   ·rw [if_neg e3] at h
    refine leaf (by omega) (by omega) ?_ h
    rw [wt.str_size,List.length_take]
    have:=(hU.R (a+1)).1
    omega
  rw [if_neg k4] at h
  by_cases k5:rd bs a=5
  ·rw [if_pos k5] at h
   by_cases e1:(u (a+1)).2.2 ≠ 0
   ·rw [if_pos e1] at h;exact nb h
   rw [if_neg e1] at h
   by_cases e2:(l - 1) / 1 < (u (a+1)).1
   ·rw [if_pos e2] at h;exact nb h
   rw [if_neg e2] at h
   rw [Int.ediv_one] at e2
   have hN:=hU.N (a+1) (Classical.byContradiction e1)
   rcases hL:wt.arrL (wt.valS bs u i d) (u (a+1)).1.toNat [] (u (a+1)).2.1 (l - 1) with ⟨vs,a3,l3⟩ | ⟨e,p⟩
   ·rw [hL] at h
    have hp:=wt.arrL_sm (p:=wt.sm d) ih _ _ _ _ _ _ _ ⟨by omega,by omega,by omega,by omega⟩ (fun y hy=>by cases hy) hL
    injection h with e1 _ _
    subst e1
    have hlen:vs.length≤2048:=by rw [hp.2];simp;omega
    exact wt.sm.mk (by decide) (by decide) hz hlen (Nat.zero_le _) (fun s hs=>by cases hs) hp.1
   ·rw [hL] at h;exact nb h
  rw [if_neg k5] at h
  by_cases k6:rd bs a=6
  ·rw [if_pos k6] at h
   by_cases e1:(u (a+1)).2.2 ≠ 0
   ·rw [if_pos e1] at h;exact nb h
   rw [if_neg e1] at h
   by_cases e2:(l - 1) / 2 < (u (a+1)).1
   ·rw [if_pos e2] at h;exact nb h
   rw [if_neg e2] at h
   have hN:=hU.N (a+1) (Classical.byContradiction e1)
   have hle:(l - 1) / 2≤l - 1:=Int.ediv_le_self _ (by omega)
   rcases hL:wt.recL bs u (wt.valS bs u i d) (u (a+1)).1.toNat [] [] (u (a+1)).2.1 (l - 1) with ⟨⟨ks,vs⟩,a3,l3⟩ | ⟨e,p⟩
   ·rw [hL] at h
    have hp:=wt.recL_sm hU (p:=wt.sm d) ih _ _ _ _ _ _ _ _ ⟨by omega,by omega,by omega,by omega⟩ (fun y hy=>by cases hy) (fun s hs=>by cases hs) hL
    injection h with e1 _ _
    subst e1
    have hlen:vs.length≤2048:=by have:=hp.2.1;simp at this;omega
    have hlen4:ks.length≤2048:=by have:=hp.2.2.2;simp at this;omega
    exact wt.sm.mk (by decide) (by decide) hz hlen hlen4 hp.2.2.1 hp.1
   ·rw [hL] at h;exact nb h
  rw [if_neg k6] at h
  exact leaf (by omega) (by omega) hz h
theorem wt.same_ok {d:Nat} {x:S25} (h:wt.sm d x):∃ K,qBQ.f K x.f0 x.f1 x.f2 x.f3 x.f4 x.f0 x.f1 x.f2 x.f3 x.f4=some true:=by
 obtain ⟨hv,hs⟩:=wt.sm.val d h
 obtain ⟨t,⟨K1,h1⟩,_⟩:=few_ev x hv hs
 obtain ⟨b,⟨K2,h2⟩,hb⟩:=alike_ev x hv hs x hv
 have hb1:b=true:=hb.2 rfl
 subst hb1
 refine ⟨max K1 K2, ?_⟩
 unfold qBQ.f
 have e1:=h1 (max K1 K2) (Nat.le_max_left _ _)
 have e2:=h2 (max K1 K2) (Nat.le_max_right _ _)
 dsimp only at e1 e2
 rw [e1,Option.bind_some]
 cases t with
 | true=>rw [if_pos rfl,e2];rfl
 | false=>rw [if_neg (by decide)]
end
end Go.Proofs.Ytnkbobblnhaclaa.X
namespace Go.Proofs.Ytnkbobblnhaclaa.X
open Go.RowKit Go.Proofs.YtnkbobblnhaclaaW.PrintWords Go.Proofs.YtnkbobblnhaclaaW.PrintLast Go.Proofs.YtnkbobblnhaclaaW.PrintMore Go.Proofs.YtnkbobblnhaclaaW
section
set_option maxHeartbeats 4000000
set_option maxRecDepth 100000
def wt.pad (i:Nat):Int:=((100+i % 50:Nat):Int)
structure wt.LentL (bs xs:List Int):Prop where
 len:xs.length=bs.length+40
 lo:∀ q,q < bs.length→xs[q]?=bs[q]?
 hi:∀ q,bs.length≤q→q < bs.length+40→xs[q]?=some (wt.pad q)
theorem wt.LentL.take {bs xs:List Int} (h:wt.LentL bs xs):xs.take bs.length=bs:=by
 apply List.ext_getElem?
 intro i
 rw [List.getElem?_take]
 split
 next hi=>exact h.lo i hi
 next hi=>exact (List.getElem?_eq_none (by omega)).symm
end
end Go.Proofs.Ytnkbobblnhaclaa.X
namespace Go.Proofs.Ytnkbobblnhaclaa.X
open Go.RowKit Go.Proofs.YtnkbobblnhaclaaW.PrintWords Go.Proofs.YtnkbobblnhaclaaW.PrintLast Go.Proofs.YtnkbobblnhaclaaW.PrintMore Go.Proofs.YtnkbobblnhaclaaW
section
set_option maxHeartbeats 4000000
set_option maxRecDepth 100000
open Go.Proofs.Ytnkbobblnhaclaa
open Go.ChangeShapes Go.WideShapes Go.ChangeAt in
theorem el_int {H:Type} {enc:TypeId × Value→H} {P:Program} {w:World} {held:Bool} {spare:Nat→Bool} {k:IntKind} {e:TypeId} (he:P.underlying e=some (.int k)):∀ n cs (y:DataW H × List MemPlace),DataW.trod enc P w 0 spare held n e cs=some y→∃ x,(Kd.int k).K w x cs∧(Lit.int k x).wf=true:=fun n cs y hy=>by
 obtain ⟨x,q,_,z⟩:=DataW.trod_int he hy
 exact ⟨x,q,z⟩
theorem wt.VRow.CC {w:World} {Y:Nat→Prop} {d n c:Nat} {A:Option Addr} {xs:List S25} (h:wt.VRow w Y d (.slice A n c) xs):n=xs.length∧xs.length≤c∧k25.C w A xs.length xs:=by
 obtain ⟨A',c',e,h1,h2⟩:=wt.VRow.C d h
 injection e with e1 e2 e3
 subst e1;subst e2;subst e3
 exact ⟨rfl,h1,h2⟩
theorem wt.KRow.CC {w:World} {Y:Nat→Prop} {n c:Nat} {A:Option Addr} {xs:List ByteArray} (h:wt.KRow w Y (.slice A n c) xs):n=xs.length∧xs.length≤c∧Kd.string.C w A xs.length xs:=by
 obtain ⟨A',c',e,h1,h2⟩:=h.C
 injection e with e1 e2 e3
 subst e1;subst e2;subst e3
 exact ⟨rfl,h1,h2⟩
def wt.vl (x:S25) (A3:Option Addr) (c3:Nat) (A4:Option Addr) (c4:Nat):Value:=.agg #[.int .i64 x.f0,.int .i64 x.f1,.string x.f2,.slice A3 x.f3.length c3,.slice A4 x.f4.length c4]
structure wt.Tr (W:World) (lo hi:Nat) (x:S25) (A3:Option Addr) (c3:Nat) (A4:Option Addr) (c4:Nat):Prop where
 v:wt.VRow W (fun k=>lo≤k∧k < hi) 8 (.slice A3 x.f3.length c3) x.f3
 k:wt.KRow W (fun k=>lo≤k∧k < hi) (.slice A4 x.f4.length c4) x.f4
section
variable {W W1:World} {lo hi:Nat} {x:S25} {A3:Option Addr} {c3:Nat} {A4:Option Addr} {c4:Nat}
theorem wt.Tr.move (h:wt.Tr W lo hi x A3 c3 A4 c4) (hm:∀ k,lo≤k→k < hi→W1.heap[k]?=W.heap[k]?):wt.Tr W1 lo hi x A3 c3 A4 c4 :=
 ⟨wt.VRow.move (fun _ q=>q) (fun k hk _=>hm k hk.1 hk.2) 8 h.v,h.k.move (fun _ q=>q) (fun k hk _=>hm k hk.1 hk.2)⟩
theorem wt.Tr.below (h:wt.Tr W lo hi x A3 c3 A4 c4) (hb:Below W.heap.size W W1) (hh:hi≤W.heap.size):wt.Tr W1 lo hi x A3 c3 A4 c4:=h.move (fun k _ hk=>hb.block k (Nat.lt_of_lt_of_le hk hh))
end
theorem wt.same13 {W:World} {l1 h1 l2 h2:Nat} {x:S25} {A3:Option Addr} {c3:Nat} {A4:Option Addr} {c4:Nat} {B3:Option Addr} {d3:Nat} {B4:Option Addr} {d4:Nat} {d:Nat} (hs:wt.sm d x) (p:wt.Tr W l1 h1 x A3 c3 A4 c4) (q:wt.Tr W l2 h2 x B3 d3 B4 d4) :
  Calls Try.prog 13 #[wt.vl x A3 c3 A4 c4,wt.vl x B3 d3 B4 d4] W fun e w'=>e=.returned (.bool true)∧Below W.heap.size W w':=by
 obtain ⟨K,hK⟩:=wt.same_ok hs
 exact qBQ.calls K x.f0 x.f1 x.f2 A3 c3 x.f3 A4 c4 x.f4 x.f0 x.f1 x.f2 B3 d3 x.f3 B4 d4 x.f4 true W p.v.CC.2.2 p.v.CC.2.1 p.k.CC.2.2 p.k.CC.2.1 q.v.CC.2.2 q.v.CC.2.1 q.k.CC.2.2 q.k.CC.2.1 hK
def wt.tk (r:wt.R3 S25):S25 × Int × Int:=match r with
 | .ok x a _=>(x,a,0)
 | .bad e p=>(z25,p,e)
theorem wt.tk_sm {bs:List Int} {u i:Int→Int × Int × Int} (hU:wt.Uin bs u i) (at_:Int):wt.sm 8 (wt.tk (wt.takeS bs u i at_)).1:=by
 have hz:wt.sm 8 z25:=wt.sm.mk (by decide) (by decide) (by decide) (by decide) (by decide) (fun s hs=>by cases hs) (fun y hy=>by cases hy)
 unfold wt.takeS
 by_cases h:at_ < 0 ∨ at_ > (bs.length:Int)
 ·rw [if_pos h];exact hz
 rw [if_neg h]
 have h0:0≤at_:=by
  have:¬ at_ < 0:=fun e=>h (Or.inl e)
  omega
 have h1:at_≤(bs.length:Int):=by
  have:¬ at_ > (bs.length:Int):=fun e=>h (Or.inr e)
  omega
 rcases hr:wt.valS bs u i 8 at_ 2048 with ⟨x,a2,l2⟩ | ⟨ee,pp⟩
 ·exact wt.valS_sm hU 8 at_ 2048 x a2 l2 ⟨h0,h1,by omega,by omega⟩ hr
 ·exact hz
theorem wt.take22 {bs:List Int} {u i:Int→Int × Int × Int} (hU:wt.Uin bs u i) {W:World} {A:Option Addr} {c:Nat} (at_:Int) {x:S25} {n0 e0:Int} (hx:wt.tk (wt.takeS bs u i at_)=(x,n0,e0)) (hC:(Kd.int .u8).C W A bs.length bs) (hc:bs.length≤c) :
  Calls Try.prog 22 #[.slice A bs.length c,.int .i64 at_] W fun e w'=>∃ A3 c3 A4 c4,e=.returned (.tuple #[wt.vl x A3 c3 A4 c4,.int .i64 n0,.int .i64 e0])∧wt.Tr w' W.heap.size w'.heap.size x A3 c3 A4 c4∧Below W.heap.size W w':=by
 refine (wt.take1 hU at_ hC hc).mono ?_
 intro e w' h
 cases hr:wt.takeS bs u i at_ with
 | ok y a l =>
  rw [hr] at h hx
  injection hx with e1 e2
  injection e2 with e2 e3
  subst e1;subst e2;subst e3
  obtain ⟨v3,v4,h1,h2,h3,h4⟩:=h
  obtain ⟨A3,c3,e3,_⟩:=wt.VRow.C 8 h2
  obtain ⟨A4,c4,e4,_⟩:=h3.C
  subst e3;subst e4
  exact ⟨A3,c3,A4,c4,h1,⟨h2,h3⟩,h4⟩
 | bad f p =>
  rw [hr] at h hx
  injection hx with e1 e2
  injection e2 with e2 e3
  subst e1;subst e2;subst e3
  exact ⟨none,0,none,0,h.1,⟨Or.inl ⟨rfl,rfl⟩,Or.inl ⟨rfl,rfl⟩⟩,h.2⟩
theorem wt.take23 {bs:List Int} {u i:Int→Int × Int × Int} (hU:wt.Uin bs u i) (hR:wt.Rin bs u i) {W:World} {A:Option Addr} {c:Nat} (at_:Int) {x:S25} {n0 e0:Int} (hx:wt.tk (wt.takeS bs u i at_)=(x,n0,e0)) (hs:wt.sm 8 x) (hC:(Kd.int .u8).C W A bs.length bs) (hc:bs.length≤c) :
  Calls Try.prog 23 #[.slice A bs.length c,.int .i64 at_] W fun e w'=>∃ A3 c3 A4 c4,e=.returned (.tuple #[wt.vl x A3 c3 A4 c4,.int .i64 n0,.int .i64 e0])∧wt.Tr w' W.heap.size w'.heap.size x A3 c3 A4 c4∧Below W.heap.size W w':=by
 refine (wt.rtake1 hU hR at_ hC hc).mono ?_
 intro e w' h
 cases hr:wt.takeS bs u i at_ with
 | ok y a l =>
  rw [hr] at h hx
  injection hx with e1 e2
  injection e2 with e2 e3
  subst e1;subst e2;subst e3
  obtain ⟨v3,v4,h1,h2,h3,h4⟩:=h
  obtain ⟨A3,c3,e3⟩:=Kd.qA4 h2
  obtain ⟨A4,c4,e4⟩:=Kd.qA4 h3
  subst e3;subst e4
  exact ⟨A3,c3,A4,c4,h1,⟨wt.VRow.of_R 8 (Kd.qBw h2) (fun k hk=>⟨hk.2.1,hk.2.2.1⟩) (wt.szL.deep 8 (wt.sm.szL 8 hs)),wt.KRow.of_R (Kd.qBw h3) (fun k hk=>⟨hk.2.1,hk.2.2.1⟩)⟩,h4⟩
 | bad f p =>
  rw [hr] at h hx
  injection hx with e1 e2
  injection e2 with e2 e3
  subst e1;subst e2;subst e3
  exact ⟨none,0,none,0,h.1,⟨Or.inl ⟨rfl,rfl⟩,Or.inl ⟨rfl,rfl⟩⟩,h.2⟩
structure wt.MM (w wr:World) (n1 n3 n4 n5 n6:Nat) (W:World) (x:S25) (A23:Option Addr) (c23:Nat) (A24:Option Addr) (c24:Nat) (A33:Option Addr) (c33:Nat) (A34:Option Addr) (c34:Nat) (b n cap:Nat):Prop where
 t2:wt.Tr W n3 n4 x A23 c23 A24 c24
 t3:wt.Tr W n5 n6 x A33 c33 A34 c34
 x2:W.heap[n4]?=some (.cells #[.int .i64 x.f0,.int .i64 x.f1,.string x.f2,.slice A23 x.f3.length c23,.slice A24 x.f4.length c24] 25 (0,0))
 x3:W.heap[n6]?=some (.cells #[.int .i64 x.f0,.int .i64 x.f1,.string x.f2,.slice A33 x.f3.length c33,.slice A34 x.f4.length c34] 25 (0,0))
 bel:Below w.heap.size w W
 row:∃ xs,Kd.R (Kd.int .u8) 5 W w.heap.size (fun _=>True) (.slice (some ⟨b,0,none⟩) n cap) xs
 bn:w.heap.size≤b∧b < n3∧n3≤n4∧n4 < n5∧n5≤n6∧n6 < W.heap.size
structure wt.M7 (w wr:World) (bs:List Int) (xs:List Int) (n1 n2 n3 n4 n5 n6:Nat) (W:World) (x:S25) (A13:Option Addr) (c13:Nat) (A14:Option Addr) (c14:Nat) (A23:Option Addr) (c23:Nat) (A24:Option Addr) (c24:Nat) (A33:Option Addr) (c33:Nat) (A34:Option Addr) (c34:Nat) (b n cap:Nat):Prop where
 t1:wt.Tr W n1 n2 x A13 c13 A14 c14
 t2:wt.Tr W n3 n4 x A23 c23 A24 c24
 t3:wt.Tr W n5 n6 x A33 c33 A34 c34
 x1:W.heap[n2]?=some (.cells #[.int .i64 x.f0,.int .i64 x.f1,.string x.f2,.slice A13 x.f3.length c13,.slice A14 x.f4.length c14] 25 (0,0))
 x2:W.heap[n4]?=some (.cells #[.int .i64 x.f0,.int .i64 x.f1,.string x.f2,.slice A23 x.f3.length c23,.slice A24 x.f4.length c24] 25 (0,0))
 x3:W.heap[n6]?=some (.cells #[.int .i64 x.f0,.int .i64 x.f1,.string x.f2,.slice A33 x.f3.length c33,.slice A34 x.f4.length c34] 25 (0,0))
 bel:Below w.heap.size w W
 row:Kd.R (Kd.int .u8) 5 W w.heap.size (fun _=>True) (.slice (some ⟨b,0,none⟩) n cap) xs
 bn:w.heap.size≤b∧b < n1∧n1≤n2∧n2 < n3∧n3≤n4∧n4 < n5∧n5≤n6∧n6 < W.heap.size
section
variable {w wr W W1:World} {bs xs:List Int} {n1 n2 n3 n4 n5 n6:Nat} {x:S25} {A13:Option Addr} {c13:Nat} {A14:Option Addr} {c14:Nat} {A23:Option Addr} {c23:Nat} {A24:Option Addr} {c24:Nat} {A33:Option Addr} {c33:Nat} {A34:Option Addr} {c34:Nat} {b n cap:Nat}
theorem wt.M7.h1 (h:wt.M7 w wr bs xs n1 n2 n3 n4 n5 n6 W x A13 c13 A14 c14 A23 c23 A24 c24 A33 c33 A34 c34 b n cap):n2≤W.heap.size:=by have:=h.bn;omega
theorem wt.M7.below (h:wt.M7 w wr bs xs n1 n2 n3 n4 n5 n6 W x A13 c13 A14 c14 A23 c23 A24 c24 A33 c33 A34 c34 b n cap) (hb:Below W.heap.size W W1):wt.M7 w wr bs xs n1 n2 n3 n4 n5 n6 W1 x A13 c13 A14 c14 A23 c23 A24 c24 A33 c33 A34 c34 b n cap :=
 have q:=h.bn
 have s:=hb.size
 ⟨h.t1.below hb (by omega),h.t2.below hb (by omega),h.t3.below hb (by omega),qAW h.x1 hb,qAW h.x2 hb,qAW h.x3 hb,qAh h.bel h.bel.size hb,Kd.qBb h.row hb,by omega⟩
theorem wt.MM.cell (h:wt.MM w wr n1 n3 n4 n5 n6 W x A23 c23 A24 c24 A33 c33 A34 c34 b n cap) {k:Nat} (hk:k < n):∃ old,W.cell? ⟨b,k,none⟩=some (.int .u8 old)∧W.frozen? ⟨b,k,none⟩=false:=by
 obtain ⟨xs,hr⟩:=h.row
 have hx:=Kd.R_reads' hr
 obtain ⟨ad,ea,hz⟩:=Kd.qBL hx.2.2 (k:Int) (by omega) (by omega)
 have ea:=Option.some.inj ea
 rw [← ea,Int.toNat_natCast,Addr.add_lit,Nat.zero_add] at hz
 obtain ⟨g,cap',e1,_,_,cells,hcl⟩:=Kd.R_form hr (by omega)
 injection e1 with e1
 injection e1 with e1
 injection e1 with e1
 exact ⟨_,hz,by rw [e1];exact qAC hcl k⟩
theorem wt.MM.put (h:wt.MM w wr n1 n3 n4 n5 n6 W x A23 c23 A24 c24 A33 c33 A34 c34 b n cap) (k:Nat):wt.MM w wr n1 n3 n4 n5 n6 (W.setCell ⟨b,k,none⟩ (.int .u8 9)) x A23 c23 A24 c24 A33 c33 A34 c34 b n cap:=by
 have q:=h.bn
 have same:∀ i,i ≠ b→(W.setCell ⟨b,k,none⟩ (.int .u8 9)).heap[i]?=W.heap[i]?:=fun i hi=>Below.heap_setCell W ⟨b,k,none⟩ (.int .u8 9) i hi
 obtain ⟨xs,hr⟩:=h.row
 have hp:=(Kd.R_putg hr (k:Int) 9).1
 rw [Int.toNat_natCast] at hp
 exact ⟨h.t2.move (fun i h1 h2=>same i (by omega)),h.t3.move (fun i h1 h2=>same i (by omega)),(same _ (by omega)).trans h.x2,(same _ (by omega)).trans h.x3,h.bel.setCell (show w.heap.size≤b from q.1) _,⟨_,hp⟩,by rw [Deep.nblk_setCell];omega⟩
theorem wt.MM.all (h:wt.MM w wr n1 n3 n4 n5 n6 W x A23 c23 A24 c24 A33 c33 A34 c34 b n cap) (hb:Below W.heap.size W W1):Below w.heap.size w W1:=qAh h.bel h.bel.size hb
end
end
end Go.Proofs.Ytnkbobblnhaclaa.X
namespace Go.Proofs.Ytnkbobblnhaclaa.X
open Go.RowKit Go.Proofs.YtnkbobblnhaclaaW.PrintWords Go.Proofs.YtnkbobblnhaclaaW.PrintLast Go.Proofs.YtnkbobblnhaclaaW.PrintMore Go.Proofs.YtnkbobblnhaclaaW
section
set_option maxHeartbeats 4000000
set_option maxRecDepth 100000
def wt.dk (len:Nat) (r:S25 × Int × Int):S25 × Int × Int:=if r.2.2 ≠ 0 then (z25,r.2.1,r.2.2) else if r.2.1 < (len:Int) then (z25,r.2.1,43) else (r.1,0,0)
theorem wt.res25 {tmps:Array Value} {w:World} {bv:Nat} (hp4:tmps[2]?=some (.pointer (some ⟨bv,0,none⟩))) {v0 v1 v2 v3 v4:Value} {x y:Int} (hp5:tmps[3]?=some (.int .i64 x)) (hp6:tmps[4]?=some (.int .i64 y)) (hv:w.heap[bv]?=some (.cells #[v0,v1,v2,v3,v4] 25 (0,0))) :
  (results Try.f25 tmps).run Try.prog w=.ok (.tuple #[.agg #[v0,v1,v2,v3,v4],.int .i64 x,.int .i64 y]) w:=by
 have z0:w.cell? ⟨bv,0,none⟩=some v0:=(qAB hv 0).trans rfl
 have z1:w.cell? ⟨bv,1,none⟩=some v1:=(qAB hv 1).trans rfl
 have z2:w.cell? ⟨bv,2,none⟩=some v2:=(qAB hv 2).trans rfl
 have z3:w.cell? ⟨bv,3,none⟩=some v3:=(qAB hv 3).trans rfl
 have z4:w.cell? ⟨bv,4,none⟩=some v4:=(qAB hv 4).trans rfl
 simp [results,Try.results25,hp4,hp5,hp6,asAddr,z0,z1,z2,z3,z4,go_sem]
theorem wt.dec25 {bs:List Int} {u i:Int→Int × Int × Int} (hU:wt.Uin bs u i) {W:World} {A:Option Addr} {c:Nat} {y:S25} {n1 e1:Int} (hx:wt.dk bs.length (wt.tk (wt.takeS bs u i 0))=(y,n1,e1)) (hC:(Kd.int .u8).C W A bs.length bs) (hc:bs.length≤c) :
  Calls Try.prog 25 #[.slice A bs.length c] W fun e w'=>∃ A3 c3 A4 c4,e=.returned (.tuple #[wt.vl y A3 c3 A4 c4,.int .i64 n1,.int .i64 e1])∧wt.Tr w' W.heap.size w'.heap.size y A3 c3 A4 c4∧Below W.heap.size W w':=by
 have hu25:=Try.underlying25
 obtain ⟨x,n0,e0,hk⟩:∃ x n0 e0,wt.tk (wt.takeS bs u i 0)=(x,n0,e0):=⟨_,_,_,rfl⟩
 have HT:=qAA.mk (fun (w1:World) (hb:Below W.heap.size W w1)=>wt.take22 hU 0 hk (Kd.qAe hC hb) hc)
 rw [hk] at hx
 have V0:=qAA.mk (show (W.alloc (.cells #[.int .i64 0,.int .i64 0,.string ⟨#[]⟩,.slice none 0 0,.slice none 0 0] 25)).heap[W.heap.size]?=some (.cells #[.int .i64 0,.int .i64 0,.string ⟨#[]⟩,.slice none 0 0,.slice none 0 0] 25 (0,0)) by simpa using heap_alloc_new W _)
 have B0:=qAA.mk (show Below W.heap.size W (W.alloc (.cells #[.int .i64 0,.int .i64 0,.string ⟨#[]⟩,.slice none 0 0,.slice none 0 0] 25)) from (Below.refl _ _).alloc (Nat.le_refl _) _)
 clear hU hC hk
 unfold wt.dk at hx
 dsimp only at hx
 by_cases he:e0 ≠ 0
 ·rw [if_pos he] at hx
  injection hx with q1 q2
  injection q2 with q2 q3
  subst q1;subst q2;subst q3
  have d1:(e0 != 0)=true:=bne_iff_ne.2 he
  have d2:(e0 == 0)=false:=beq_eq_false_iff_ne.2 he
  have d3:decide (e0=0)=false:=decide_eq_false he
  clear he
  go_enter Try.func25,Try.ntmps25
  go_wp2_with (first | (go_at_call 22;refine (HT.out _ B0.out).mono ?_;rintro e_ w2 ⟨A3,c3,A4,c4,rfl,ht,hb⟩;unfold wt.vl;have T2:=qAA.mk ht;have B2:=qAA.mk hb;clear ht hb) | ((with_reducible refine qAY (p:=5) rfl ?_);refine wt.qAk rfl rfl 5 _ rfl w2.heap.size rfl (.int .i64 x.f0) (.int .i64 x.f1) (.string x.f2) (.slice A3 x.f3.length c3) (.slice A4 x.f4.length c4) rfl (fun q hq=>by simp at hq;rcases hq with rfl | rfl | rfl | rfl | rfl <;> rfl) _ rfl (by simpa using heap_alloc_new w2 _) ?_;intro w3 hres hgr;have O3:=qAA.mk (wt.qBi hgr);have X3:=qAA.mk hres;have V3:=qAA.mk (qAW (qAW V0.out B2.out) O3.out);clear hres hgr) | ((with_reducible refine qAY (p:=2) rfl ?_);refine wt.qAk rfl rfl 2 _ rfl W.heap.size rfl (.int .i64 0) (.int .i64 0) (.string ⟨#[]⟩) (.slice none 0 0) (.slice none 0 0) rfl (fun q hq=>by simp at hq;rcases hq with rfl | rfl | rfl | rfl | rfl <;> rfl) _ rfl V3.out ?_;intro w4 hres hgr;have X4:=qAA.mk hres;have G4:=qAA.mk hgr;clear hres hgr))
  go_wp2
  refine bodyPost_ret (wt.res25 rfl rfl rfl X4.out) rfl ?_
  have s1:=B0.out.size
  have s2:=B2.out.size
  have s3:=O3.out.size
  have hlt:=qAg V0.out
  have hB3:Below W.heap.size W w3:=qAh (qAh B0.out s1 B2.out) (by omega) O3.out
  have hB4:Below W.heap.size W w4:=⟨G4.out.os.trans hB3.os,G4.out.tape.trans hB3.tape,G4.out.output.trans hB3.output,Nat.le_trans hB3.size G4.out.size,fun k hk=>(G4.out.block k (Nat.lt_of_lt_of_le hk hB3.size) (fun e=>by have:=Option.some.inj e;omega)).trans (hB3.block k hk)⟩
  exact ⟨none,0,none,0,rfl,⟨Or.inl ⟨rfl,rfl⟩,Or.inl ⟨rfl,rfl⟩⟩,hB4⟩
 rw [if_neg he] at hx
 have he0:e0=0:=Classical.byContradiction he
 subst he0
 clear he
 by_cases hn:n0 < (bs.length:Int)
 ·rw [if_pos hn] at hx
  injection hx with q1 q2
  injection q2 with q2 q3
  subst q1;subst q2;subst q3
  have d1:decide (n0 < (bs.length:Int))=true:=decide_eq_true hn
  clear hn
  go_enter Try.func25,Try.ntmps25
  go_wp2_with (first | (go_at_call 22;refine (HT.out _ B0.out).mono ?_;rintro e_ w2 ⟨A3,c3,A4,c4,rfl,ht,hb⟩;unfold wt.vl;have T2:=qAA.mk ht;have B2:=qAA.mk hb;clear ht hb) | ((with_reducible refine qAY (p:=5) rfl ?_);refine wt.qAk rfl rfl 5 _ rfl w2.heap.size rfl (.int .i64 x.f0) (.int .i64 x.f1) (.string x.f2) (.slice A3 x.f3.length c3) (.slice A4 x.f4.length c4) rfl (fun q hq=>by simp at hq;rcases hq with rfl | rfl | rfl | rfl | rfl <;> rfl) _ rfl (by simpa using heap_alloc_new w2 _) ?_;intro w3 hres hgr;have O3:=qAA.mk (wt.qBi hgr);have X3:=qAA.mk hres;have V3:=qAA.mk (qAW (qAW V0.out B2.out) O3.out);clear hres hgr) | ((with_reducible refine qAY (p:=2) rfl ?_);refine wt.qAk rfl rfl 2 _ rfl W.heap.size rfl (.int .i64 0) (.int .i64 0) (.string ⟨#[]⟩) (.slice none 0 0) (.slice none 0 0) rfl (fun q hq=>by simp at hq;rcases hq with rfl | rfl | rfl | rfl | rfl <;> rfl) _ rfl V3.out ?_;intro w4 hres hgr;have X4:=qAA.mk hres;have G4:=qAA.mk hgr;clear hres hgr))
  go_wp2
  refine bodyPost_ret (wt.res25 rfl rfl rfl X4.out) rfl ?_
  have s1:=B0.out.size
  have s2:=B2.out.size
  have s3:=O3.out.size
  have hlt:=qAg V0.out
  have hB3:Below W.heap.size W w3:=qAh (qAh B0.out s1 B2.out) (by omega) O3.out
  have hB4:Below W.heap.size W w4:=⟨G4.out.os.trans hB3.os,G4.out.tape.trans hB3.tape,G4.out.output.trans hB3.output,Nat.le_trans hB3.size G4.out.size,fun k hk=>(G4.out.block k (Nat.lt_of_lt_of_le hk hB3.size) (fun e=>by have:=Option.some.inj e;omega)).trans (hB3.block k hk)⟩
  exact ⟨none,0,none,0,rfl,⟨Or.inl ⟨rfl,rfl⟩,Or.inl ⟨rfl,rfl⟩⟩,hB4⟩
 rw [if_neg hn] at hx
 injection hx with q1 q2
 injection q2 with q2 q3
 subst q1;subst q2;subst q3
 have d1:decide (n0 < (bs.length:Int))=false:=decide_eq_false hn
 clear hn
 go_enter Try.func25,Try.ntmps25
 go_wp2_with (first | (go_at_call 22;refine (HT.out _ B0.out).mono ?_;rintro e_ w2 ⟨A3,c3,A4,c4,rfl,ht,hb⟩;unfold wt.vl;have T2:=qAA.mk ht;have B2:=qAA.mk hb;clear ht hb) | ((with_reducible refine qAY (p:=5) rfl ?_);refine wt.qAk rfl rfl 5 _ rfl w2.heap.size rfl (.int .i64 x.f0) (.int .i64 x.f1) (.string x.f2) (.slice A3 x.f3.length c3) (.slice A4 x.f4.length c4) rfl (fun q hq=>by simp at hq;rcases hq with rfl | rfl | rfl | rfl | rfl <;> rfl) _ rfl (by simpa using heap_alloc_new w2 _) ?_;intro w3 hres hgr;have O3:=qAA.mk (wt.qBi hgr);have X3:=qAA.mk hres;have V3:=qAA.mk (qAW (qAW V0.out B2.out) O3.out);clear hres hgr;have z0:=(qAB X3.out 0).trans rfl;have z1:=(qAB X3.out 1).trans rfl;have z2:=(qAB X3.out 2).trans rfl;have z3:=(qAB X3.out 3).trans rfl;have z4:=(qAB X3.out 4).trans rfl) | ((with_reducible refine qAY (p:=2) rfl ?_);refine wt.qAk rfl rfl 2 _ rfl W.heap.size rfl (.int .i64 x.f0) (.int .i64 x.f1) (.string x.f2) (.slice A3 x.f3.length c3) (.slice A4 x.f4.length c4) rfl (fun q hq=>by simp at hq;rcases hq with rfl | rfl | rfl | rfl | rfl <;> rfl) _ rfl V3.out ?_;intro w4 hres hgr;have X4:=qAA.mk hres;have G4:=qAA.mk hgr;clear hres hgr))
 go_wp2
 refine bodyPost_ret (wt.res25 rfl rfl rfl X4.out) rfl ?_
 have s1:=B0.out.size
 have s2:=B2.out.size
 have s3:=O3.out.size
 have hlt:=qAg V0.out
 have hB3:Below W.heap.size W w3:=qAh (qAh B0.out s1 B2.out) (by omega) O3.out
 have hB4:Below W.heap.size W w4:=⟨G4.out.os.trans hB3.os,G4.out.tape.trans hB3.tape,G4.out.output.trans hB3.output,Nat.le_trans hB3.size G4.out.size,fun k hk=>(G4.out.block k (Nat.lt_of_lt_of_le hk hB3.size) (fun e=>by have:=Option.some.inj e;omega)).trans (hB3.block k hk)⟩
 refine ⟨A3,c3,A4,c4,rfl,⟨wt.VRow.move (Y:=fun k=>(W.alloc (.cells #[.int .i64 0,.int .i64 0,.string ⟨#[]⟩,.slice none 0 0,.slice none 0 0] 25)).heap.size≤k∧k < w2.heap.size) (fun k hk=>⟨by omega,by have:=G4.out.size;omega⟩) (fun k hk _=>(G4.out.block k (by omega) (fun e=>by have:=Option.some.inj e;omega)).trans (O3.out.block k hk.2)) 8 T2.out.v,T2.out.k.move (Y1:=fun k=>W.heap.size≤k∧k < w4.heap.size) (fun k hk=>⟨by omega,by have:=G4.out.size;omega⟩) (fun k hk _=>(G4.out.block k (by omega) (fun e=>by have:=Option.some.inj e;omega)).trans (O3.out.block k hk.2))⟩,hB4⟩
theorem wt.res26 {tmps:Array Value} {w:World} {bv:Nat} (hp4:tmps[2]?=some (.pointer (some ⟨bv,0,none⟩))) {v0 v1 v2 v3 v4:Value} {x y:Int} (hp5:tmps[3]?=some (.int .i64 x)) (hp6:tmps[4]?=some (.int .i64 y)) (hv:w.heap[bv]?=some (.cells #[v0,v1,v2,v3,v4] 25 (0,0))) :
  (results Try.f26 tmps).run Try.prog w=.ok (.tuple #[.agg #[v0,v1,v2,v3,v4],.int .i64 x,.int .i64 y]) w:=by
 have z0:w.cell? ⟨bv,0,none⟩=some v0:=(qAB hv 0).trans rfl
 have z1:w.cell? ⟨bv,1,none⟩=some v1:=(qAB hv 1).trans rfl
 have z2:w.cell? ⟨bv,2,none⟩=some v2:=(qAB hv 2).trans rfl
 have z3:w.cell? ⟨bv,3,none⟩=some v3:=(qAB hv 3).trans rfl
 have z4:w.cell? ⟨bv,4,none⟩=some v4:=(qAB hv 4).trans rfl
 simp [results,Try.results26,hp4,hp5,hp6,asAddr,z0,z1,z2,z3,z4,go_sem]
theorem wt.dec26 {bs:List Int} {u i:Int→Int × Int × Int} (hU:wt.Uin bs u i) (hR:wt.Rin bs u i) {W:World} {A:Option Addr} {c:Nat} {y:S25} {n1 e1:Int} (hx:wt.dk bs.length (wt.tk (wt.takeS bs u i 0))=(y,n1,e1)) (hs:wt.sm 8 (wt.tk (wt.takeS bs u i 0)).1) (hC:(Kd.int .u8).C W A bs.length bs) (hc:bs.length≤c) :
  Calls Try.prog 26 #[.slice A bs.length c] W fun e w'=>∃ A3 c3 A4 c4,e=.returned (.tuple #[wt.vl y A3 c3 A4 c4,.int .i64 n1,.int .i64 e1])∧wt.Tr w' W.heap.size w'.heap.size y A3 c3 A4 c4∧Below W.heap.size W w':=by
 have hu25:=Try.underlying25
 obtain ⟨x,n0,e0,hk⟩:∃ x n0 e0,wt.tk (wt.takeS bs u i 0)=(x,n0,e0):=⟨_,_,_,rfl⟩
 have HT:=qAA.mk (fun (w1:World) (hb:Below W.heap.size W w1)=>wt.take23 hU hR 0 hk (by rw [hk] at hs;exact hs) (Kd.qAe hC hb) hc)
 rw [hk] at hx
 have V0:=qAA.mk (show (W.alloc (.cells #[.int .i64 0,.int .i64 0,.string ⟨#[]⟩,.slice none 0 0,.slice none 0 0] 25)).heap[W.heap.size]?=some (.cells #[.int .i64 0,.int .i64 0,.string ⟨#[]⟩,.slice none 0 0,.slice none 0 0] 25 (0,0)) by simpa using heap_alloc_new W _)
 have B0:=qAA.mk (show Below W.heap.size W (W.alloc (.cells #[.int .i64 0,.int .i64 0,.string ⟨#[]⟩,.slice none 0 0,.slice none 0 0] 25)) from (Below.refl _ _).alloc (Nat.le_refl _) _)
 clear hU hC hk hR hs
 unfold wt.dk at hx
 dsimp only at hx
 by_cases he:e0 ≠ 0
 ·rw [if_pos he] at hx
  injection hx with q1 q2
  injection q2 with q2 q3
  subst q1;subst q2;subst q3
  have d1:(e0 != 0)=true:=bne_iff_ne.2 he
  have d2:(e0 == 0)=false:=beq_eq_false_iff_ne.2 he
  have d3:decide (e0=0)=false:=decide_eq_false he
  clear he
  go_enter Try.func26,Try.ntmps26
  go_wp2_with (first | (go_at_call 23;refine (HT.out _ B0.out).mono ?_;rintro e_ w2 ⟨A3,c3,A4,c4,rfl,ht,hb⟩;unfold wt.vl;have T2:=qAA.mk ht;have B2:=qAA.mk hb;clear ht hb) | ((with_reducible refine qAY (p:=5) rfl ?_);refine wt.qAk rfl rfl 5 _ rfl w2.heap.size rfl (.int .i64 x.f0) (.int .i64 x.f1) (.string x.f2) (.slice A3 x.f3.length c3) (.slice A4 x.f4.length c4) rfl (fun q hq=>by simp at hq;rcases hq with rfl | rfl | rfl | rfl | rfl <;> rfl) _ rfl (by simpa using heap_alloc_new w2 _) ?_;intro w3 hres hgr;have O3:=qAA.mk (wt.qBi hgr);have X3:=qAA.mk hres;have V3:=qAA.mk (qAW (qAW V0.out B2.out) O3.out);clear hres hgr) | ((with_reducible refine qAY (p:=2) rfl ?_);refine wt.qAk rfl rfl 2 _ rfl W.heap.size rfl (.int .i64 0) (.int .i64 0) (.string ⟨#[]⟩) (.slice none 0 0) (.slice none 0 0) rfl (fun q hq=>by simp at hq;rcases hq with rfl | rfl | rfl | rfl | rfl <;> rfl) _ rfl V3.out ?_;intro w4 hres hgr;have X4:=qAA.mk hres;have G4:=qAA.mk hgr;clear hres hgr))
  go_wp2
  refine bodyPost_ret (wt.res26 rfl rfl rfl X4.out) rfl ?_
  have s1:=B0.out.size
  have s2:=B2.out.size
  have s3:=O3.out.size
  have hlt:=qAg V0.out
  have hB3:Below W.heap.size W w3:=qAh (qAh B0.out s1 B2.out) (by omega) O3.out
  have hB4:Below W.heap.size W w4:=⟨G4.out.os.trans hB3.os,G4.out.tape.trans hB3.tape,G4.out.output.trans hB3.output,Nat.le_trans hB3.size G4.out.size,fun k hk=>(G4.out.block k (Nat.lt_of_lt_of_le hk hB3.size) (fun e=>by have:=Option.some.inj e;omega)).trans (hB3.block k hk)⟩
  exact ⟨none,0,none,0,rfl,⟨Or.inl ⟨rfl,rfl⟩,Or.inl ⟨rfl,rfl⟩⟩,hB4⟩
 rw [if_neg he] at hx
 have he0:e0=0:=Classical.byContradiction he
 subst he0
 clear he
 by_cases hn:n0 < (bs.length:Int)
 ·rw [if_pos hn] at hx
  injection hx with q1 q2
  injection q2 with q2 q3
  subst q1;subst q2;subst q3
  have d1:decide (n0 < (bs.length:Int))=true:=decide_eq_true hn
  clear hn
  go_enter Try.func26,Try.ntmps26
  go_wp2_with (first | (go_at_call 23;refine (HT.out _ B0.out).mono ?_;rintro e_ w2 ⟨A3,c3,A4,c4,rfl,ht,hb⟩;unfold wt.vl;have T2:=qAA.mk ht;have B2:=qAA.mk hb;clear ht hb) | ((with_reducible refine qAY (p:=5) rfl ?_);refine wt.qAk rfl rfl 5 _ rfl w2.heap.size rfl (.int .i64 x.f0) (.int .i64 x.f1) (.string x.f2) (.slice A3 x.f3.length c3) (.slice A4 x.f4.length c4) rfl (fun q hq=>by simp at hq;rcases hq with rfl | rfl | rfl | rfl | rfl <;> rfl) _ rfl (by simpa using heap_alloc_new w2 _) ?_;intro w3 hres hgr;have O3:=qAA.mk (wt.qBi hgr);have X3:=qAA.mk hres;have V3:=qAA.mk (qAW (qAW V0.out B2.out) O3.out);clear hres hgr) | ((with_reducible refine qAY (p:=2) rfl ?_);refine wt.qAk rfl rfl 2 _ rfl W.heap.size rfl (.int .i64 0) (.int .i64 0) (.string ⟨#[]⟩) (.slice none 0 0) (.slice none 0 0) rfl (fun q hq=>by simp at hq;rcases hq with rfl | rfl | rfl | rfl | rfl <;> rfl) _ rfl V3.out ?_;intro w4 hres hgr;have X4:=qAA.mk hres;have G4:=qAA.mk hgr;clear hres hgr))
  go_wp2
  refine bodyPost_ret (wt.res26 rfl rfl rfl X4.out) rfl ?_
  have s1:=B0.out.size
  have s2:=B2.out.size
  have s3:=O3.out.size
  have hlt:=qAg V0.out
  have hB3:Below W.heap.size W w3:=qAh (qAh B0.out s1 B2.out) (by omega) O3.out
  have hB4:Below W.heap.size W w4:=⟨G4.out.os.trans hB3.os,G4.out.tape.trans hB3.tape,G4.out.output.trans hB3.output,Nat.le_trans hB3.size G4.out.size,fun k hk=>(G4.out.block k (Nat.lt_of_lt_of_le hk hB3.size) (fun e=>by have:=Option.some.inj e;omega)).trans (hB3.block k hk)⟩
  exact ⟨none,0,none,0,rfl,⟨Or.inl ⟨rfl,rfl⟩,Or.inl ⟨rfl,rfl⟩⟩,hB4⟩
 rw [if_neg hn] at hx
 injection hx with q1 q2
 injection q2 with q2 q3
 subst q1;subst q2;subst q3
 have d1:decide (n0 < (bs.length:Int))=false:=decide_eq_false hn
 clear hn
 go_enter Try.func26,Try.ntmps26
 go_wp2_with (first | (go_at_call 23;refine (HT.out _ B0.out).mono ?_;rintro e_ w2 ⟨A3,c3,A4,c4,rfl,ht,hb⟩;unfold wt.vl;have T2:=qAA.mk ht;have B2:=qAA.mk hb;clear ht hb) | ((with_reducible refine qAY (p:=5) rfl ?_);refine wt.qAk rfl rfl 5 _ rfl w2.heap.size rfl (.int .i64 x.f0) (.int .i64 x.f1) (.string x.f2) (.slice A3 x.f3.length c3) (.slice A4 x.f4.length c4) rfl (fun q hq=>by simp at hq;rcases hq with rfl | rfl | rfl | rfl | rfl <;> rfl) _ rfl (by simpa using heap_alloc_new w2 _) ?_;intro w3 hres hgr;have O3:=qAA.mk (wt.qBi hgr);have X3:=qAA.mk hres;have V3:=qAA.mk (qAW (qAW V0.out B2.out) O3.out);clear hres hgr;have z0:=(qAB X3.out 0).trans rfl;have z1:=(qAB X3.out 1).trans rfl;have z2:=(qAB X3.out 2).trans rfl;have z3:=(qAB X3.out 3).trans rfl;have z4:=(qAB X3.out 4).trans rfl) | ((with_reducible refine qAY (p:=2) rfl ?_);refine wt.qAk rfl rfl 2 _ rfl W.heap.size rfl (.int .i64 x.f0) (.int .i64 x.f1) (.string x.f2) (.slice A3 x.f3.length c3) (.slice A4 x.f4.length c4) rfl (fun q hq=>by simp at hq;rcases hq with rfl | rfl | rfl | rfl | rfl <;> rfl) _ rfl V3.out ?_;intro w4 hres hgr;have X4:=qAA.mk hres;have G4:=qAA.mk hgr;clear hres hgr))
 go_wp2
 refine bodyPost_ret (wt.res26 rfl rfl rfl X4.out) rfl ?_
 have s1:=B0.out.size
 have s2:=B2.out.size
 have s3:=O3.out.size
 have hlt:=qAg V0.out
 have hB3:Below W.heap.size W w3:=qAh (qAh B0.out s1 B2.out) (by omega) O3.out
 have hB4:Below W.heap.size W w4:=⟨G4.out.os.trans hB3.os,G4.out.tape.trans hB3.tape,G4.out.output.trans hB3.output,Nat.le_trans hB3.size G4.out.size,fun k hk=>(G4.out.block k (Nat.lt_of_lt_of_le hk hB3.size) (fun e=>by have:=Option.some.inj e;omega)).trans (hB3.block k hk)⟩
 refine ⟨A3,c3,A4,c4,rfl,⟨wt.VRow.move (Y:=fun k=>(W.alloc (.cells #[.int .i64 0,.int .i64 0,.string ⟨#[]⟩,.slice none 0 0,.slice none 0 0] 25)).heap.size≤k∧k < w2.heap.size) (fun k hk=>⟨by omega,by have:=G4.out.size;omega⟩) (fun k hk _=>(G4.out.block k (by omega) (fun e=>by have:=Option.some.inj e;omega)).trans (O3.out.block k hk.2)) 8 T2.out.v,T2.out.k.move (Y1:=fun k=>W.heap.size≤k∧k < w4.heap.size) (fun k hk=>⟨by omega,by have:=G4.out.size;omega⟩) (fun k hk _=>(G4.out.block k (by omega) (fun e=>by have:=Option.some.inj e;omega)).trans (O3.out.block k hk.2))⟩,hB4⟩
end
end Go.Proofs.Ytnkbobblnhaclaa.X
namespace Go.Proofs.Ytnkbobblnhaclaa.X
open Go.RowKit Go.Proofs.YtnkbobblnhaclaaW.PrintWords Go.Proofs.YtnkbobblnhaclaaW.PrintLast Go.Proofs.YtnkbobblnhaclaaW.PrintMore Go.Proofs.YtnkbobblnhaclaaW
section
set_option maxRecDepth 100000
open Go.Proofs.Ytnkbobblnhaclaa
theorem wt.en_few (x:S25) (hv:Val x) (hr:wt.Rt x):(en x).length≤24576:=by
 have:=(en_len x hv).1
 have:=hr.2
 omega
def wt.li (n:Int):S25:=⟨2,n,⟨#[]⟩,[],[]⟩
end
end Go.Proofs.Ytnkbobblnhaclaa.X
namespace Go.Proofs.Ytnkbobblnhaclaa.X
open Go.RowKit Go.Proofs.YtnkbobblnhaclaaW.PrintWords Go.Proofs.YtnkbobblnhaclaaW.PrintLast Go.Proofs.YtnkbobblnhaclaaW.PrintMore Go.Proofs.YtnkbobblnhaclaaW
section
set_option maxHeartbeats 16000000
set_option maxRecDepth 100000
open Go.Proofs.Ytnkbobblnhaclaa
theorem wt.copied (k:Nat) (f0 f1:Int) (f2:ByteArray) (A3:Option Addr) (c3:Nat) (f3:List S25) (A4:Option Addr) (c4:Nat) (f4:List ByteArray) (t:Bool) (w:World) (hr3:Kd.C k25 w A3 f3.length f3) (hc3:f3.length≤c3) (hr4:Kd.C Kd.string w A4 f4.length f4) (hc4:f4.length≤c4) (hf:qAx.f k f0 f1 f2 f3 f4=some t) (hd:t=true→qAJ.f k f0 f1 f2 f3 f4=some (f0,f1,f2,f3,f4)) :
  Calls Try.prog 11 #[.agg #[.int .i64 f0,.int .i64 f1,.string f2,.slice A3 f3.length c3,.slice A4 f4.length c4]] w fun e w'=>∃ (A5:Option Addr) (c5:Nat) (A6:Option Addr) (c6:Nat),e=.returned (.agg #[.int .i64 f0,.int .i64 f1,.string f2,.slice A5 f3.length c5,.slice A6 f4.length c6])∧Kd.C k25 w' A5 f3.length f3∧f3.length≤c5∧Kd.C Kd.string w' A6 f4.length f4∧f4.length≤c6∧Below w.heap.size w w':=by
 have hu25:=Try.underlying25
 have HR3:=qAA.mk hr3
 have HC3:=qAA.mk hc3
 have HR4:=qAA.mk hr4
 have HC4:=qAA.mk hc4
 have HF:=qAA.mk hf
 clear hr3 hc3 hr4 hc4 hf
 by_cases c:t=true
 ·subst c
  have HD:=qAA.mk (hd rfl)
  clear hd
  go_enter Try.func11,Try.ntmps11
  go_wp2_with (first | ((with_reducible refine qAj (N:=1) rfl ?_);refine qAf ?hg (N:=1) ?hd (cs:=#[.int .i64 f0,.int .i64 f1,.string f2,.slice A3 f3.length c3,.slice A4 f4.length c4]) (t:=25) ?hr ?_;(case hd=>rfl);(case hg=>rfl);(case hr=>first | (go_simp;done) | (go_simp;rfl));intro g1 hg w1 hbox hb1;have BX1:=qAA.mk hbox;have HB1:=qAA.mk hb1;have GE1:=qAA.mk (show w.heap.size≤g1 from by omega);clear hb1 hbox hg) | ((with_reducible refine qAj (N:=2) rfl ?_);refine qAf ?hg (N:=2) ?hd (cs:=#[.int .i64 0,.int .i64 0,.string (⟨#[]⟩:ByteArray),.slice none 0 0,.slice none 0 0]) (t:=25) ?hr ?_;(case hd=>rfl);(case hg=>rfl);(case hr=>first | (go_simp;done) | (go_simp;rfl));intro g2 hg w2 hbox hb1;have BY2:=qAA.mk hbox;have BX2:=qAA.mk (qAW BX1.out hb1);have HB2:=qAA.mk (qAX HB1.out hb1);have GE2:=qAA.mk (show w.heap.size≤g2 from by rw [hg];exact HB1.out.size);have NE:=qAA.mk (show g1 ≠ g2 from by have:=qAg BX1.out;omega);have GW:=qAA.mk (show g2 < w2.heap.size from qAg hbox);clear hb1 hbox hg;have o0:w2.cell? ⟨g1,0,none⟩=some (.int .i64 f0):=(qAB BX2.out 0).trans rfl;have of0:=qAC BX2.out 0;have o1:w2.cell? ⟨g1,1,none⟩=some (.int .i64 f1):=(qAB BX2.out 1).trans rfl;have of1:=qAC BX2.out 1;have o2:w2.cell? ⟨g1,2,none⟩=some (.string f2):=(qAB BX2.out 2).trans rfl;have of2:=qAC BX2.out 2;have o3:w2.cell? ⟨g1,3,none⟩=some (.slice A3 f3.length c3):=(qAB BX2.out 3).trans rfl;have of3:=qAC BX2.out 3;have o4:w2.cell? ⟨g1,4,none⟩=some (.slice A4 f4.length c4):=(qAB BX2.out 4).trans rfl;have of4:=qAC BX2.out 4) | (go_at_call 27;refine (qAx.calls k f0 f1 f2 A3 c3 f3 A4 c4 f4 true _ ?s1 HC3.out ?s2 HC4.out HF.out).mono ?_;(case s1=>exact Kd.qAe HR3.out HB2.out);(case s2=>exact Kd.qAe HR4.out HB2.out);rintro e w3 ⟨rfl,hb3⟩;have HB3:=qAA.mk (qAX HB2.out hb3);have BX3:=qAA.mk (qAW BX2.out hb3);have BY3:=qAA.mk (qAW BY2.out hb3);clear hb3;have p0:w3.cell? ⟨g1,0,none⟩=some (.int .i64 f0):=(qAB BX3.out 0).trans rfl;have pf0:=qAC BX3.out 0;have p1:w3.cell? ⟨g1,1,none⟩=some (.int .i64 f1):=(qAB BX3.out 1).trans rfl;have pf1:=qAC BX3.out 1;have p2:w3.cell? ⟨g1,2,none⟩=some (.string f2):=(qAB BX3.out 2).trans rfl;have pf2:=qAC BX3.out 2;have p3:w3.cell? ⟨g1,3,none⟩=some (.slice A3 f3.length c3):=(qAB BX3.out 3).trans rfl;have pf3:=qAC BX3.out 3;have p4:w3.cell? ⟨g1,4,none⟩=some (.slice A4 f4.length c4):=(qAB BX3.out 4).trans rfl;have pf4:=qAC BX3.out 4;have q0:w3.cell? ⟨g2,0,none⟩=some (.int .i64 0):=(qAB BY3.out 0).trans rfl;have qf0:=qAC BY3.out 0;have q1:w3.cell? ⟨g2,1,none⟩=some (.int .i64 0):=(qAB BY3.out 1).trans rfl;have qf1:=qAC BY3.out 1;have q2:w3.cell? ⟨g2,2,none⟩=some (.string (⟨#[]⟩:ByteArray)):=(qAB BY3.out 2).trans rfl;have qf2:=qAC BY3.out 2;have q3:w3.cell? ⟨g2,3,none⟩=some (.slice none 0 0):=(qAB BY3.out 3).trans rfl;have qf3:=qAC BY3.out 3;have q4:w3.cell? ⟨g2,4,none⟩=some (.slice none 0 0):=(qAB BY3.out 4).trans rfl;have qf4:=qAC BY3.out 4) | (go_at_call 28;refine (qAJ.calls k f0 f1 f2 A3 c3 f3 A4 c4 f4 f0 f1 f2 f3 f4 _ ?t1 HC3.out ?t2 HC4.out HD.out).mono ?_;(case t1=>exact Kd.qAe HR3.out HB3.out);(case t2=>exact Kd.qAe HR4.out HB3.out);rintro e w4 ⟨v3,v4,rfl,ho3,ho4,hb4⟩;obtain ⟨Ad,cd,ed⟩:=Kd.qA4 ho3;subst ed;obtain ⟨Ae,ce,ee⟩:=Kd.qA4 ho4;subst ee;have HB4:=qAA.mk (qAX HB3.out hb4);have BY4:=qAA.mk (qAW BY3.out hb4);have HO3:=qAA.mk (Kd.qA9 (Kd.qBw ho3) (fun k_ hk=>(show k_ ≠ g2 from fun e_=>by have:=hk.2.1;have:=qAg BY3.out;omega)));have HO4:=qAA.mk (Kd.qA9 (Kd.qBw ho4) (fun k_ hk=>(show k_ ≠ g2 from fun e_=>by have:=hk.2.1;have:=qAg BY3.out;omega)));clear hb4 ho3 ho4;have r0:w4.cell? ⟨g2,0,none⟩=some (.int .i64 0):=(qAB BY4.out 0).trans rfl;have rf0:=qAC BY4.out 0;have r1:w4.cell? ⟨g2,1,none⟩=some (.int .i64 0):=(qAB BY4.out 1).trans rfl;have rf1:=qAC BY4.out 1;have r2:w4.cell? ⟨g2,2,none⟩=some (.string (⟨#[]⟩:ByteArray)):=(qAB BY4.out 2).trans rfl;have rf2:=qAC BY4.out 2;have r3:w4.cell? ⟨g2,3,none⟩=some (.slice none 0 0):=(qAB BY4.out 3).trans rfl;have rf3:=qAC BY4.out 3;have r4:w4.cell? ⟨g2,4,none⟩=some (.slice none 0 0):=(qAB BY4.out 4).trans rfl;have rf4:=qAC BY4.out 4))
  refine bodyPost_ret (results_cell_row rfl _ _ g2 25 #[.int .i64 f0,.int .i64 f1,.string f2,.slice Ad f3.length cd,.slice Ae f4.length ce] (0,0) _ rfl (by refine qA2 (cs:=#[.int .i64 f0,.int .i64 f1,.string f2,.slice Ad f3.length cd,.slice none 0 0]) ?_ 4 _ rfl;refine qA2 (cs:=#[.int .i64 f0,.int .i64 f1,.string f2,.slice none 0 0,.slice none 0 0]) ?_ 3 _ rfl;refine qA2 (cs:=#[.int .i64 f0,.int .i64 f1,.string (⟨#[]⟩:ByteArray),.slice none 0 0,.slice none 0 0]) ?_ 2 _ rfl;refine qA2 (cs:=#[.int .i64 f0,.int .i64 0,.string (⟨#[]⟩:ByteArray),.slice none 0 0,.slice none 0 0]) ?_ 1 _ rfl;refine qA2 (cs:=#[.int .i64 0,.int .i64 0,.string (⟨#[]⟩:ByteArray),.slice none 0 0,.slice none 0 0]) ?_ 0 _ rfl; exact BY4.out) Try.underlying25 rfl (by kernel_rfl)) rfl ?_
  exact ⟨Ad,cd,Ae,ce,rfl,(Kd.R_reads' (Kd.qBy (p:=⟨g2,4,none⟩) (Kd.qBy (p:=⟨g2,3,none⟩) (Kd.qBy (p:=⟨g2,2,none⟩) (Kd.qBy (p:=⟨g2,1,none⟩) (Kd.qBy (p:=⟨g2,0,none⟩) HO3.out (fun _ hk=>hk) _) (fun _ hk=>hk) _) (fun _ hk=>hk) _) (fun _ hk=>hk) _) (fun _ hk=>hk) _)).2.2,(Kd.R_reads' HO3.out).2.1,(Kd.R_reads' (Kd.qBy (p:=⟨g2,4,none⟩) (Kd.qBy (p:=⟨g2,3,none⟩) (Kd.qBy (p:=⟨g2,2,none⟩) (Kd.qBy (p:=⟨g2,1,none⟩) (Kd.qBy (p:=⟨g2,0,none⟩) HO4.out (fun _ hk=>hk) _) (fun _ hk=>hk) _) (fun _ hk=>hk) _) (fun _ hk=>hk) _) (fun _ hk=>hk) _)).2.2,(Kd.R_reads' HO4.out).2.1,qAL (qAL (qAL (qAL (qAL HB4.out GE2.out) GE2.out) GE2.out) GE2.out) GE2.out⟩
 ·obtain rfl:t=false:=by simpa using c
  clear hd c
  go_enter Try.func11,Try.ntmps11
  go_wp2_with (first | ((with_reducible refine qAj (N:=1) rfl ?_);refine qAf ?hg (N:=1) ?hd (cs:=#[.int .i64 f0,.int .i64 f1,.string f2,.slice A3 f3.length c3,.slice A4 f4.length c4]) (t:=25) ?hr ?_;(case hd=>rfl);(case hg=>rfl);(case hr=>first | (go_simp;done) | (go_simp;rfl));intro g1 hg w1 hbox hb1;have BX1:=qAA.mk hbox;have HB1:=qAA.mk hb1;have GE1:=qAA.mk (show w.heap.size≤g1 from by omega);clear hb1 hbox hg) | ((with_reducible refine qAj (N:=2) rfl ?_);refine qAf ?hg (N:=2) ?hd (cs:=#[.int .i64 0,.int .i64 0,.string (⟨#[]⟩:ByteArray),.slice none 0 0,.slice none 0 0]) (t:=25) ?hr ?_;(case hd=>rfl);(case hg=>rfl);(case hr=>first | (go_simp;done) | (go_simp;rfl));intro g2 hg w2 hbox hb1;have BY2:=qAA.mk hbox;have BX2:=qAA.mk (qAW BX1.out hb1);have HB2:=qAA.mk (qAX HB1.out hb1);have GE2:=qAA.mk (show w.heap.size≤g2 from by rw [hg];exact HB1.out.size);have NE:=qAA.mk (show g1 ≠ g2 from by have:=qAg BX1.out;omega);have GW:=qAA.mk (show g2 < w2.heap.size from qAg hbox);clear hb1 hbox hg;have o0:w2.cell? ⟨g1,0,none⟩=some (.int .i64 f0):=(qAB BX2.out 0).trans rfl;have of0:=qAC BX2.out 0;have o1:w2.cell? ⟨g1,1,none⟩=some (.int .i64 f1):=(qAB BX2.out 1).trans rfl;have of1:=qAC BX2.out 1;have o2:w2.cell? ⟨g1,2,none⟩=some (.string f2):=(qAB BX2.out 2).trans rfl;have of2:=qAC BX2.out 2;have o3:w2.cell? ⟨g1,3,none⟩=some (.slice A3 f3.length c3):=(qAB BX2.out 3).trans rfl;have of3:=qAC BX2.out 3;have o4:w2.cell? ⟨g1,4,none⟩=some (.slice A4 f4.length c4):=(qAB BX2.out 4).trans rfl;have of4:=qAC BX2.out 4) | (go_at_call 27;refine (qAx.calls k f0 f1 f2 A3 c3 f3 A4 c4 f4 false _ ?s1 HC3.out ?s2 HC4.out HF.out).mono ?_;(case s1=>exact Kd.qAe HR3.out HB2.out);(case s2=>exact Kd.qAe HR4.out HB2.out);rintro e w3 ⟨rfl,hb3⟩;have HB3:=qAA.mk (qAX HB2.out hb3);have BX3:=qAA.mk (qAW BX2.out hb3);have BY3:=qAA.mk (qAW BY2.out hb3);clear hb3;have p0:w3.cell? ⟨g1,0,none⟩=some (.int .i64 f0):=(qAB BX3.out 0).trans rfl;have pf0:=qAC BX3.out 0;have p1:w3.cell? ⟨g1,1,none⟩=some (.int .i64 f1):=(qAB BX3.out 1).trans rfl;have pf1:=qAC BX3.out 1;have p2:w3.cell? ⟨g1,2,none⟩=some (.string f2):=(qAB BX3.out 2).trans rfl;have pf2:=qAC BX3.out 2;have p3:w3.cell? ⟨g1,3,none⟩=some (.slice A3 f3.length c3):=(qAB BX3.out 3).trans rfl;have pf3:=qAC BX3.out 3;have p4:w3.cell? ⟨g1,4,none⟩=some (.slice A4 f4.length c4):=(qAB BX3.out 4).trans rfl;have pf4:=qAC BX3.out 4;have q0:w3.cell? ⟨g2,0,none⟩=some (.int .i64 0):=(qAB BY3.out 0).trans rfl;have qf0:=qAC BY3.out 0;have q1:w3.cell? ⟨g2,1,none⟩=some (.int .i64 0):=(qAB BY3.out 1).trans rfl;have qf1:=qAC BY3.out 1;have q2:w3.cell? ⟨g2,2,none⟩=some (.string (⟨#[]⟩:ByteArray)):=(qAB BY3.out 2).trans rfl;have qf2:=qAC BY3.out 2;have q3:w3.cell? ⟨g2,3,none⟩=some (.slice none 0 0):=(qAB BY3.out 3).trans rfl;have qf3:=qAC BY3.out 3;have q4:w3.cell? ⟨g2,4,none⟩=some (.slice none 0 0):=(qAB BY3.out 4).trans rfl;have qf4:=qAC BY3.out 4))
  refine bodyPost_ret (results_cell_row rfl _ _ g2 25 #[.int .i64 f0,.int .i64 f1,.string f2,.slice A3 f3.length c3,.slice A4 f4.length c4] (0,0) _ rfl (by refine qA2 (cs:=#[.int .i64 f0,.int .i64 f1,.string f2,.slice A3 f3.length c3,.slice none 0 0]) ?_ 4 _ rfl;refine qA2 (cs:=#[.int .i64 f0,.int .i64 f1,.string f2,.slice none 0 0,.slice none 0 0]) ?_ 3 _ rfl;refine qA2 (cs:=#[.int .i64 f0,.int .i64 f1,.string (⟨#[]⟩:ByteArray),.slice none 0 0,.slice none 0 0]) ?_ 2 _ rfl;refine qA2 (cs:=#[.int .i64 f0,.int .i64 0,.string (⟨#[]⟩:ByteArray),.slice none 0 0,.slice none 0 0]) ?_ 1 _ rfl;refine qA2 (cs:=#[.int .i64 0,.int .i64 0,.string (⟨#[]⟩:ByteArray),.slice none 0 0,.slice none 0 0]) ?_ 0 _ rfl; exact BY3.out) Try.underlying25 rfl (by kernel_rfl)) rfl ?_
  exact ⟨A3,c3,A4,c4,rfl,Kd.qAe HR3.out (qAL (qAL (qAL (qAL (qAL HB3.out GE2.out) GE2.out) GE2.out) GE2.out) GE2.out),HC3.out,Kd.qAe HR4.out (qAL (qAL (qAL (qAL (qAL HB3.out GE2.out) GE2.out) GE2.out) GE2.out) GE2.out),HC4.out,qAL (qAL (qAL (qAL (qAL HB3.out GE2.out) GE2.out) GE2.out) GE2.out) GE2.out⟩
theorem wt.copied11 {x:S25} (hv:Val x) (hs:Siz x) {W:World} {A3:Option Addr} {c3:Nat} {A4:Option Addr} {c4:Nat} (h3:k25.C W A3 x.f3.length x.f3) (g3:x.f3.length≤c3) (h4:Kd.string.C W A4 x.f4.length x.f4) (g4:x.f4.length≤c4) :
  Calls Try.prog 11 #[.agg #[.int .i64 x.f0,.int .i64 x.f1,.string x.f2,.slice A3 x.f3.length c3,.slice A4 x.f4.length c4]] W fun e w'=>∃ (A5:Option Addr) (c5:Nat) (A6:Option Addr) (c6:Nat),e=.returned (.agg #[.int .i64 x.f0,.int .i64 x.f1,.string x.f2,.slice A5 x.f3.length c5,.slice A6 x.f4.length c6])∧k25.C w' A5 x.f3.length x.f3∧x.f3.length≤c5∧Kd.string.C w' A6 x.f4.length x.f4∧x.f4.length≤c6∧Below W.heap.size W w':=by
 obtain ⟨t,⟨K1,q1⟩,_⟩:=few_ev x hv hs
 obtain ⟨K2,q2⟩:=deep_ev x hs
 exact wt.copied (max K1 K2) x.f0 x.f1 x.f2 A3 c3 x.f3 A4 c4 x.f4 t W h3 g3 h4 g4 (q1 _ (Nat.le_max_left _ _)) (fun _=>q2 _ (Nat.le_max_right _ _))
end
end Go.Proofs.Ytnkbobblnhaclaa.X
namespace Go.Proofs.Ytnkbobblnhaclaa.X
open Go.RowKit Go.Proofs.YtnkbobblnhaclaaW.PrintWords Go.Proofs.YtnkbobblnhaclaaW.PrintLast Go.Proofs.YtnkbobblnhaclaaW.PrintMore Go.Proofs.YtnkbobblnhaclaaW
section
set_option maxHeartbeats 4000000
set_option maxRecDepth 100000
open Go.Proofs.Ytnkbobblnhaclaa
theorem wt.told4 (x:S25) (hv:Val x):∃ (r:List Int) (e0:Int),Ev (fun k=>qBh.f k x.f0 x.f1 x.f2 x.f3 x.f4) (r,e0)∧Ev (fun k=>qBN.f k x.f0 x.f1 x.f2 x.f3 x.f4) (r,e0)∧Pl.Bytes r∧r.length≤24576:=by
 rcases wt.told3 x hv with ⟨hr,_,h2,h3⟩ | ⟨_,_,h2,h3⟩
 ·have hF:=wt.okV_frm 8 x hr.1
  have hl:=wt.en_few x hv hr
  exact ⟨en x,0,h3,rencode_ev x hv hF h2 (by omega),en_bytes x hv hF,hl⟩
 ·exact ⟨[],40,h3,rencode_no x h2,fun c hc=>(by cases hc),by simp⟩
theorem wt.dk_sm {n:Nat} {r:S25 × Int × Int} (h:wt.sm 8 r.1):wt.sm 8 (wt.dk n r).1:=by
 have hz:wt.sm 8 z25:=wt.sm.mk (by decide) (by decide) (by decide) (by decide) (by decide) (fun s hs=>by cases hs) (fun y hy=>by cases hy)
 unfold wt.dk
 split
 ·exact hz
 ·split
  ·exact hz
  ·exact h
structure wt.By (W:World) (b lo hi:Nat) (x:S25) (A3:Option Addr) (c3:Nat) (A4:Option Addr) (c4:Nat):Prop where
 t:wt.Tr W lo hi x A3 c3 A4 c4
 x:W.heap[b]?=some (.cells #[.int .i64 x.f0,.int .i64 x.f1,.string x.f2,.slice A3 x.f3.length c3,.slice A4 x.f4.length c4] 25 (0,0))
 hi:hi≤W.heap.size
section
variable {W W1:World} {b lo hi:Nat} {x:S25} {A3:Option Addr} {c3:Nat} {A4:Option Addr} {c4:Nat}
theorem wt.By.below (h:wt.By W b lo hi x A3 c3 A4 c4) (hb:Below W.heap.size W W1):wt.By W1 b lo hi x A3 c3 A4 c4 :=
 ⟨h.t.below hb h.hi,qAW h.x hb,Nat.le_trans h.hi hb.size⟩
theorem wt.By.grown (h:wt.By W b lo hi x A3 c3 A4 c4) {g:Nat} (hg:W.grownBy W1 (some g)) (hb:g ≠ b) (hl:g < lo):wt.By W1 b lo hi x A3 c3 A4 c4 :=
 ⟨h.t.move (fun k h1 h2=>hg.block k (Nat.lt_of_lt_of_le h2 h.hi) (fun e=>by have:=Option.some.inj e;omega)),(hg.block b (qAg h.x) (fun e=>hb (Option.some.inj e).symm)).trans h.x,Nat.le_trans h.hi hg.size⟩
end
theorem wt.encBool1 {W:World}:Calls Try.prog 10 #[.agg #[.int .i64 1,.int .i64 1,.string ⟨#[]⟩,.slice none 0 0,.slice none 0 0]] W fun e w'=>∃ A c,e=.returned (.tuple #[.slice A 1 c,.int .i64 0])∧(Kd.int .u8).C w' A 1 [2]∧Below W.heap.size W w':=by
 have hv:Val (⟨1,1,⟨#[]⟩,[],[]⟩:S25):=.mk _ (by decide) (by decide) (by decide) (by decide) (by decide) (by decide) (by decide) (fun s hs=>by cases hs) (fun y hy=>by cases hy)
 have hr:wt.Rt (⟨1,1,⟨#[]⟩,[],[]⟩:S25):=by
  refine ⟨wt.okV.mk (d:=7) (by unfold qAt.b;simp [wrap64]) (fun h=>absurd h (by decide)) (fun y hy=>by cases hy), ?_⟩
  rw [wt.wt_leaf 1 1 ⟨#[]⟩]
  decide
 have n3:k25.C W none ([]:List S25).length []:=(Kd.R_reads' (Kd.qBB k25 25 W W.heap.size (fun _=>True))).2.2
 have n4:Kd.string.C W none ([]:List ByteArray).length []:=(Kd.R_reads' (Kd.qBB Kd.string 9 W W.heap.size (fun _=>True))).2.2
 rcases wt.told3 _ hv with ⟨_,_,_,K,hK⟩ | ⟨h,_⟩
 ·have he:en (⟨1,1,⟨#[]⟩,[],[]⟩:S25)=[2]:=en1 rfl
  rw [he] at hK
  refine (qBh.calls K 1 1 ⟨#[]⟩ none 0 [] none 0 [] [2] 0 W n3 (Nat.le_refl _) n4 (Nat.le_refl _) (hK K (Nat.le_refl _))).mono ?_
  rintro e w' ⟨A,c,rfl,h1,_,h2⟩
  exact ⟨A,c,rfl,h1,h2⟩
 ·exact absurd hr h
theorem wt.str2 {W:World} {B:Option Addr} {c:Nat} (hB:(Kd.int .u8).C W B 1 [2]):(convert 26 9 (.slice B 1 c)).run Try.prog W=.ok (.string ⟨#[2]⟩) W :=
 Kd.C_string (P:=Try.prog) (xs:=[2]) Try.underlying26 Try.underlying5 Try.underlying9 hB
theorem wt.codes1 {x:S25} {A3:Option Addr} {c3:Nat} {A4:Option Addr} {c4:Nat} {bs:List Int} {A:Option Addr} {c:Nat} (w:World) (hv:Val x) (hs:Siz x) (h3:k25.C w A3 x.f3.length x.f3) (g3:x.f3.length≤c3) (h4:Kd.string.C w A4 x.f4.length x.f4) (g4:x.f4.length≤c4) (hC:(Kd.int .u8).C w A bs.length bs) (hc:bs.length≤c) (hb:Pl.Bytes bs) (hl:bs.length≤140737488351232) :
  Calls Try.prog 7 #[.agg #[.int .i64 x.f0,.int .i64 x.f1,.string x.f2,.slice A3 x.f3.length c3,.slice A4 x.f4.length c4],.slice A bs.length c] w fun e w'=>e=.returned (.bool true)∧Below w.heap.size w w':=by
 have hu25:=Try.underlying25
 obtain ⟨r,e0,⟨K1,q1⟩,⟨K2,q2⟩,hrb,hrl⟩:=wt.told4 x hv
 have ENC:=qAA.mk (fun (W:World) (B3:Option Addr) (d3:Nat) (B4:Option Addr) (d4:Nat) p1 p2 p3 p4=>qBh.calls K1 x.f0 x.f1 x.f2 B3 d3 x.f3 B4 d4 x.f4 r e0 W p1 p2 p3 p4 (q1 K1 (Nat.le_refl _)))
 have REN:=qAA.mk (fun (W:World) (B3:Option Addr) (d3:Nat) (B4:Option Addr) (d4:Nat) p1 p2 p3 p4=>qBN.calls K2 x.f0 x.f1 x.f2 B3 d3 x.f3 B4 d4 x.f4 r e0 W p1 p2 p3 p4 (q2 K2 (Nat.le_refl _)))
 have CPY:=qAA.mk (fun (W:World) (B3:Option Addr) (d3:Nat) (B4:Option Addr) (d4:Nat) p1 p2 p3 p4=>wt.copied11 hv hs (W:=W) (A3:=B3) (c3:=d3) (A4:=B4) (c4:=d4) p1 p2 p3 p4)
 have H3:=qAA.mk h3;have G3:=qAA.mk g3;have H4:=qAA.mk h4;have G4:=qAA.mk g4
 have HC:=qAA.mk hC
 have HCC:=qAA.mk hc
 have HU:=qAA.mk (wt.uin_of hb hl)
 have HRI:=qAA.mk (wt.rin_of hb hl)
 have HUr:=qAA.mk (wt.uin_of hrb (by omega))
 have HRIr:=qAA.mk (wt.rin_of hrb (by omega))
 obtain ⟨y,n1,e1,hy⟩:∃ y n1 e1,wt.dk bs.length (wt.tk (wt.takeS bs (Pl.qBc bs) (Pl.intAt bs) 0))=(y,n1,e1):=⟨_,_,_,rfl⟩
 obtain ⟨z,n2,e2,hz⟩:∃ z n2 e2,wt.dk r.length (wt.tk (wt.takeS r (Pl.qBc r) (Pl.intAt r) 0))=(z,n2,e2):=⟨_,_,_,rfl⟩
 have HY:=qAA.mk hy
 have HZ:=qAA.mk hz
 have SY:=qAA.mk (wt.tk_sm HU.out 0)
 have SZ:=qAA.mk (wt.tk_sm HUr.out 0)
 have SMY:=qAA.mk (show wt.sm 8 y by have q:=wt.dk_sm (n:=bs.length) SY.out;rw [hy] at q;exact q)
 have SMZ:=qAA.mk (show wt.sm 8 z by have q:=wt.dk_sm (n:=r.length) SZ.out;rw [hz] at q;exact q)
 have SR:=qAA.mk (fun (W:World) (B:Option Addr) (d:Nat) (hB:(Kd.int .u8).C W B r.length r)=>Kd.C_string (P:=Try.prog) (c:=d) Try.underlying26 Try.underlying5 Try.underlying9 hB)
 generalize hst:strOfNums r=st at SR
 have b0:(e0 != e0)=false:=bne_self_eq_false e0
 have b1:(e1 != e1)=false:=bne_self_eq_false e1
 have b2:(n1 != n1)=false:=bne_self_eq_false n1
 have b3:(e2 == e2)=true:=beq_self_eq_true e2
 have b4:(n2 == n2)=true:=beq_self_eq_true n2
 clear hst hy hz hrb hrl q1 q2 hv hs h3 g3 h4 g4 hC hc hb hl
 have tk2:=qAA.mk True.intro
 have tk4:=qAA.mk True.intro
 have tk5:=qAA.mk True.intro
 have tk6:=qAA.mk True.intro
 have tk7:=qAA.mk True.intro
 have tk8:=qAA.mk True.intro
 go_enter Try.func7,Try.ntmps7
 go_wp2_with (first | ((with_reducible refine qAj (N:=2) rfl ?_);refine qAf ?hg (N:=2) ?hd (cs:=#[.int .i64 x.f0,.int .i64 x.f1,.string x.f2,.slice A3 x.f3.length c3,.slice A4 x.f4.length c4]) (t:=25) ?hr ?_;(case hd=>rfl);(case hg=>rfl);(case hr=>first | (go_simp;done) | (go_simp;rfl));intro gb hg w1 hbox hb1;have K1:=qAA.mk hbox;have O1:=qAA.mk hb1;clear hb1 hbox hg;have u0:w1.cell? ⟨gb,0,none⟩=some (.int .i64 x.f0):=(qAB K1.out 0).trans rfl;have u1:w1.cell? ⟨gb,1,none⟩=some (.int .i64 x.f1):=(qAB K1.out 1).trans rfl;have u2:w1.cell? ⟨gb,2,none⟩=some (.string x.f2):=(qAB K1.out 2).trans rfl;have u3:w1.cell? ⟨gb,3,none⟩=some (.slice A3 x.f3.length c3):=(qAB K1.out 3).trans rfl;have u4:w1.cell? ⟨gb,4,none⟩=some (.slice A4 x.f4.length c4):=(qAB K1.out 4).trans rfl) | (go_at_call 11;refine (CPY.out _ A3 c3 A4 c4 (Kd.qAe H3.out O1.out) G3.out (Kd.qAe H4.out O1.out) G4.out).mono ?_;rintro e_ w2 ⟨B3,d3,B4,d4,rfl,p1,p2,p3,p4,hb⟩;have P1:=qAA.mk p1;have P2:=qAA.mk p2;have P3:=qAA.mk p3;have P4:=qAA.mk p4;have K2:=qAA.mk (qAW K1.out hb);have O2:=qAA.mk (qAX O1.out hb);clear p1 p2 p3 p4 hb u0 u1 u2 u3 u4) | (go_at_call 10;clear tk2;refine (ENC.out _ B3 d3 B4 d4 P1.out P2.out P3.out P4.out).mono ?_;rintro e_ w3 ⟨Ap,cp,rfl,p1,p2,hb⟩;have CP3:=qAA.mk p1;have CPL:=qAA.mk p2;have K3:=qAA.mk (qAW K2.out hb);have O3:=qAA.mk (qAX O2.out hb);clear p1 p2 hb;have u0:w3.cell? ⟨gb,0,none⟩=some (.int .i64 x.f0):=(qAB K3.out 0).trans rfl;have u1:w3.cell? ⟨gb,1,none⟩=some (.int .i64 x.f1):=(qAB K3.out 1).trans rfl;have u2:w3.cell? ⟨gb,2,none⟩=some (.string x.f2):=(qAB K3.out 2).trans rfl;have u3:w3.cell? ⟨gb,3,none⟩=some (.slice A3 x.f3.length c3):=(qAB K3.out 3).trans rfl;have u4:w3.cell? ⟨gb,4,none⟩=some (.slice A4 x.f4.length c4):=(qAB K3.out 4).trans rfl) | (go_at_call 24;refine (REN.out _ A3 c3 A4 c4 (Kd.qAe H3.out O3.out) G3.out (Kd.qAe H4.out O3.out) G4.out).mono ?_;rintro e_ w4 ⟨Aq,cq,rfl,p1,p2,hb⟩;have CQ4:=qAA.mk p1;have CQL:=qAA.mk p2;have O4:=qAA.mk (qAX O3.out hb);have sp:=SR.out w4 Ap cp (Kd.qAe CP3.out hb);have sq:=SR.out w4 Aq cq p1;have L4:=qAA.mk (Below.refl w4.heap.size w4);have C4:=qAA.mk (Kd.qAe HC.out O4.out);clear p1 p2 hb u0 u1 u2 u3 u4) | (go_at_call 25;clear tk4;refine (wt.dec25 HU.out HY.out C4.out HCC.out).mono ?_;rintro e_ w5 ⟨Y3,e3,Y4,e4,rfl,ht,hb⟩;unfold wt.vl;have T5:=qAA.mk ht;have L5:=qAA.mk hb;clear ht hb sp sq) | ((with_reducible refine qAY (p:=9) rfl ?_);clear tk5;refine wt.qAk rfl rfl 9 _ rfl w5.heap.size rfl (.int .i64 y.f0) (.int .i64 y.f1) (.string y.f2) (.slice Y3 y.f3.length e3) (.slice Y4 y.f4.length e4) rfl (fun q hq=>by simp at hq;rcases hq with rfl | rfl | rfl | rfl | rfl <;> rfl) _ rfl (by simpa using heap_alloc_new w5 _) ?_;intro w6 hres hgr;have L6:=qAA.mk (qAX L5.out (wt.qBi hgr));have Y6:=qAA.mk (wt.By.mk (T5.out.below (wt.qBi hgr) (Nat.le_refl _)) hres (wt.qBi hgr).size);clear hres hgr) | (go_at_call 26;clear tk6;refine (wt.dec26 HU.out HRI.out HY.out SY.out (Kd.qAe C4.out L6.out) HCC.out).mono ?_;rintro e_ w7 ⟨V3,v3,V4,v4,rfl,ht,hb⟩;unfold wt.vl;have T7:=qAA.mk ht;have L7:=qAA.mk (qAX L6.out hb);have Y7:=qAA.mk (Y6.out.below hb);clear ht hb) | ((with_reducible refine qAY (p:=12) rfl ?_);clear tk7;refine wt.qAk rfl rfl 12 _ rfl w7.heap.size rfl (.int .i64 y.f0) (.int .i64 y.f1) (.string y.f2) (.slice V3 y.f3.length v3) (.slice V4 y.f4.length v4) rfl (fun q hq=>by simp at hq;rcases hq with rfl | rfl | rfl | rfl | rfl <;> rfl) _ rfl (by simpa using heap_alloc_new w7 _) ?_;intro w8 hres hgr;have L8:=qAA.mk (qAX L7.out (wt.qBi hgr));have Y8:=qAA.mk (Y7.out.below (wt.qBi hgr));have V8:=qAA.mk (wt.By.mk (T7.out.below (wt.qBi hgr) (Nat.le_refl _)) hres (wt.qBi hgr).size);have Z56:=qAA.mk (show w5.heap.size < w7.heap.size from qAg Y7.out.x);have sa5:=qAA.mk (show w4.heap.size≤w5.heap.size from L5.out.size);have sa7:=qAA.mk (show w4.heap.size≤w7.heap.size from L7.out.size);have u0:w8.cell? ⟨w5.heap.size,0,none⟩=some (.int .i64 y.f0):=(qAB Y8.out.x 0).trans rfl;have u1:w8.cell? ⟨w5.heap.size,1,none⟩=some (.int .i64 y.f1):=(qAB Y8.out.x 1).trans rfl;have u2:w8.cell? ⟨w5.heap.size,2,none⟩=some (.string y.f2):=(qAB Y8.out.x 2).trans rfl;have u3:w8.cell? ⟨w5.heap.size,3,none⟩=some (.slice Y3 y.f3.length e3):=(qAB Y8.out.x 3).trans rfl;have u4:w8.cell? ⟨w5.heap.size,4,none⟩=some (.slice Y4 y.f4.length e4):=(qAB Y8.out.x 4).trans rfl;have v0:w8.cell? ⟨w7.heap.size,0,none⟩=some (.int .i64 y.f0):=(qAB V8.out.x 0).trans rfl;have v1:w8.cell? ⟨w7.heap.size,1,none⟩=some (.int .i64 y.f1):=(qAB V8.out.x 1).trans rfl;have v2:w8.cell? ⟨w7.heap.size,2,none⟩=some (.string y.f2):=(qAB V8.out.x 2).trans rfl;have v3:w8.cell? ⟨w7.heap.size,3,none⟩=some (.slice V3 y.f3.length v3):=(qAB V8.out.x 3).trans rfl;have v4:w8.cell? ⟨w7.heap.size,4,none⟩=some (.slice V4 y.f4.length v4):=(qAB V8.out.x 4).trans rfl;clear hres hgr) | (go_at_call 13;clear tk8;refine (wt.same13 SMY.out Y8.out.t V8.out.t).mono ?_;rintro e_ w9 ⟨rfl,hb⟩;have L9:=qAA.mk (qAX L8.out hb);have Y9:=qAA.mk (Y8.out.below hb);have V9:=qAA.mk (V8.out.below hb);clear hb u0 v0 u1 v1 u2 v2 u3 v3 u4 v4) | (go_at_call 25;refine (wt.dec25 HUr.out HZ.out (Kd.qAe CQ4.out L9.out) CQL.out).mono ?_;rintro e_ w10 ⟨Z3,k3,Z4,k4,rfl,ht,hb⟩;unfold wt.vl;have T10:=qAA.mk ht;have L10:=qAA.mk (qAX L9.out hb);have Y10:=qAA.mk (Y9.out.below hb);have V10:=qAA.mk (V9.out.below hb);clear ht hb) | ((with_reducible refine qAY (p:=9) rfl ?_);refine wt.qAk rfl rfl 9 _ rfl w5.heap.size rfl (.int .i64 z.f0) (.int .i64 z.f1) (.string z.f2) (.slice Z3 z.f3.length k3) (.slice Z4 z.f4.length k4) rfl (fun q hq=>by simp at hq;rcases hq with rfl | rfl | rfl | rfl | rfl <;> rfl) _ rfl Y10.out.x ?_;intro w11 hres hgr;have L11:=qAA.mk (L10.out.grown hgr L10.out.size (fun k hk=>by have:=Option.some.inj hk;have:=sa5.out;omega));have V11:=qAA.mk ((hgr.block _ (qAg V10.out.x) (fun e_=>by have:=Option.some.inj e_;have:=Z56.out;omega)).trans V10.out.x);have q9:=qAg V9.out.x;have q10:=T10.out;have Z11:=qAA.mk (wt.By.mk (q10.move (fun k h1 h2=>hgr.block k h2 (fun e_=>by have:=Option.some.inj e_;have:=Z56.out;omega))) hres hgr.size);have Z911:=qAA.mk (show w7.heap.size < w9.heap.size from q9);clear q9 q10;clear hres hgr) | (go_at_call 26;refine (wt.dec26 HUr.out HRIr.out HZ.out SZ.out (Kd.qAe CQ4.out L11.out) CQL.out).mono ?_;rintro e_ w12 ⟨U3,m3,U4,m4,rfl,ht,hb⟩;unfold wt.vl;have T12:=qAA.mk ht;have L12:=qAA.mk (qAX L11.out hb);have Z12:=qAA.mk (Z11.out.below hb);have V12:=qAA.mk (qAW V11.out hb);have q11:=qAA.mk (show w7.heap.size < w11.heap.size from qAg V11.out);clear ht hb) | ((with_reducible refine qAY (p:=12) rfl ?_);refine wt.qAk rfl rfl 12 _ rfl w7.heap.size rfl (.int .i64 z.f0) (.int .i64 z.f1) (.string z.f2) (.slice U3 z.f3.length m3) (.slice U4 z.f4.length m4) rfl (fun q hq=>by simp at hq;rcases hq with rfl | rfl | rfl | rfl | rfl <;> rfl) _ rfl V12.out ?_;intro w13 hres hgr;have L13:=qAA.mk (L12.out.grown hgr L12.out.size (fun k hk=>by have:=Option.some.inj hk;have:=sa7.out;omega));have Z13:=qAA.mk (Z12.out.grown hgr (fun e_=>by have:=Z56.out;omega) Z911.out);have U13:=qAA.mk (wt.By.mk (T12.out.move (fun k h1 h2=>hgr.block k h2 (fun e_=>by have:=Option.some.inj e_;have:=q11.out;omega))) hres hgr.size);clear hres hgr) | (go_at_call 10;refine (wt.encBool1 (W:=w13)).mono ?_;rintro e_ w14 ⟨Au,cu,rfl,p1,hb⟩;have L14:=qAA.mk (qAX L13.out hb);have Z14:=qAA.mk (Z13.out.below hb);have U14:=qAA.mk (U13.out.below hb);have CU:=qAA.mk p1;clear p1 hb;have u0:w14.cell? ⟨w5.heap.size,0,none⟩=some (.int .i64 z.f0):=(qAB Z14.out.x 0).trans rfl;have u1:w14.cell? ⟨w5.heap.size,1,none⟩=some (.int .i64 z.f1):=(qAB Z14.out.x 1).trans rfl;have u2:w14.cell? ⟨w5.heap.size,2,none⟩=some (.string z.f2):=(qAB Z14.out.x 2).trans rfl;have u3:w14.cell? ⟨w5.heap.size,3,none⟩=some (.slice Z3 z.f3.length k3):=(qAB Z14.out.x 3).trans rfl;have u4:w14.cell? ⟨w5.heap.size,4,none⟩=some (.slice Z4 z.f4.length k4):=(qAB Z14.out.x 4).trans rfl;have v0:w14.cell? ⟨w7.heap.size,0,none⟩=some (.int .i64 z.f0):=(qAB U14.out.x 0).trans rfl;have v1:w14.cell? ⟨w7.heap.size,1,none⟩=some (.int .i64 z.f1):=(qAB U14.out.x 1).trans rfl;have v2:w14.cell? ⟨w7.heap.size,2,none⟩=some (.string z.f2):=(qAB U14.out.x 2).trans rfl;have v3:w14.cell? ⟨w7.heap.size,3,none⟩=some (.slice U3 z.f3.length m3):=(qAB U14.out.x 3).trans rfl;have v4:w14.cell? ⟨w7.heap.size,4,none⟩=some (.slice U4 z.f4.length m4):=(qAB U14.out.x 4).trans rfl) | (go_at_call 13;refine (wt.same13 SMZ.out Z14.out.t U14.out.t).mono ?_;rintro e_ w15 ⟨rfl,hb⟩;have L15:=qAA.mk (qAX L14.out hb);have su:=wt.str2 (c:=cu) (Kd.qAe CU.out hb);clear hb u0 v0 u1 v1 u2 v2 u3 v3 u4 v4))
 go_ret
 exact ⟨rfl,qAh O4.out O4.out.size L15.out⟩
end
end Go.Proofs.Ytnkbobblnhaclaa.X
