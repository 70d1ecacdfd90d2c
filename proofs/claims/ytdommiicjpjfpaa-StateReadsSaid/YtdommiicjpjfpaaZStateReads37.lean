import Derived.Test.YtdommiicjpjfpaaZStateReads3
import Derived.Test.YtdommiicjpjfpaaZStateReads2
import Derived.Test.YtdommiicjpjfpaaZStateReads4
import Derived.WalkLawsBesides
import Derived.Laws.Pointers
import Derived.Shelf.Abstract
import Derived.Deep.DeepMust
import Derived.Deep.QuietTactic
import Derived.BigQuiet
import Derived.Test.YtdommiicjpjfpaaZStateReads33
import Derived.Test.YtdommiicjpjfpaaZStateReads25
set_option linter.unusedVariables false
set_option linter.unusedSimpArgs false
namespace Go.Proofs.Ytdommiicjpjfpaa.X
open Go.RowKit Go.Proofs.YtdommiicjpjfpaaW.PrintWords Go.Proofs.YtdommiicjpjfpaaW.PrintLast Go.Proofs.YtdommiicjpjfpaaW.PrintMore Go.Proofs.YtdommiicjpjfpaaW
section
set_option maxHeartbeats 4000000
set_option maxRecDepth 100000
def sa.RB (w:World) (g:Nat) (A:Option Addr) (n c:Nat) (a wq f p:Int):Prop:=w.heap[g]?=some (.cells #[.slice A n c,.int .i64 a,.int .i64 wq,.int .i64 f,.int .i64 p] 92 (0,0))
section
variable {w w1:World} {g:Nat} {A:Option Addr} {n c:Nat} {a wq f p:Int}
theorem sa.RB.c0 (h:sa.RB w g A n c a wq f p):w.cell? ⟨g,0,none⟩=some (.slice A n c):=(qAB h 0).trans rfl
theorem sa.RB.c1 (h:sa.RB w g A n c a wq f p):w.cell? ⟨g,1,none⟩=some (.int .i64 a):=(qAB h 1).trans rfl
theorem sa.RB.c2 (h:sa.RB w g A n c a wq f p):w.cell? ⟨g,2,none⟩=some (.int .i64 wq):=(qAB h 2).trans rfl
theorem sa.RB.c3 (h:sa.RB w g A n c a wq f p):w.cell? ⟨g,3,none⟩=some (.int .i64 f):=(qAB h 3).trans rfl
theorem sa.RB.c4 (h:sa.RB w g A n c a wq f p):w.cell? ⟨g,4,none⟩=some (.int .i64 p):=(qAB h 4).trans rfl
theorem sa.RB.fz (h:sa.RB w g A n c a wq f p) (o:Nat):w.frozen? ⟨g,o,none⟩=false:=qAC h o
theorem sa.RB.set1 (h:sa.RB w g A n c a wq f p) (x:Int):sa.RB (w.setCell ⟨g,1,none⟩ (.int .i64 x)) g A n c x wq f p:=qAy h 1 (.int .i64 x) rfl
theorem sa.RB.set2 (h:sa.RB w g A n c a wq f p) (x:Int):sa.RB (w.setCell ⟨g,2,none⟩ (.int .i64 x)) g A n c a x f p:=qAy h 2 (.int .i64 x) rfl
theorem sa.RB.set3 (h:sa.RB w g A n c a wq f p) (x:Int):sa.RB (w.setCell ⟨g,3,none⟩ (.int .i64 x)) g A n c a wq x p:=qAy h 3 (.int .i64 x) rfl
theorem sa.RB.set4 (h:sa.RB w g A n c a wq f p) (x:Int):sa.RB (w.setCell ⟨g,4,none⟩ (.int .i64 x)) g A n c a wq f x:=qAy h 4 (.int .i64 x) rfl
theorem sa.RB.below (h:sa.RB w g A n c a wq f p) (hb:Below w.heap.size w w1):sa.RB w1 g A n c a wq f p:=qAX h hb
end
theorem sa.cells_fr {w w1:World} {g t:Nat} {ob:Array Value} {xs:List Int} {A':Option Addr} {n':Nat} (h:(Kd.int .u8).C w A' n' xs) (hB:w.heap[g]?=some (.cells ob t (0,0))) (hno:∀ (o:Nat) x,ob[o]? ≠ some (.int .u8 x)) (hF:sa.Fr g w w1):(Kd.int .u8).C w1 A' n' xs:=by
 refine ⟨h.1,h.2.1,fun hp => ?_⟩
 obtain ⟨ad,e,hc⟩:=h.2.2 hp
 refine ⟨ad,e,fun j p hj => ?_⟩
 obtain ⟨cs,h1,h2,h3⟩:=hc j p hj
 refine ⟨cs,h1,h2,fun i u hu => ?_⟩
 have h4:=h3 i u hu
 have hlt:=qs4 w _ h4
 have hne:(ad.add (j * (Kd.int .u8).sz+i)).block ≠ g:=by
  intro e1
  have h5:cs=[.int .u8 p]:=h2
  subst h5
  cases i with
  | succ i=>simp at hu
  | zero =>
   simp at hu
   subst hu
   unfold World.cell? at h4
   rw [e1,hB] at h4
   simp only at h4
   split at h4
   ·cases h4
   ·exact hno _ _ h4
 have h6:=hF.2 _ hlt hne
 rw [← h4]
 simp [World.cell?,h6]
theorem sa.qB3 {w w1:World} {g:Nat} {A A':Option Addr} {n c n':Nat} {a wq f p:Int} {xs:List Int} (h:(Kd.int .u8).C w A' n' xs) (hB:sa.RB w g A n c a wq f p) (hF:sa.Fr g w w1):(Kd.int .u8).C w1 A' n' xs:=by
 refine sa.cells_fr h hB (fun o x => ?_) hF
 match o with
 | 0=>simp
 | 1=>simp
 | 2=>simp
 | 3=>simp
 | 4=>simp
 | o+5=>simp
structure sa.RNx (w0 w w':World) (g:Nat) (A:Option Addr) (m c:Nat) (a wq f p:Int):Prop where
 blk:sa.RB w' g A m c a wq f p
 fr:sa.Fr g w w'
 bel:Below w0.heap.size w0 w'
def sa.RNb (w0 w w':World) (g:Nat) (A:Option Addr) (m c:Nat) (f p:Int):Prop:=∃ a wq,sa.RNx w0 w w' g A m c a wq f p
def sa.RGot {α:Type} (r:sa.R3 α) (enc:α→Value) (w0 w:World) (g:Nat) (A:Option Addr) (m c:Nat) (p:Int) (e:Ending) (w':World):Prop :=
 match r with
 | .ok x a' l'=>e=.returned (enc x)∧sa.RNx w0 w w' g A m c a' (2048 - l') 0 p
 | .bad f q=>(∃ y,e=.returned (enc y))∧sa.RNb w0 w w' g A m c f q
theorem sa.qCS {w0 w:World} {g:Nat} {A:Option Addr} {m c:Nat} {a wq p:Int} (hb:Below w0.heap.size w0 w) (hg:w0.heap.size≤g) (hB:sa.RB w g A m c a wq 0 p) (e q:Int):Calls Try.prog 75 #[.pointer (some ⟨g,0,none⟩),.int .i64 e,.int .i64 q] w fun en w'=>en=.returned (.tuple #[])∧sa.RNx w0 w w' g A m c a wq e q:=by
 have HB:=zA hB
 have HBB:=zA hb
 have HGG:=zA hg
 have h3:=hB.c3
 have f3:=hB.fz 3
 have h4:=(hB.set3 e).c4
 have f4:=(hB.set3 e).fz 4
 clear hB hb hg
 go_enter Try.func75,Try.ntmps75
 go_wp2
 go_end0
 exact ⟨rfl,(HB.out.set3 e).set4 q,(sa.Fr.set _ _ _ _).trans (sa.Fr.set _ _ _ _),(HBB.out.setCell HGG.out _).setCell HGG.out _⟩
theorem sa.heavY {w0 w:World} {g:Nat} {A:Option Addr} {m c:Nat} {a wq p:Int} (hb:Below w0.heap.size w0 w) (hg:w0.heap.size≤g) (hB:sa.RB w g A m c a wq 0 p) (n q:Int) (hw:0≤wq) (hn:0≤n) (h:wq+n≤2048):Calls Try.prog 76 #[.pointer (some ⟨g,0,none⟩),.int .i64 n,.int .i64 q] w fun en w'=>en=.returned (.tuple #[])∧sa.RNx w0 w w' g A m c a (wq+n) 0 p:=by
 have HB:=zA hB
 have HBB:=zA hb
 have HGG:=zA hg
 have h2:=hB.c2
 have f2:=hB.fz 2
 have hwr:wrap64 (wq+n)=wq+n:=by unfold wrap64;omega
 have d1:decide (wq+n > 2048)=false:=zF (by omega)
 have d2:decide (2048 < wq+n)=false:=zF (by omega)
 clear hB hb hg h hw hn
 go_enter Try.func76,Try.ntmps76
 go_wp2
 go_end0
 exact ⟨rfl,HB.out.set2 _,sa.Fr.set _ _ _ _,HBB.out.setCell HGG.out _⟩
theorem sa.heavN {w0 w:World} {g:Nat} {A:Option Addr} {m c:Nat} {a wq p:Int} (hb:Below w0.heap.size w0 w) (hg:w0.heap.size≤g) (hB:sa.RB w g A m c a wq 0 p) (n q:Int) (hw:wq≤2048) (hn:n≤2048) (h:2048 < wq+n):Calls Try.prog 76 #[.pointer (some ⟨g,0,none⟩),.int .i64 n,.int .i64 q] w fun en w'=>en=.returned (.tuple #[])∧sa.RNb w0 w w' g A m c 42 q:=by
 have HB:=zA hB
 have HBB:=zA hb
 have HGG:=zA hg
 have h2:=hB.c2
 have f2:=hB.fz 2
 have hwr:wrap64 (wq+n)=wq+n:=by unfold wrap64;omega
 have d1:decide (wq+n > 2048)=true:=zT h
 have d2:decide (2048 < wq+n)=true:=zT h
 clear hB hb hg h hw hn
 go_enter Try.func76,Try.ntmps76
 go_wp2_with (go_at_call 75;refine (sa.qCS (HBB.out.setCell HGG.out _) HGG.out (HB.out.set2 _) 42 q).mono ?_;rintro e_ w1 ⟨rfl,hx⟩;have HX:=zA hx;clear hx)
 go_end0
 exact ⟨rfl,_,_,HX.out.blk,(sa.Fr.set _ _ _ _).trans HX.out.fr,HX.out.bel⟩
structure sa.Rin (bs:List Int) (u i:Int→Int × Int × Int):Prop where
 U:∃ K,∀ a,qAN.f K bs a=some (u a)
 I:∃ K,∀ a,qBS.f K bs a=some (i a)
theorem sa.ruint1 {bs:List Int} {m:Nat} {K:Nat} {r1 r2 r3 a:Int} {w:World} {A:Option Addr} {c:Nat} (hK:qAN.f K bs a=some (r1,r2,r3)) (hC:(Kd.int .u8).C w A m bs) (hc:m≤c):Calls Try.prog 42 #[.slice A m c,.int .i64 a] w fun e w'=>e=.returned (.tuple #[.int .u64 r1,.int .i64 r2,.int .i64 r3])∧qAf w w':=by
 obtain rfl:=hC.1
 exact qAN.calls K A c bs a r1 r2 r3 w hC hc hK
theorem sa.rint1 {bs:List Int} {m:Nat} {K:Nat} {r1 r2 r3 a:Int} {w:World} {A:Option Addr} {c:Nat} (hK:qBS.f K bs a=some (r1,r2,r3)) (hC:(Kd.int .u8).C w A m bs) (hc:m≤c):Calls Try.prog 77 #[.slice A m c,.int .i64 a] w fun e w'=>e=.returned (.tuple #[.int .i64 r1,.int .i64 r2,.int .i64 r3])∧qAf w w':=by
 obtain rfl:=hC.1
 exact qBS.calls K A c bs a r1 r2 r3 w hC hc hK
theorem sa.rnum1 {bs:List Int} {u i:Int→Int × Int × Int} (hU:sa.Uin bs u i) (hR:sa.Rin bs u i) {w0 w:World} {g:Nat} {A:Option Addr} {c:Nat} {a wq p:Int} (hb:Below w0.heap.size w0 w) (hg:w0.heap.size≤g) (hB:sa.RB w g A bs.length c a wq 0 p) (hC:(Kd.int .u8).C w A bs.length bs) (hc:bs.length≤c) (tag times:Int) (ht:1≤times∧times≤2) (hw:0≤wq∧wq≤2048) :
  Calls Try.prog 78 #[.pointer (some ⟨g,0,none⟩),.int .i64 tag,.int .i64 times] w (sa.RGot (sa.qBe u tag times a (2048 - wq)) (fun n=>.int .i64 n) w0 w g A bs.length c p):=by
 have hu:=(hU.R a)
 obtain ⟨K,hK⟩:=hR.U
 have HK:=zA (hK a)
 unfold sa.qBe
 obtain ⟨r1,r2,r3,hr⟩:∃ r1 r2 r3,u a=(r1,r2,r3):=⟨_,_,_,rfl⟩
 rw [hr] at HK hu ⊢
 dsimp only at hu ⊢
 have HB:=zA hB
 have HC:=zA hC
 have HCC:=zA hc
 have HBB:=zA hb
 have HGG:=zA hg
 have h0:=hB.c0
 have h1:=hB.c1
 generalize bs.length=m at *
 by_cases he:r3 ≠ 0
 ·rw [if_pos he]
  have d1:(r3 != 0)=true:=bne_iff_ne.2 he
  have d2:(r3 == 0)=false:=beq_eq_false_iff_ne.2 he
  have d3:decide (r3=0)=false:=zF he
  clear hK hr hB hC hc hb hg hU hR he hu ht hw h0 h1
  go_enter Try.func78,Try.ntmps78
  go_wp2
  refine qAz (n:=16) (S:=fun w'=>w'.cell? ⟨g,0,none⟩=some (.slice A m c)∧w'.cell? ⟨g,1,none⟩=some (.int .i64 a)) (ds:=[]) #[qF,qF,qF,qF,qF,qF,qF,qF,qF,qF,qF,qF,qF,qF,qF,qF] (by kernel_rfl) rfl rfl ⟨(HB.out.below (qAK (Below.refl _ _))).c0,(HB.out.below (qAK (Below.refl _ _))).c1⟩ (fun hHeld => ?_)
  generalize hwd:w.drew=wd at hHeld ⊢
  have Bd:=zA (hwd▸HB.out.below (qAK (Below.refl _ _)))
  have FRd:=zA (hwd▸sa.Fr.of_below (g:=g) (qAK (Below.refl _ _)))
  have BLd:=zA (hwd▸qAK HBB.out)
  clear hwd
  refine pU 0 11 ?_
  refine pU 1 12 ?_
  refine pU 2 13 ?_
  refine pU 4 15 ?_
  refine pU 5 16 ?_
  refine pU 6 17 ?_
  refine tK 3 14 hHeld ?_
  refine tK 7 18 hHeld ?_
  refine one_ (i:=8) (N:=some 19) #[qT,qT,qT,qT,qT,qT,qT,qT,qT,qF,qF,qF,qF,qF,qF,qF] rfl rfl (by kernel_rfl) (by decide) (fun K hK => ?_)
  refine qBZ Try.func42 (by kernel_rfl) rfl #[.slice A m c,.int .i64 a] (by rfl) rfl rfl (by (try simp only [List.map_toArray,List.map_cons,List.map_nil]);first | done | rfl) ?_
  refine (sa.ruint1 HK.out (sa.qB3 HC.out HB.out FRd.out) HCC.out).mono ?_
  rintro e w2 ⟨rfl,hd⟩
  refine ⟨_,rfl, ?_⟩
  have B2:=zA (Bd.out.below hd.below)
  have FR2:=zA (FRd.out.trans (sa.Fr.of_below hd.below))
  have BL2:=zA (qAY BLd.out BLd.out.size hd.below)
  clear hd
  refine hK.out _ _ ⟨B2.out.c0,B2.out.c1⟩ (fun hHeld => ?_)
  clear hK K
  refine qA3 (a' := ?_) ?_ ?_
  rotate_left
  ·show Act.put _ (some 19) _=_
   simp only [Act.put,qs1,qs2,qs3,qAZ,qAb]
   rfl
  refine pU 9 10 ?_
  refine pU 10 20 ?_
  refine pU 11 21 ?_
  refine pU 12 22 ?_
  refine pU 13 7 ?_
  refine pU 14 8 ?_
  refine pU 15 9 ?_
  refine qBL (by kernel_rfl) ?_
  have h1:=B2.out.c1
  go_wp2_with (go_at_call 75;refine (sa.qCS BL2.out HGG.out B2.out 41 a).mono ?_;rintro e_ w3 ⟨rfl,hx⟩;have HX:=zA hx;clear hx)
  go_ret
  exact ⟨⟨0,rfl⟩,_,_,HX.out.blk,FR2.out.trans HX.out.fr,HX.out.bel⟩
 rw [if_neg he]
 have he0:r3=0:=Classical.byContradiction he
 subst he0
 have hwd:wrap64 (2048 - wq)=2048 - wq:=by unfold wrap64;omega
 by_cases h2:r1 > 2048
 ·have hd:(2048 - wq) / times < r1:=by
   have:(2048 - wq) / times≤2048 - wq:=Int.ediv_le_self _ (by omega)
   omega
  rw [if_pos hd]
  have d1:decide (r1 > 2048)=true:=zT h2
  have d2:decide (2048 < r1)=true:=zT h2
  clear hK hr hB hC hc hb hg hU hR he hu ht hw h0 h1 hd h2
  go_enter Try.func78,Try.ntmps78
  go_wp2
  refine qAz (n:=16) (S:=fun w'=>w'.cell? ⟨g,0,none⟩=some (.slice A m c)∧w'.cell? ⟨g,1,none⟩=some (.int .i64 a)) (ds:=[]) #[qF,qF,qF,qF,qF,qF,qF,qF,qF,qF,qF,qF,qF,qF,qF,qF] (by kernel_rfl) rfl rfl ⟨(HB.out.below (qAK (Below.refl _ _))).c0,(HB.out.below (qAK (Below.refl _ _))).c1⟩ (fun hHeld => ?_)
  generalize hwd:w.drew=wd at hHeld ⊢
  have Bd:=zA (hwd▸HB.out.below (qAK (Below.refl _ _)))
  have FRd:=zA (hwd▸sa.Fr.of_below (g:=g) (qAK (Below.refl _ _)))
  have BLd:=zA (hwd▸qAK HBB.out)
  clear hwd
  refine pU 0 11 ?_
  refine pU 1 12 ?_
  refine pU 2 13 ?_
  refine pU 4 15 ?_
  refine pU 5 16 ?_
  refine pU 6 17 ?_
  refine tK 3 14 hHeld ?_
  refine tK 7 18 hHeld ?_
  refine one_ (i:=8) (N:=some 19) #[qT,qT,qT,qT,qT,qT,qT,qT,qT,qF,qF,qF,qF,qF,qF,qF] rfl rfl (by kernel_rfl) (by decide) (fun K hK => ?_)
  refine qBZ Try.func42 (by kernel_rfl) rfl #[.slice A m c,.int .i64 a] (by rfl) rfl rfl (by (try simp only [List.map_toArray,List.map_cons,List.map_nil]);first | done | rfl) ?_
  refine (sa.ruint1 HK.out (sa.qB3 HC.out HB.out FRd.out) HCC.out).mono ?_
  rintro e w2 ⟨rfl,hd⟩
  refine ⟨_,rfl, ?_⟩
  have B2:=zA (Bd.out.below hd.below)
  have FR2:=zA (FRd.out.trans (sa.Fr.of_below hd.below))
  have BL2:=zA (qAY BLd.out BLd.out.size hd.below)
  clear hd
  refine hK.out _ _ ⟨B2.out.c0,B2.out.c1⟩ (fun hHeld => ?_)
  clear hK K
  refine qA3 (a' := ?_) ?_ ?_
  rotate_left
  ·show Act.put _ (some 19) _=_
   simp only [Act.put,qs1,qs2,qs3,qAZ,qAb]
   rfl
  refine pU 9 10 ?_
  refine pU 10 20 ?_
  refine pU 11 21 ?_
  refine pU 12 22 ?_
  refine pU 13 7 ?_
  refine pU 14 8 ?_
  refine pU 15 9 ?_
  refine qBL (by kernel_rfl) ?_
  have h1:=B2.out.c1
  go_wp2_with (go_at_call 75;refine (sa.qCS BL2.out HGG.out B2.out 42 tag).mono ?_;rintro e_ w3 ⟨rfl,hx⟩;have HX:=zA hx;clear hx)
  go_ret
  exact ⟨⟨0,rfl⟩,_,_,HX.out.blk,FR2.out.trans HX.out.fr,HX.out.bel⟩
 have d1:decide (r1 > 2048)=false:=zF h2
 have d2:decide (2048 < r1)=false:=zF h2
 have hcv:IntKind.i64.wrap r1=r1:=by rw [IntKind.wrap_i64];omega
 have htm:0≤times * r1∧times * r1≤4096:=by
  rcases (show times=1 ∨ times=2 by omega) with rfl | rfl <;> omega
 have hmul:wrap64 (times * r1)=times * r1:=by unfold wrap64;omega
 have hiff:(2048 - wq) / times < r1 ↔ times * r1 > 2048 - wq:=by
  rcases (show times=1 ∨ times=2 by omega) with rfl | rfl <;> omega
 by_cases h3:times * r1 > 2048 - wq
 ·rw [if_pos (hiff.2 h3)]
  have d4:decide (times * r1 > 2048 - wq)=true:=zT h3
  have d5:decide (2048 - wq < times * r1)=true:=zT h3
  clear hK hr hB hC hc hb hg hU hR he hu ht hw h0 h1 h2 htm hiff h3
  go_enter Try.func78,Try.ntmps78
  go_wp2
  refine qAz (n:=16) (S:=fun w'=>w'.cell? ⟨g,0,none⟩=some (.slice A m c)∧w'.cell? ⟨g,1,none⟩=some (.int .i64 a)) (ds:=[]) #[qF,qF,qF,qF,qF,qF,qF,qF,qF,qF,qF,qF,qF,qF,qF,qF] (by kernel_rfl) rfl rfl ⟨(HB.out.below (qAK (Below.refl _ _))).c0,(HB.out.below (qAK (Below.refl _ _))).c1⟩ (fun hHeld => ?_)
  generalize hwd:w.drew=wd at hHeld ⊢
  have Bd:=zA (hwd▸HB.out.below (qAK (Below.refl _ _)))
  have FRd:=zA (hwd▸sa.Fr.of_below (g:=g) (qAK (Below.refl _ _)))
  have BLd:=zA (hwd▸qAK HBB.out)
  clear hwd
  refine pU 0 11 ?_
  refine pU 1 12 ?_
  refine pU 2 13 ?_
  refine pU 4 15 ?_
  refine pU 5 16 ?_
  refine pU 6 17 ?_
  refine tK 3 14 hHeld ?_
  refine tK 7 18 hHeld ?_
  refine one_ (i:=8) (N:=some 19) #[qT,qT,qT,qT,qT,qT,qT,qT,qT,qF,qF,qF,qF,qF,qF,qF] rfl rfl (by kernel_rfl) (by decide) (fun K hK => ?_)
  refine qBZ Try.func42 (by kernel_rfl) rfl #[.slice A m c,.int .i64 a] (by rfl) rfl rfl (by (try simp only [List.map_toArray,List.map_cons,List.map_nil]);first | done | rfl) ?_
  refine (sa.ruint1 HK.out (sa.qB3 HC.out HB.out FRd.out) HCC.out).mono ?_
  rintro e w2 ⟨rfl,hd⟩
  refine ⟨_,rfl, ?_⟩
  have B2:=zA (Bd.out.below hd.below)
  have FR2:=zA (FRd.out.trans (sa.Fr.of_below hd.below))
  have BL2:=zA (qAY BLd.out BLd.out.size hd.below)
  clear hd
  refine hK.out _ _ ⟨B2.out.c0,B2.out.c1⟩ (fun hHeld => ?_)
  clear hK K
  refine qA3 (a' := ?_) ?_ ?_
  rotate_left
  ·show Act.put _ (some 19) _=_
   simp only [Act.put,qs1,qs2,qs3,qAZ,qAb]
   rfl
  refine pU 9 10 ?_
  refine pU 10 20 ?_
  refine pU 11 21 ?_
  refine pU 12 22 ?_
  refine pU 13 7 ?_
  refine pU 14 8 ?_
  refine pU 15 9 ?_
  refine qBL (by kernel_rfl) ?_
  have h1:=B2.out.c1
  have h2:=B2.out.c2
  go_wp2_with (go_at_call 75;refine (sa.qCS BL2.out HGG.out B2.out 42 tag).mono ?_;rintro e_ w3 ⟨rfl,hx⟩;have HX:=zA hx;clear hx)
  go_ret
  exact ⟨⟨0,rfl⟩,_,_,HX.out.blk,FR2.out.trans HX.out.fr,HX.out.bel⟩
 ·rw [if_neg (fun q=>h3 (hiff.1 q))]
  have d4:decide (times * r1 > 2048 - wq)=false:=zF h3
  have d5:decide (2048 - wq < times * r1)=false:=zF h3
  clear hK hr hB hC hc hb hg hU hR he hu ht hw h0 h1 h2 htm hiff h3
  go_enter Try.func78,Try.ntmps78
  go_wp2
  refine qAz (n:=16) (S:=fun w'=>w'.cell? ⟨g,0,none⟩=some (.slice A m c)∧w'.cell? ⟨g,1,none⟩=some (.int .i64 a)) (ds:=[]) #[qF,qF,qF,qF,qF,qF,qF,qF,qF,qF,qF,qF,qF,qF,qF,qF] (by kernel_rfl) rfl rfl ⟨(HB.out.below (qAK (Below.refl _ _))).c0,(HB.out.below (qAK (Below.refl _ _))).c1⟩ (fun hHeld => ?_)
  generalize hwd:w.drew=wd at hHeld ⊢
  have Bd:=zA (hwd▸HB.out.below (qAK (Below.refl _ _)))
  have FRd:=zA (hwd▸sa.Fr.of_below (g:=g) (qAK (Below.refl _ _)))
  have BLd:=zA (hwd▸qAK HBB.out)
  clear hwd
  refine pU 0 11 ?_
  refine pU 1 12 ?_
  refine pU 2 13 ?_
  refine pU 4 15 ?_
  refine pU 5 16 ?_
  refine pU 6 17 ?_
  refine tK 3 14 hHeld ?_
  refine tK 7 18 hHeld ?_
  refine one_ (i:=8) (N:=some 19) #[qT,qT,qT,qT,qT,qT,qT,qT,qT,qF,qF,qF,qF,qF,qF,qF] rfl rfl (by kernel_rfl) (by decide) (fun K hK => ?_)
  refine qBZ Try.func42 (by kernel_rfl) rfl #[.slice A m c,.int .i64 a] (by rfl) rfl rfl (by (try simp only [List.map_toArray,List.map_cons,List.map_nil]);first | done | rfl) ?_
  refine (sa.ruint1 HK.out (sa.qB3 HC.out HB.out FRd.out) HCC.out).mono ?_
  rintro e w2 ⟨rfl,hd⟩
  refine ⟨_,rfl, ?_⟩
  have B2:=zA (Bd.out.below hd.below)
  have FR2:=zA (FRd.out.trans (sa.Fr.of_below hd.below))
  have BL2:=zA (qAY BLd.out BLd.out.size hd.below)
  clear hd
  refine hK.out _ _ ⟨B2.out.c0,B2.out.c1⟩ (fun hHeld => ?_)
  clear hK K
  refine qA3 (a' := ?_) ?_ ?_
  rotate_left
  ·show Act.put _ (some 19) _=_
   simp only [Act.put,qs1,qs2,qs3,qAZ,qAb]
   rfl
  refine pU 9 10 ?_
  refine pU 10 20 ?_
  refine pU 11 21 ?_
  refine pU 12 22 ?_
  refine pU 13 7 ?_
  refine pU 14 8 ?_
  refine pU 15 9 ?_
  refine qBL (by kernel_rfl) ?_
  have h1:=B2.out.c1
  have h2:=B2.out.c2
  have f1:=B2.out.fz 1
  go_wp2
  go_ret
  exact ⟨rfl,by rw [show 2048 - (2048 - wq)=wq by omega];exact B2.out.set1 _,FR2.out.trans (sa.Fr.set _ _ _ _),BL2.out.setCell HGG.out _⟩
theorem sa.rkey1 {bs:List Int} {u i:Int→Int × Int × Int} (hU:sa.Uin bs u i) (hR:sa.Rin bs u i) {w0 w:World} {g:Nat} {A:Option Addr} {c:Nat} {a wq p:Int} (hb:Below w0.heap.size w0 w) (hg:w0.heap.size≤g) (hB:sa.RB w g A bs.length c a wq 0 p) (hC:(Kd.int .u8).C w A bs.length bs) (hc:bs.length≤c) (hw:0≤wq∧wq≤2048) (ks:List ByteArray) (fb:Bool) (last:ByteArray) (hfb:fb=decide (ks.length=0)) (hlast:0 < ks.length→last=rdOf ByteArray.empty ks ((ks.length:Int) - 1)) :
  Calls Try.prog 79 #[.pointer (some ⟨g,0,none⟩),.bool fb,.string last] w (sa.RGot (sa.keyS bs u ks a (2048 - wq)) (fun k=>.string k) w0 w g A bs.length c p):=by
 have hu:=(hU.R a)
 have hN:=(hU.N a)
 have hL:=hU.L
 obtain ⟨K,hK⟩:=hR.U
 have HK:=zA (hK a)
 unfold sa.keyS
 obtain ⟨r1,r2,r3,hr⟩:∃ r1 r2 r3,u a=(r1,r2,r3):=⟨_,_,_,rfl⟩
 rw [hr] at HK hu hN ⊢
 dsimp only at hu hN ⊢
 have HB:=zA hB
 have HC:=zA hC
 have HCC:=zA hc
 have HBB:=zA hb
 have HGG:=zA hg
 have h0:=hB.c0
 have h1:=hB.c1
 by_cases he:r3 ≠ 0
 ·rw [if_pos he]
  have d1:(r3 != 0)=true:=bne_iff_ne.2 he
  have d2:(r3 == 0)=false:=beq_eq_false_iff_ne.2 he
  have d3:decide (r3=0)=false:=zF he
  clear hK hr hB hC hc hb hg hU hR he hu hw hN hL hfb hlast
  generalize bs.length=m at *
  go_enter Try.func79,Try.ntmps79
  go_wp2_with (first | (go_at_call 42;refine (sa.ruint1 HK.out HC.out HCC.out).mono ?_;rintro e_ w2 ⟨rfl,hd⟩;have B2:=zA (HB.out.below hd.below);have FR2:=zA (sa.Fr.of_below (g:=g) hd.below);have BL2:=zA (qAY HBB.out HBB.out.size hd.below);clear hd h0 h1;have h0:=B2.out.c0;have h1:=B2.out.c1) | (go_at_call 75;refine (sa.qCS BL2.out HGG.out B2.out 41 a).mono ?_;rintro e_ w3 ⟨rfl,hx⟩;have HX:=zA hx;clear hx))
  go_ret
  exact ⟨⟨_,rfl⟩,_,_,HX.out.blk,FR2.out.trans HX.out.fr,HX.out.bel⟩
 rw [if_neg he]
 have he0:r3=0:=Classical.byContradiction he
 subst he0
 have hN:=hN rfl
 by_cases h2:r1 > 32
 ·rw [if_pos h2]
  have d1:decide (r1 > 32)=true:=zT h2
  have d2:decide (32 < r1)=true:=zT h2
  clear hK hr hB hC hc hb hg hU hR he hu hw hN hL hfb hlast h2
  generalize bs.length=m at *
  go_enter Try.func79,Try.ntmps79
  go_wp2_with (first | (go_at_call 42;refine (sa.ruint1 HK.out HC.out HCC.out).mono ?_;rintro e_ w2 ⟨rfl,hd⟩;have B2:=zA (HB.out.below hd.below);have FR2:=zA (sa.Fr.of_below (g:=g) hd.below);have BL2:=zA (qAY HBB.out HBB.out.size hd.below);clear hd h0 h1;have h0:=B2.out.c0;have h1:=B2.out.c1;have f1:=B2.out.fz 1) | (go_at_call 75;refine (sa.qCS BL2.out HGG.out B2.out 41 a).mono ?_;rintro e_ w3 ⟨rfl,hx⟩;have HX:=zA hx;clear hx))
  go_ret
  exact ⟨⟨_,rfl⟩,_,_,HX.out.blk,FR2.out.trans HX.out.fr,HX.out.bel⟩
 rw [if_neg h2]
 have d1:decide (r1 > 32)=false:=zF h2
 have d2:decide (32 < r1)=false:=zF h2
 have hcv:IntKind.i64.wrap r1=r1:=by rw [IntKind.wrap_i64];omega
 have hsb:wrap64 ((bs.length:Int) - r2)=(bs.length:Int) - r2:=by unfold wrap64;omega
 by_cases h3:r1 > (bs.length:Int) - r2
 ·rw [if_pos h3]
  have d3:decide (r1 > (bs.length:Int) - r2)=true:=zT h3
  have d4:decide ((bs.length:Int) - r2 < r1)=true:=zT h3
  clear hK hr hB hC hc hb hg hU hR he hu hw hN hL hfb hlast h2 h3
  generalize bs.length=m at *
  go_enter Try.func79,Try.ntmps79
  go_wp2_with (first | (go_at_call 42;refine (sa.ruint1 HK.out HC.out HCC.out).mono ?_;rintro e_ w2 ⟨rfl,hd⟩;have B2:=zA (HB.out.below hd.below);have FR2:=zA (sa.Fr.of_below (g:=g) hd.below);have BL2:=zA (qAY HBB.out HBB.out.size hd.below);clear hd h0 h1;have h0:=B2.out.c0;have h1:=B2.out.c1;have f1:=B2.out.fz 1) | (go_at_call 75;refine (sa.qCS BL2.out HGG.out B2.out 41 a).mono ?_;rintro e_ w3 ⟨rfl,hx⟩;have HX:=zA hx;clear hx))
  go_ret
  exact ⟨⟨_,rfl⟩,_,_,HX.out.blk,FR2.out.trans HX.out.fr,HX.out.bel⟩
 rw [if_neg h3]
 have d3:decide (r1 > (bs.length:Int) - r2)=false:=zF h3
 have d4:decide ((bs.length:Int) - r2 < r1)=false:=zF h3
 have HUL:=zA hL
 obtain ⟨q2,rfl⟩:=Int.eq_ofNat_of_zero_le (show 0≤r2 by omega)
 obtain ⟨q1,rfl⟩:=Int.eq_ofNat_of_zero_le (show 0≤r1 by omega)
 have hs2:=trivial
 obtain ⟨i0,hi0,_,hsz0,_⟩:=info_parts info5
 have n1:(q2:Int)≤(q2:Int)+(q1:Int):=by omega
 have n2:(q2:Int)+(q1:Int)≤(bs.length:Int):=by omega
 have n3:q2≤bs.length:=by omega
 have n4:q1≤bs.length - q2:=by omega
 have n5:q1≤32:=by omega
 have n0:(0:Int)≤(q2:Int):=Int.natCast_nonneg q2
 clear hu hL hN hsb hs2 h3 h2 d1 d2 d3 d4 hcv
 have hcm:=cut_mid (P:=Try.prog) 44 5 .i64 .i64 Try.underlying44 hi0 1 hsz0 A bs.length c (q2:Int) ((q2:Int)+(q1:Int)) n0 n1 n2 hc
 rw [Int.toNat_natCast,show ((q2:Int)+(q1:Int)).toNat - q2=q1 by omega] at hcm
 rw [Int.toNat_natCast,Int.toNat_natCast]
 have hlen:((bs.drop q2).take q1).length=q1:=by rw [List.length_take,List.length_drop];omega
 have hC3:∀ W,Below w.heap.size w W→(Kd.int .u8).C W (if c=q2 then A else A.map (·.add (q2 * 1))) ((bs.drop q2).take q1).length ((bs.drop q2).take q1):=fun W hW=>by
  have:=Kd.C_take (m:=q1) (Kd.C_drop (m:=q2) (Kd.qAc hC hW) (by omega) hc) (by rw [List.length_drop];omega)
  exact this
 have hC3:=zA hC3
 generalize (if c=q2 then A else A.map (·.add (q2 * 1)))=A2 at hcm hC3
 generalize hc2:c - q2=c2 at hcm
 obtain ⟨k,hk⟩:∃ k,strOfNums ((bs.drop q2).take q1)=k:=⟨_,rfl⟩
 have hks:k.size≤32:=by rw [← hk,sa.qB7,List.length_take];omega
 have HST:=zA hk
 have HLEN:=zA hlen
 have HKS:=zA hks
 have HW:=zA hw
 have hs0:wrap64 (1+(k.size:Int))=1+(k.size:Int):=by unfold wrap64;omega
 rw [hk]
 have hcv:IntKind.i64.wrap (q1:Int)=(q1:Int):=by rw [IntKind.wrap_i64];omega
 have hsb:wrap64 ((bs.length:Int) - (q2:Int))=(bs.length:Int) - (q2:Int):=by have:=HUL.out;unfold wrap64;omega
 have hs2:wrap64 ((q2:Int)+(q1:Int))=(q2:Int)+(q1:Int):=by have:=HUL.out;unfold wrap64;omega
 have d1:decide ((q1:Int) > 32)=false:=zF (by omega)
 have d2:decide (32 < (q1:Int))=false:=zF (by omega)
 have d3:decide ((q1:Int) > (bs.length:Int) - (q2:Int))=false:=zF (by omega)
 have d4:decide ((bs.length:Int) - (q2:Int) < (q1:Int))=false:=zF (by omega)
 clear hK hr hB hC hb hg hU hR he hi0 hsz0 hlen hk hc2 n1 n2 n3 n4 n5 n0
 have STR:=fun (w2:World) (hd:Below w.heap.size w w2)=>Kd.qB8 (P:=Try.prog) (A:=A2) (c:=c2) Try.underlying44 Try.underlying5 Try.underlying9 (hC3.out w2 hd)
 rw [HLEN.out,HST.out] at STR
 have STR:=zA STR
 by_cases hn:0 < ks.length
 ·have hfb2:fb=false:=by rw [hfb];exact zF (by omega)
  have hlast2:=hlast hn
  subst hfb2
  rw [← hlast2]
  clear hlast2 hlast hfb
  by_cases hlt:Op.bytesLess last.toList k.toList=true
  ·rw [if_neg (fun h=>h.2 hlt)]
   by_cases hv:1+(k.size:Int) > 2048 - wq
   ·rw [if_pos hv]
    have HV:=zA (show 2048 < wq+(1+(k.size:Int)) by omega)
    clear hv hn hw hc hks
    go_enter Try.func79,Try.ntmps79
    go_wp2_with (first | (go_at_call 42;refine (sa.ruint1 HK.out HC.out HCC.out).mono ?_;rintro e_ w2 ⟨rfl,hd⟩;have B2:=zA (HB.out.below hd.below);have FR2:=zA (sa.Fr.of_below (g:=g) hd.below);have BL2:=zA (qAY HBB.out HBB.out.size hd.below);have hst:=STR.out w2 hd.below;clear hd h0 h1;have h0:=B2.out.c0;have h1:=B2.out.c1;have f1:=B2.out.fz 1) | (go_at_call 76;refine (sa.heavN (BL2.out.setCell HGG.out _) HGG.out (B2.out.set1 _) (1+(k.size:Int)) a HW.out.2 (by have:=HKS.out;omega) HV.out).mono ?_;rintro e_ w3 ⟨rfl,hx⟩;have HX:=zA hx;clear hx))
    go_ret
    obtain ⟨x1,x2,hx⟩:=HX.out
    exact ⟨⟨_,rfl⟩,x1,x2,hx.blk,(FR2.out.trans (sa.Fr.set _ _ _ _)).trans hx.fr,hx.bel⟩
   ·rw [if_neg hv]
    have HV:=zA (show wq+(1+(k.size:Int))≤2048 by omega)
    clear hv hn hw hc hks
    go_enter Try.func79,Try.ntmps79
    go_wp2_with (first | (go_at_call 42;refine (sa.ruint1 HK.out HC.out HCC.out).mono ?_;rintro e_ w2 ⟨rfl,hd⟩;have B2:=zA (HB.out.below hd.below);have FR2:=zA (sa.Fr.of_below (g:=g) hd.below);have BL2:=zA (qAY HBB.out HBB.out.size hd.below);have hst:=STR.out w2 hd.below;clear hd h0 h1;have h0:=B2.out.c0;have h1:=B2.out.c1;have f1:=B2.out.fz 1) | (go_at_call 76;refine (sa.heavY (BL2.out.setCell HGG.out _) HGG.out (B2.out.set1 _) (1+(k.size:Int)) a HW.out.1 (by omega) HV.out).mono ?_;rintro e_ w3 ⟨rfl,hx⟩;have HX:=zA hx;clear hx))
    go_ret
    exact ⟨rfl,by rw [show 2048 - (2048 - wq - (1+(k.size:Int)))=wq+(1+(k.size:Int)) by omega];exact ⟨HX.out.blk,(FR2.out.trans (sa.Fr.set _ _ _ _)).trans HX.out.fr,HX.out.bel⟩⟩
  ·rw [if_pos ⟨hn,hlt⟩]
   have hlf:Op.bytesLess last.toList k.toList=false:=by simpa using hlt
   clear hlt hn hw hc hks
   go_enter Try.func79,Try.ntmps79
   go_wp2_with (first | (go_at_call 42;refine (sa.ruint1 HK.out HC.out HCC.out).mono ?_;rintro e_ w2 ⟨rfl,hd⟩;have B2:=zA (HB.out.below hd.below);have FR2:=zA (sa.Fr.of_below (g:=g) hd.below);have BL2:=zA (qAY HBB.out HBB.out.size hd.below);have hst:=STR.out w2 hd.below;clear hd h0 h1;have h0:=B2.out.c0;have h1:=B2.out.c1;have f1:=B2.out.fz 1) | (go_at_call 75;refine (sa.qCS BL2.out HGG.out B2.out 41 a).mono ?_;rintro e_ w3 ⟨rfl,hx⟩;have HX:=zA hx;clear hx))
   go_ret
   exact ⟨⟨_,rfl⟩,_,_,HX.out.blk,FR2.out.trans HX.out.fr,HX.out.bel⟩
 ·have hfb2:fb=true:=by rw [hfb];exact zT (by omega)
  subst hfb2
  rw [if_neg (fun h=>hn h.1)]
  clear hlast hfb
  by_cases hv:1+(k.size:Int) > 2048 - wq
  ·rw [if_pos hv]
   have HV:=zA (show 2048 < wq+(1+(k.size:Int)) by omega)
   clear hv hn hw hc hks
   go_enter Try.func79,Try.ntmps79
   go_wp2_with (first | (go_at_call 42;refine (sa.ruint1 HK.out HC.out HCC.out).mono ?_;rintro e_ w2 ⟨rfl,hd⟩;have B2:=zA (HB.out.below hd.below);have FR2:=zA (sa.Fr.of_below (g:=g) hd.below);have BL2:=zA (qAY HBB.out HBB.out.size hd.below);have hst:=STR.out w2 hd.below;clear hd h0 h1;have h0:=B2.out.c0;have h1:=B2.out.c1;have f1:=B2.out.fz 1) | (go_at_call 76;refine (sa.heavN (BL2.out.setCell HGG.out _) HGG.out (B2.out.set1 _) (1+(k.size:Int)) a HW.out.2 (by have:=HKS.out;omega) HV.out).mono ?_;rintro e_ w3 ⟨rfl,hx⟩;have HX:=zA hx;clear hx))
   go_ret
   obtain ⟨x1,x2,hx⟩:=HX.out
   exact ⟨⟨_,rfl⟩,x1,x2,hx.blk,(FR2.out.trans (sa.Fr.set _ _ _ _)).trans hx.fr,hx.bel⟩
  ·rw [if_neg hv]
   have HV:=zA (show wq+(1+(k.size:Int))≤2048 by omega)
   clear hv hn hw hc hks
   go_enter Try.func79,Try.ntmps79
   go_wp2_with (first | (go_at_call 42;refine (sa.ruint1 HK.out HC.out HCC.out).mono ?_;rintro e_ w2 ⟨rfl,hd⟩;have B2:=zA (HB.out.below hd.below);have FR2:=zA (sa.Fr.of_below (g:=g) hd.below);have BL2:=zA (qAY HBB.out HBB.out.size hd.below);have hst:=STR.out w2 hd.below;clear hd h0 h1;have h0:=B2.out.c0;have h1:=B2.out.c1;have f1:=B2.out.fz 1) | (go_at_call 76;refine (sa.heavY (BL2.out.setCell HGG.out _) HGG.out (B2.out.set1 _) (1+(k.size:Int)) a HW.out.1 (by omega) HV.out).mono ?_;rintro e_ w3 ⟨rfl,hx⟩;have HX:=zA hx;clear hx))
   go_ret
   exact ⟨rfl,by rw [show 2048 - (2048 - wq - (1+(k.size:Int)))=wq+(1+(k.size:Int)) by omega];exact ⟨HX.out.blk,(FR2.out.trans (sa.Fr.set _ _ _ _)).trans HX.out.fr,HX.out.bel⟩⟩
end
section
set_option maxHeartbeats 4000000
set_option maxRecDepth 100000
def sa.qCK (r:sa.R3 S34) (w0 w:World) (g:Nat) (A:Option Addr) (m c:Nat) (p:Int) (e:Ending) (w':World):Prop :=
 match r with
 | .ok x a' l'=>(∃ v3 v4:Value,e=.returned (.agg #[.int .i64 x.f0,.int .i64 x.f1,.string x.f2,v3,v4])∧k34.R 34 w' w0.heap.size (fun k=>w.heap.size≤k) v3 x.f3∧Kd.string.R 9 w' w0.heap.size (fun k=>w.heap.size≤k) v4 x.f4)∧sa.RNx w0 w w' g A m c a' (2048 - l') 0 p
 | .bad f q=>(∃ (x:S34) (v3 v4:Value),e=.returned (.agg #[.int .i64 x.f0,.int .i64 x.f1,.string x.f2,v3,v4])∧k34.R 34 w' w0.heap.size (fun k=>w.heap.size≤k) v3 x.f3∧Kd.string.R 9 w' w0.heap.size (fun k=>w.heap.size≤k) v4 x.f4)∧f ≠ 0∧sa.RNb w0 w w' g A m c f q
structure sa.RLy (W:World) (g:Nat) (A:Option Addr) (m c:Nat) (a wq f p:Int) (pa:Addr) (b:Int) (rb:Nat) (cs:Array Value):Prop where
 blk:sa.RB W g A m c a wq f p
 byt:W.cell? pa=some (.int .u8 b)
 res:W.heap[rb]?=some (.cells cs 34 (0,0))
section
variable {W W1:World} {g:Nat} {A:Option Addr} {m c:Nat} {a wq f p a' wq' f' p':Int} {pa:Addr} {b:Int} {rb:Nat} {cs:Array Value}
theorem sa.RLy.below (h:sa.RLy W g A m c a wq f p pa b rb cs) (hb:Below W.heap.size W W1):sa.RLy W1 g A m c a wq f p pa b rb cs :=
 ⟨h.blk.below hb,(hb.cell (qs4 W _ h.byt)).trans h.byt,qAX h.res hb⟩
theorem sa.RB.res_ne (hB:sa.RB W g A m c a wq f p) (hr:W.heap[rb]?=some (.cells cs 34 (0,0))):rb ≠ g:=by
 rintro rfl
 have hB':W.heap[rb]?=some (.cells #[.slice A m c,.int .i64 a,.int .i64 wq,.int .i64 f,.int .i64 p] 92 (0,0)):=hB
 rw [hB'] at hr
 injection hr with hr
 injection hr with _ hr
 exact absurd hr (by decide)
theorem sa.RLy.ne (h:sa.RLy W g A m c a wq f p pa b rb cs):pa.block ≠ g∧rb ≠ g:=by
 refine ⟨fun e1 => ?_,h.blk.res_ne h.res⟩
 have h4:=h.byt
 unfold World.cell? at h4
 rw [e1] at h4
 have hB':W.heap[g]?=some (.cells #[.slice A m c,.int .i64 a,.int .i64 wq,.int .i64 f,.int .i64 p] 92 (0,0)):=h.blk
 rw [hB'] at h4
 simp only at h4
 split at h4
 ·cases h4
 ·generalize pa.off=o at h4
  match o,h4 with
  | 0,h4=>simp at h4
  | 1,h4=>simp at h4
  | 2,h4=>simp at h4
  | 3,h4=>simp at h4
  | 4,h4=>simp at h4
  | o+5,h4=>simp at h4
theorem sa.RLy.fr (h:sa.RLy W g A m c a wq f p pa b rb cs) (hF:sa.Fr g W W1) (hB:sa.RB W1 g A m c a' wq' f' p'):sa.RLy W1 g A m c a' wq' f' p' pa b rb cs:=by
 have hlt:=qs4 W _ h.byt
 have h6:=hF.2 _ hlt h.ne.1
 exact ⟨hB,by rw [← h.byt];simp [World.cell?,h6],(hF.2 _ (qAe h.res) h.ne.2).trans h.res⟩
theorem sa.qBa {w0 w W5:World} (hF:sa.Fr g w W) (hB:sa.RB W g A m c a wq f p) (hne:rb ≠ g) (hG:W.grownBy W5 (some rb)) (hrb:w.heap.size≤rb) (hsz:w0.heap.size≤w.heap.size) (hb:Below w0.heap.size w0 W):sa.RNx w0 w W5 g A m c a wq f p :=
 ⟨(hG.block g (qAe hB) (fun e=>hne (Option.some.inj e).symm)).trans hB,
  ⟨Nat.le_trans hF.1 hG.size,fun k hk hne2=>(hG.block k (Nat.lt_of_lt_of_le hk hF.1) (fun e=>absurd (Option.some.inj e) (by omega))).trans (hF.2 k hk hne2)⟩,
  ⟨hG.os.trans hb.os,hG.tape.trans hb.tape,hG.output.trans hb.output,Nat.le_trans hb.size hG.size,fun k hk=>(hG.block k (by have:=hb.size;omega) (fun e=>absurd (Option.some.inj e) (by omega))).trans (hb.block k hk)⟩⟩
end
theorem sa.rv_b1 {bs:List Int} {u i:Int→Int × Int × Int} (hU:sa.Uin bs u i) (hR:sa.Rin bs u i) {w0 w:World} {g:Nat} {A:Option Addr} {c:Nat} {a wq p:Int} (hb:Below w0.heap.size w0 w) (hg:w0.heap.size≤g) (hB:sa.RB w g A bs.length c a wq 0 p) (hC:(Kd.int .u8).C w A bs.length bs) (hc:bs.length≤c) (within:Int) (ha1:a=(bs.length:Int)) :
  Calls Try.prog 62 #[.pointer (some ⟨g,0,none⟩),.int .i64 within] w (sa.qCK (.bad 41 a) w0 w g A bs.length c p):=by
 have HB:=zA hB
 have HC:=zA hC
 have HCC:=zA hc
 have HBB:=zA hb
 have HGG:=zA hg
 have HLL:=zA hU.L
 have HUU:=zA hU
 have HRR:=zA hR
 have HGL:=zA (show g < w.heap.size from qAe hB)
 have hu25:=Try.underlying34
 have HBW:=zA ((Below.refl w.heap.size w).alloc (Nat.le_refl _) (.cells #[.int .i64 0,.int .i64 0,.string ⟨#[]⟩,.slice none 0 0,.slice none 0 0] 34))
 have BL1:=zA (hb.alloc hb.size (.cells #[.int .i64 0,.int .i64 0,.string ⟨#[]⟩,.slice none 0 0,.slice none 0 0] 34))
 have t0:decide (a ≥ (bs.length:Int))=true:=zT (by omega)
 have t1:decide ((bs.length:Int)≤a)=true:=zT (by omega)
 have B1:=zA (HB.out.below HBW.out)
 have S1:=zA (show (w.alloc (.cells #[.int .i64 0,.int .i64 0,.string ⟨#[]⟩,.slice none 0 0,.slice none 0 0] 34)).heap[w.heap.size]?=some (.cells #[.int .i64 0,.int .i64 0,.string ⟨#[]⟩,.slice none 0 0,.slice none 0 0] 34 (0,0)) by simpa using heap_alloc_new w _)
 have h0:=B1.out.c0;have h1:=B1.out.c1
 clear ha1
 clear hU hR hb hg hB hC hc
 generalize bs.length=m at *
 go_enter Try.func62,Try.ntmps62
 go_wp2_with (first | (go_at_call 75;refine (sa.qCS BL1.out HGG.out B1.out 41 a).mono ?_;rintro e_ w3 ⟨rfl,hx⟩;have HX:=zA hx;have S3:=zA ((HX.out.fr.2 _ (qAe S1.out) (B1.out.res_ne S1.out)).trans S1.out);clear hx h0 h1) | ((with_reducible refine qAW (p:=4) rfl ?_);refine sa.qAo rfl rfl 4 _ rfl w.heap.size rfl (.int .i64 0) (.int .i64 0) (.string ⟨#[]⟩) (.slice none 0 0) (.slice none 0 0) rfl (fun q hq=>by simp at hq;rcases hq with rfl | rfl | rfl | rfl | rfl <;> rfl) _ rfl S3.out ?_;intro w5_ hres hgr;have HRES:=zA hres;have HGR:=zA hgr;clear hgr hres))
 go_wp2
 refine bodyPost_ret (results_cell_row rfl _ _ w.heap.size 34 _ (0,0) _ rfl HRES.out Try.underlying34 rfl (by kernel_rfl)) rfl ?_
 exact ⟨⟨⟨0,0,⟨#[]⟩,[],[]⟩,_,_,rfl,Kd.qA7 _ _ _ _ _,Kd.qA7 _ _ _ _ _⟩,by decide,_,_,sa.qBa ((sa.Fr.of_below HBW.out).trans HX.out.fr) HX.out.blk (B1.out.res_ne S1.out) HGR.out (Nat.le_refl _) HBB.out.size HX.out.bel⟩
theorem sa.rv_b2 {bs:List Int} {u i:Int→Int × Int × Int} (hU:sa.Uin bs u i) (hR:sa.Rin bs u i) {w0 w:World} {g:Nat} {A:Option Addr} {c:Nat} {a wq p:Int} (hb:Below w0.heap.size w0 w) (hg:w0.heap.size≤g) (hB:sa.RB w g A bs.length c a wq 0 p) (hC:(Kd.int .u8).C w A bs.length bs) (hc:bs.length≤c) (within:Int) (ha0:0≤a) (ha1:a < (bs.length:Int)) (hx:rd bs a > 6) :
  Calls Try.prog 62 #[.pointer (some ⟨g,0,none⟩),.int .i64 within] w (sa.qCK (.bad 41 a) w0 w g A bs.length c p):=by
 have HB:=zA hB
 have HC:=zA hC
 have HCC:=zA hc
 have HBB:=zA hb
 have HGG:=zA hg
 have HLL:=zA hU.L
 have HUU:=zA hU
 have HRR:=zA hR
 have HGL:=zA (show g < w.heap.size from qAe hB)
 have hu25:=Try.underlying34
 have HBW:=zA ((Below.refl w.heap.size w).alloc (Nat.le_refl _) (.cells #[.int .i64 0,.int .i64 0,.string ⟨#[]⟩,.slice none 0 0,.slice none 0 0] 34))
 have BL1:=zA (hb.alloc hb.size (.cells #[.int .i64 0,.int .i64 0,.string ⟨#[]⟩,.slice none 0 0,.slice none 0 0] 34))
 obtain ⟨a,rfl⟩:=Int.eq_ofNat_of_zero_le ha0
 have t0:decide ((a:Int) ≥ (bs.length:Int))=false:=zF (by omega)
 have t1:decide ((bs.length:Int)≤(a:Int))=false:=zF (by omega)
 have t2:decide (bs.length≤a)=false:=zF (by omega)
 have t3:(a:Int) < (bs.length:Int):=ha1
 have t4:a < bs.length:=by omega
 have t5:decide (a < bs.length)=true:=zT t4
 obtain ⟨ad,hA,hx0_⟩:=Kd.qBQ hC (a:Int) (by omega) ha1
 subst hA
 rw [Int.toNat_natCast] at hx0_
 obtain ⟨x,hxd⟩:∃ x,rd bs (a:Int)=x:=⟨_,rfl⟩
 rw [hxd] at hx0_ hx
 have L1:=zA (show sa.RLy (w.alloc (.cells #[.int .i64 0,.int .i64 0,.string ⟨#[]⟩,.slice none 0 0,.slice none 0 0] 34)) g (some ad) bs.length c (a:Int) wq 0 p (ad.add a) x w.heap.size #[.int .i64 0,.int .i64 0,.string ⟨#[]⟩,.slice none 0 0,.slice none 0 0] from ⟨HB.out.below HBW.out,(HBW.out.cell (qs4 w _ hx0_)).trans hx0_,by simpa using heap_alloc_new w _⟩)
 clear hx0_ hxd
 have x1:decide (x > 6)=true:=zT hx
 have x2:decide (6 < x)=true:=zT hx
 clear hx
 have h0:=L1.out.blk.c0;have h1:=L1.out.blk.c1;have h2:=L1.out.blk.c2;have h3:=L1.out.blk.c3;have f1:=L1.out.blk.fz 1;have f2:=L1.out.blk.fz 2;have hx0:=L1.out.byt;have fr_:=qAC L1.out.res 0
 clear ha1 ha0
 clear hU hR hb hg hB hC hc
 generalize bs.length=m at *
 go_enter Try.func62,Try.ntmps62
 go_wp2_with (first | (go_at_call 75;refine (sa.qCS BL1.out HGG.out L1.out.blk 41 (a:Int)).mono ?_;rintro e_ w3 ⟨rfl,hx⟩;have HX:=zA hx;have LX:=zA (L1.out.fr HX.out.fr HX.out.blk);clear hx;clear h0 h1 h2 h3 f1 f2 hx0 fr_;have h0:=LX.out.blk.c0;have h1:=LX.out.blk.c1;have h2:=LX.out.blk.c2;have h3:=LX.out.blk.c3;have f1:=LX.out.blk.fz 1;have f2:=LX.out.blk.fz 2;have hx0:=LX.out.byt;have fr_:=qAC LX.out.res 0) | ((with_reducible refine qAW (p:=4) rfl ?_);refine sa.qAo rfl rfl 4 _ rfl w.heap.size rfl (.int .i64 0) (.int .i64 0) (.string ⟨#[]⟩) (.slice none 0 0) (.slice none 0 0) rfl (fun q hq=>by simp at hq;rcases hq with rfl | rfl | rfl | rfl | rfl <;> rfl) _ rfl LX.out.res ?_;intro w5_ hres hgr;have HRES:=zA hres;have HGR:=zA hgr;clear hgr hres))
 go_wp2
 refine bodyPost_ret (results_cell_row rfl _ _ w.heap.size 34 _ (0,0) _ rfl HRES.out Try.underlying34 rfl (by kernel_rfl)) rfl ?_
 exact ⟨⟨⟨0,0,⟨#[]⟩,[],[]⟩,_,_,rfl,Kd.qA7 _ _ _ _ _,Kd.qA7 _ _ _ _ _⟩,by decide,_,_,sa.qBa ((sa.Fr.of_below HBW.out).trans HX.out.fr) HX.out.blk L1.out.ne.2 HGR.out (Nat.le_refl _) HBB.out.size HX.out.bel⟩
theorem sa.rv_bd {bs:List Int} {u i:Int→Int × Int × Int} (hU:sa.Uin bs u i) (hR:sa.Rin bs u i) {w0 w:World} {g:Nat} {A:Option Addr} {c:Nat} {a wq p:Int} (hb:Below w0.heap.size w0 w) (hg:w0.heap.size≤g) (hB:sa.RB w g A bs.length c a wq 0 p) (hC:(Kd.int .u8).C w A bs.length bs) (hc:bs.length≤c) (within:Int) (ha0:0≤a) (ha1:a < (bs.length:Int)) (hx:rd bs a≤6) (hw:8≤within) :
  Calls Try.prog 62 #[.pointer (some ⟨g,0,none⟩),.int .i64 within] w (sa.qCK (.bad 42 a) w0 w g A bs.length c p):=by
 have HB:=zA hB
 have HC:=zA hC
 have HCC:=zA hc
 have HBB:=zA hb
 have HGG:=zA hg
 have HLL:=zA hU.L
 have HUU:=zA hU
 have HRR:=zA hR
 have HGL:=zA (show g < w.heap.size from qAe hB)
 have hu25:=Try.underlying34
 have HBW:=zA ((Below.refl w.heap.size w).alloc (Nat.le_refl _) (.cells #[.int .i64 0,.int .i64 0,.string ⟨#[]⟩,.slice none 0 0,.slice none 0 0] 34))
 have BL1:=zA (hb.alloc hb.size (.cells #[.int .i64 0,.int .i64 0,.string ⟨#[]⟩,.slice none 0 0,.slice none 0 0] 34))
 obtain ⟨a,rfl⟩:=Int.eq_ofNat_of_zero_le ha0
 have t0:decide ((a:Int) ≥ (bs.length:Int))=false:=zF (by omega)
 have t1:decide ((bs.length:Int)≤(a:Int))=false:=zF (by omega)
 have t2:decide (bs.length≤a)=false:=zF (by omega)
 have t3:(a:Int) < (bs.length:Int):=ha1
 have t4:a < bs.length:=by omega
 have t5:decide (a < bs.length)=true:=zT t4
 obtain ⟨ad,hA,hx0_⟩:=Kd.qBQ hC (a:Int) (by omega) ha1
 subst hA
 rw [Int.toNat_natCast] at hx0_
 obtain ⟨x,hxd⟩:∃ x,rd bs (a:Int)=x:=⟨_,rfl⟩
 rw [hxd] at hx0_ hx
 have L1:=zA (show sa.RLy (w.alloc (.cells #[.int .i64 0,.int .i64 0,.string ⟨#[]⟩,.slice none 0 0,.slice none 0 0] 34)) g (some ad) bs.length c (a:Int) wq 0 p (ad.add a) x w.heap.size #[.int .i64 0,.int .i64 0,.string ⟨#[]⟩,.slice none 0 0,.slice none 0 0] from ⟨HB.out.below HBW.out,(HBW.out.cell (qs4 w _ hx0_)).trans hx0_,by simpa using heap_alloc_new w _⟩)
 clear hx0_ hxd
 have x1:decide (x > 6)=false:=zF (by omega)
 have x2:decide (6 < x)=false:=zF (by omega)
 have w1:decide (within ≥ 8)=true:=zT hw
 have w2:decide (8≤within)=true:=zT hw
 clear hx hw
 have h0:=L1.out.blk.c0;have h1:=L1.out.blk.c1;have h2:=L1.out.blk.c2;have h3:=L1.out.blk.c3;have f1:=L1.out.blk.fz 1;have f2:=L1.out.blk.fz 2;have hx0:=L1.out.byt;have fr_:=qAC L1.out.res 0
 clear ha1 ha0
 clear hU hR hb hg hB hC hc
 generalize bs.length=m at *
 go_enter Try.func62,Try.ntmps62
 go_wp2_with (first | (go_at_call 75;refine (sa.qCS BL1.out HGG.out L1.out.blk 42 (a:Int)).mono ?_;rintro e_ w3 ⟨rfl,hx⟩;have HX:=zA hx;have LX:=zA (L1.out.fr HX.out.fr HX.out.blk);clear hx;clear h0 h1 h2 h3 f1 f2 hx0 fr_;have h0:=LX.out.blk.c0;have h1:=LX.out.blk.c1;have h2:=LX.out.blk.c2;have h3:=LX.out.blk.c3;have f1:=LX.out.blk.fz 1;have f2:=LX.out.blk.fz 2;have hx0:=LX.out.byt;have fr_:=qAC LX.out.res 0) | ((with_reducible refine qAW (p:=4) rfl ?_);refine sa.qAo rfl rfl 4 _ rfl w.heap.size rfl (.int .i64 0) (.int .i64 0) (.string ⟨#[]⟩) (.slice none 0 0) (.slice none 0 0) rfl (fun q hq=>by simp at hq;rcases hq with rfl | rfl | rfl | rfl | rfl <;> rfl) _ rfl LX.out.res ?_;intro w5_ hres hgr;have HRES:=zA hres;have HGR:=zA hgr;clear hgr hres))
 go_wp2
 refine bodyPost_ret (results_cell_row rfl _ _ w.heap.size 34 _ (0,0) _ rfl HRES.out Try.underlying34 rfl (by kernel_rfl)) rfl ?_
 exact ⟨⟨⟨0,0,⟨#[]⟩,[],[]⟩,_,_,rfl,Kd.qA7 _ _ _ _ _,Kd.qA7 _ _ _ _ _⟩,by decide,_,_,sa.qBa ((sa.Fr.of_below HBW.out).trans HX.out.fr) HX.out.blk L1.out.ne.2 HGR.out (Nat.le_refl _) HBB.out.size HX.out.bel⟩
theorem sa.rv_bw {bs:List Int} {u i:Int→Int × Int × Int} (hU:sa.Uin bs u i) (hR:sa.Rin bs u i) {w0 w:World} {g:Nat} {A:Option Addr} {c:Nat} {a wq p:Int} (hb:Below w0.heap.size w0 w) (hg:w0.heap.size≤g) (hB:sa.RB w g A bs.length c a wq 0 p) (hC:(Kd.int .u8).C w A bs.length bs) (hc:bs.length≤c) (within:Int) (ha0:0≤a) (ha1:a < (bs.length:Int)) (hx:rd bs a≤6) (hw:within < 8) (hwq:wq≤2048) (hwv:2048 < wq+1) :
  Calls Try.prog 62 #[.pointer (some ⟨g,0,none⟩),.int .i64 within] w (sa.qCK (.bad 42 a) w0 w g A bs.length c p):=by
 have HB:=zA hB
 have HC:=zA hC
 have HCC:=zA hc
 have HBB:=zA hb
 have HGG:=zA hg
 have HLL:=zA hU.L
 have HUU:=zA hU
 have HRR:=zA hR
 have HGL:=zA (show g < w.heap.size from qAe hB)
 have hu25:=Try.underlying34
 have HBW:=zA ((Below.refl w.heap.size w).alloc (Nat.le_refl _) (.cells #[.int .i64 0,.int .i64 0,.string ⟨#[]⟩,.slice none 0 0,.slice none 0 0] 34))
 have BL1:=zA (hb.alloc hb.size (.cells #[.int .i64 0,.int .i64 0,.string ⟨#[]⟩,.slice none 0 0,.slice none 0 0] 34))
 obtain ⟨a,rfl⟩:=Int.eq_ofNat_of_zero_le ha0
 have t0:decide ((a:Int) ≥ (bs.length:Int))=false:=zF (by omega)
 have t1:decide ((bs.length:Int)≤(a:Int))=false:=zF (by omega)
 have t2:decide (bs.length≤a)=false:=zF (by omega)
 have t3:(a:Int) < (bs.length:Int):=ha1
 have t4:a < bs.length:=by omega
 have t5:decide (a < bs.length)=true:=zT t4
 obtain ⟨ad,hA,hx0_⟩:=Kd.qBQ hC (a:Int) (by omega) ha1
 subst hA
 rw [Int.toNat_natCast] at hx0_
 obtain ⟨x,hxd⟩:∃ x,rd bs (a:Int)=x:=⟨_,rfl⟩
 rw [hxd] at hx0_ hx
 have L1:=zA (show sa.RLy (w.alloc (.cells #[.int .i64 0,.int .i64 0,.string ⟨#[]⟩,.slice none 0 0,.slice none 0 0] 34)) g (some ad) bs.length c (a:Int) wq 0 p (ad.add a) x w.heap.size #[.int .i64 0,.int .i64 0,.string ⟨#[]⟩,.slice none 0 0,.slice none 0 0] from ⟨HB.out.below HBW.out,(HBW.out.cell (qs4 w _ hx0_)).trans hx0_,by simpa using heap_alloc_new w _⟩)
 clear hx0_ hxd
 have x1:decide (x > 6)=false:=zF (by omega)
 have x2:decide (6 < x)=false:=zF (by omega)
 have w1:decide (within ≥ 8)=false:=zF (by omega)
 have w2:decide (8≤within)=false:=zF (by omega)
 have HWQ:=zA (And.intro hwq hwv)
 clear hx hw hwq hwv
 have h0:=L1.out.blk.c0;have h1:=L1.out.blk.c1;have h2:=L1.out.blk.c2;have h3:=L1.out.blk.c3;have f1:=L1.out.blk.fz 1;have f2:=L1.out.blk.fz 2;have hx0:=L1.out.byt;have fr_:=qAC L1.out.res 0
 clear ha1 ha0
 clear hU hR hb hg hB hC hc
 generalize bs.length=m at *
 go_enter Try.func62,Try.ntmps62
 go_wp2_with (first | (go_at_call 76;refine (sa.heavN BL1.out HGG.out L1.out.blk 1 (a:Int) HWQ.out.1 (by omega) HWQ.out.2).mono ?_;rintro e_ w3 ⟨rfl,b1,b2,hx⟩;have HX:=zA hx;have LX:=zA (L1.out.fr HX.out.fr HX.out.blk);clear hx;clear h0 h1 h2 h3 f1 f2 hx0 fr_;have h0:=LX.out.blk.c0;have h1:=LX.out.blk.c1;have h2:=LX.out.blk.c2;have h3:=LX.out.blk.c3;have f1:=LX.out.blk.fz 1;have f2:=LX.out.blk.fz 2;have hx0:=LX.out.byt;have fr_:=qAC LX.out.res 0) | ((with_reducible refine qAW (p:=4) rfl ?_);refine sa.qAo rfl rfl 4 _ rfl w.heap.size rfl (.int .i64 0) (.int .i64 0) (.string ⟨#[]⟩) (.slice none 0 0) (.slice none 0 0) rfl (fun q hq=>by simp at hq;rcases hq with rfl | rfl | rfl | rfl | rfl <;> rfl) _ rfl LX.out.res ?_;intro w5_ hres hgr;have HRES:=zA hres;have HGR:=zA hgr;clear hgr hres))
 go_wp2
 refine bodyPost_ret (results_cell_row rfl _ _ w.heap.size 34 _ (0,0) _ rfl HRES.out Try.underlying34 rfl (by kernel_rfl)) rfl ?_
 exact ⟨⟨⟨0,0,⟨#[]⟩,[],[]⟩,_,_,rfl,Kd.qA7 _ _ _ _ _,Kd.qA7 _ _ _ _ _⟩,by decide,_,_,sa.qBa ((sa.Fr.of_below HBW.out).trans HX.out.fr) HX.out.blk L1.out.ne.2 HGR.out (Nat.le_refl _) HBB.out.size HX.out.bel⟩
theorem sa.rv_t1 {bs:List Int} {u i:Int→Int × Int × Int} (hU:sa.Uin bs u i) (hR:sa.Rin bs u i) {w0 w:World} {g:Nat} {A:Option Addr} {c:Nat} {a wq p:Int} (hb:Below w0.heap.size w0 w) (hg:w0.heap.size≤g) (hB:sa.RB w g A bs.length c a wq 0 p) (hC:(Kd.int .u8).C w A bs.length bs) (hc:bs.length≤c) (within:Int) (hw:within < 8) (ha0:0≤a) (ha1:a < (bs.length:Int)) (hwq:0≤wq∧wq+1≤2048) (ht:rd bs a=1) :
  Calls Try.prog 62 #[.pointer (some ⟨g,0,none⟩),.int .i64 within] w (sa.qCK (.ok ⟨1,0,⟨#[]⟩,[],[]⟩ (a+1) (2048 - wq - 1)) w0 w g A bs.length c p):=by
 have HB:=zA hB
 have HC:=zA hC
 have HCC:=zA hc
 have HBB:=zA hb
 have HGG:=zA hg
 have HLL:=zA hU.L
 have HUU:=zA hU
 have HRR:=zA hR
 have HGL:=zA (show g < w.heap.size from qAe hB)
 have hu25:=Try.underlying34
 have HBW:=zA ((Below.refl w.heap.size w).alloc (Nat.le_refl _) (.cells #[.int .i64 0,.int .i64 0,.string ⟨#[]⟩,.slice none 0 0,.slice none 0 0] 34))
 have BL1:=zA (hb.alloc hb.size (.cells #[.int .i64 0,.int .i64 0,.string ⟨#[]⟩,.slice none 0 0,.slice none 0 0] 34))
 obtain ⟨a,rfl⟩:=Int.eq_ofNat_of_zero_le ha0
 have t0:decide ((a:Int) ≥ (bs.length:Int))=false:=zF (by omega)
 have t1:decide ((bs.length:Int)≤(a:Int))=false:=zF (by omega)
 have t2:decide (bs.length≤a)=false:=zF (by omega)
 have t3:(a:Int) < (bs.length:Int):=ha1
 have t4:a < bs.length:=by omega
 have t5:decide (a < bs.length)=true:=zT t4
 obtain ⟨ad,hA,hx0_⟩:=Kd.qBQ hC (a:Int) (by omega) ha1
 subst hA
 rw [Int.toNat_natCast] at hx0_
 obtain ⟨x,hxd⟩:∃ x,rd bs (a:Int)=x:=⟨_,rfl⟩
 rw [hxd] at hx0_ ht
 have L1:=zA (show sa.RLy (w.alloc (.cells #[.int .i64 0,.int .i64 0,.string ⟨#[]⟩,.slice none 0 0,.slice none 0 0] 34)) g (some ad) bs.length c (a:Int) wq 0 p (ad.add a) x w.heap.size #[.int .i64 0,.int .i64 0,.string ⟨#[]⟩,.slice none 0 0,.slice none 0 0] from ⟨HB.out.below HBW.out,(HBW.out.cell (qs4 w _ hx0_)).trans hx0_,by simpa using heap_alloc_new w _⟩)
 clear hx0_ hxd
 subst ht
 have w1:decide (within ≥ 8)=false:=zF (by omega)
 have w2:decide (8≤within)=false:=zF (by omega)
 have HWQ:=zA hwq
 have hwr:wrap64 ((a:Int)+1)=(a:Int)+1:=by have:=HLL.out;unfold wrap64;omega
 have h0:=L1.out.blk.c0;have h1:=L1.out.blk.c1;have h2:=L1.out.blk.c2;have h3:=L1.out.blk.c3;have f1:=L1.out.blk.fz 1;have f2:=L1.out.blk.fz 2;have hx0:=L1.out.byt;have fr_:=qAC L1.out.res 0
 clear ha1 ha0 hwq hw
 clear hU hR hb hg hB hC hc
 generalize bs.length=m at *
 go_enter Try.func62,Try.ntmps62
 go_wp2_with (first | (go_at_call 76;refine (sa.heavY BL1.out HGG.out L1.out.blk 1 (a:Int) HWQ.out.1 (by omega) HWQ.out.2).mono ?_;rintro e_ w3 ⟨rfl,hx⟩;have L3:=zA (L1.out.fr hx.fr hx.blk);have FR3:=zA ((sa.Fr.of_below HBW.out).trans hx.fr);have BL3:=zA hx.bel;clear hx;clear h0 h1 h2 h3 f1 f2 hx0 fr_;have h0:=L3.out.blk.c0;have h1:=L3.out.blk.c1;have h2:=L3.out.blk.c2;have h3:=L3.out.blk.c3;have f1:=L3.out.blk.fz 1;have f2:=L3.out.blk.fz 2;have hx0:=L3.out.byt;have fr_:=qAC L3.out.res 0) | ((with_reducible refine qAW (p:=62) rfl ?_);go_must (refine qAn ?hg (t:=3) (p:=62) (v:=.tmp 60) (w1:=w3.setCell ⟨g,1,none⟩ (.int .i64 ((a:Int)+1))) ?ho ?hN ?hr ?_);(case ho=>rfl);(case hN=>rfl);(case hg=>rfl);(case hr=>first | (go_simp;done) | (go_simp;rfl));intro w4 ex;have L4:=zA (L3.out.fr (ex▸sa.Fr.set _ _ _ _) (ex▸L3.out.blk.set1 _));have FR4:=zA (show sa.Fr g w w4 from ex▸FR3.out.trans (sa.Fr.set _ _ _ _));have BL4:=zA (show Below w0.heap.size w0 w4 from ex▸BL3.out.setCell HGG.out _);clear ex;clear h0 h1 h2 h3 f1 f2 hx0 fr_;have h0:=L4.out.blk.c0;have h1:=L4.out.blk.c1;have h2:=L4.out.blk.c2;have h3:=L4.out.blk.c3;have f1:=L4.out.blk.fz 1;have f2:=L4.out.blk.fz 2;have hx0:=L4.out.byt;have fr_:=qAC L4.out.res 0) | ((with_reducible refine qAW (p:=4) rfl ?_);refine sa.qAo rfl rfl 4 _ rfl w.heap.size rfl (.int .i64 1) (.int .i64 0) (.string ⟨#[]⟩) (.slice none 0 0) (.slice none 0 0) rfl (fun q hq=>by simp at hq;rcases hq with rfl | rfl | rfl | rfl | rfl <;> rfl) _ rfl L4.out.res ?_;intro w5_ hres hgr;have HRES:=zA hres;have HGR:=zA hgr;clear hgr hres))
 go_wp2
 refine bodyPost_ret (results_cell_row rfl _ _ w.heap.size 34 _ (0,0) _ rfl HRES.out Try.underlying34 rfl (by kernel_rfl)) rfl ?_
 refine ⟨⟨_,_,rfl,Kd.qA7 _ _ _ _ _,Kd.qA7 _ _ _ _ _⟩, ?_⟩
 rw [(show 2048 - (2048 - wq - 1)=wq+1 by omega)]
 exact sa.qBa FR4.out L4.out.blk L4.out.ne.2 HGR.out (Nat.le_refl _) HBB.out.size BL4.out
theorem sa.rv_t2 {bs:List Int} {u i:Int→Int × Int × Int} (hU:sa.Uin bs u i) (hR:sa.Rin bs u i) {w0 w:World} {g:Nat} {A:Option Addr} {c:Nat} {a wq p:Int} (hb:Below w0.heap.size w0 w) (hg:w0.heap.size≤g) (hB:sa.RB w g A bs.length c a wq 0 p) (hC:(Kd.int .u8).C w A bs.length bs) (hc:bs.length≤c) (within:Int) (hw:within < 8) (ha0:0≤a) (ha1:a < (bs.length:Int)) (hwq:0≤wq∧wq+1≤2048) (ht:rd bs a=2) :
  Calls Try.prog 62 #[.pointer (some ⟨g,0,none⟩),.int .i64 within] w (sa.qCK (.ok ⟨1,1,⟨#[]⟩,[],[]⟩ (a+1) (2048 - wq - 1)) w0 w g A bs.length c p):=by
 have HB:=zA hB
 have HC:=zA hC
 have HCC:=zA hc
 have HBB:=zA hb
 have HGG:=zA hg
 have HLL:=zA hU.L
 have HUU:=zA hU
 have HRR:=zA hR
 have HGL:=zA (show g < w.heap.size from qAe hB)
 have hu25:=Try.underlying34
 have HBW:=zA ((Below.refl w.heap.size w).alloc (Nat.le_refl _) (.cells #[.int .i64 0,.int .i64 0,.string ⟨#[]⟩,.slice none 0 0,.slice none 0 0] 34))
 have BL1:=zA (hb.alloc hb.size (.cells #[.int .i64 0,.int .i64 0,.string ⟨#[]⟩,.slice none 0 0,.slice none 0 0] 34))
 obtain ⟨a,rfl⟩:=Int.eq_ofNat_of_zero_le ha0
 have t0:decide ((a:Int) ≥ (bs.length:Int))=false:=zF (by omega)
 have t1:decide ((bs.length:Int)≤(a:Int))=false:=zF (by omega)
 have t2:decide (bs.length≤a)=false:=zF (by omega)
 have t3:(a:Int) < (bs.length:Int):=ha1
 have t4:a < bs.length:=by omega
 have t5:decide (a < bs.length)=true:=zT t4
 obtain ⟨ad,hA,hx0_⟩:=Kd.qBQ hC (a:Int) (by omega) ha1
 subst hA
 rw [Int.toNat_natCast] at hx0_
 obtain ⟨x,hxd⟩:∃ x,rd bs (a:Int)=x:=⟨_,rfl⟩
 rw [hxd] at hx0_ ht
 have L1:=zA (show sa.RLy (w.alloc (.cells #[.int .i64 0,.int .i64 0,.string ⟨#[]⟩,.slice none 0 0,.slice none 0 0] 34)) g (some ad) bs.length c (a:Int) wq 0 p (ad.add a) x w.heap.size #[.int .i64 0,.int .i64 0,.string ⟨#[]⟩,.slice none 0 0,.slice none 0 0] from ⟨HB.out.below HBW.out,(HBW.out.cell (qs4 w _ hx0_)).trans hx0_,by simpa using heap_alloc_new w _⟩)
 clear hx0_ hxd
 subst ht
 have w1:decide (within ≥ 8)=false:=zF (by omega)
 have w2:decide (8≤within)=false:=zF (by omega)
 have HWQ:=zA hwq
 have hwr:wrap64 ((a:Int)+1)=(a:Int)+1:=by have:=HLL.out;unfold wrap64;omega
 have h0:=L1.out.blk.c0;have h1:=L1.out.blk.c1;have h2:=L1.out.blk.c2;have h3:=L1.out.blk.c3;have f1:=L1.out.blk.fz 1;have f2:=L1.out.blk.fz 2;have hx0:=L1.out.byt;have fr_:=qAC L1.out.res 0
 clear ha1 ha0 hwq hw
 clear hU hR hb hg hB hC hc
 generalize bs.length=m at *
 go_enter Try.func62,Try.ntmps62
 go_wp2_with (first | (go_at_call 76;refine (sa.heavY BL1.out HGG.out L1.out.blk 1 (a:Int) HWQ.out.1 (by omega) HWQ.out.2).mono ?_;rintro e_ w3 ⟨rfl,hx⟩;have L3:=zA (L1.out.fr hx.fr hx.blk);have FR3:=zA ((sa.Fr.of_below HBW.out).trans hx.fr);have BL3:=zA hx.bel;clear hx;clear h0 h1 h2 h3 f1 f2 hx0 fr_;have h0:=L3.out.blk.c0;have h1:=L3.out.blk.c1;have h2:=L3.out.blk.c2;have h3:=L3.out.blk.c3;have f1:=L3.out.blk.fz 1;have f2:=L3.out.blk.fz 2;have hx0:=L3.out.byt;have fr_:=qAC L3.out.res 0) | ((with_reducible refine qAW (p:=62) rfl ?_);go_must (refine qAn ?hg (t:=3) (p:=62) (v:=.tmp 60) (w1:=w3.setCell ⟨g,1,none⟩ (.int .i64 ((a:Int)+1))) ?ho ?hN ?hr ?_);(case ho=>rfl);(case hN=>rfl);(case hg=>rfl);(case hr=>first | (go_simp;done) | (go_simp;rfl));intro w4 ex;have L4:=zA (L3.out.fr (ex▸sa.Fr.set _ _ _ _) (ex▸L3.out.blk.set1 _));have FR4:=zA (show sa.Fr g w w4 from ex▸FR3.out.trans (sa.Fr.set _ _ _ _));have BL4:=zA (show Below w0.heap.size w0 w4 from ex▸BL3.out.setCell HGG.out _);clear ex;clear h0 h1 h2 h3 f1 f2 hx0 fr_;have h0:=L4.out.blk.c0;have h1:=L4.out.blk.c1;have h2:=L4.out.blk.c2;have h3:=L4.out.blk.c3;have f1:=L4.out.blk.fz 1;have f2:=L4.out.blk.fz 2;have hx0:=L4.out.byt;have fr_:=qAC L4.out.res 0) | ((with_reducible refine qAW (p:=4) rfl ?_);refine sa.qAo rfl rfl 4 _ rfl w.heap.size rfl (.int .i64 1) (.int .i64 1) (.string ⟨#[]⟩) (.slice none 0 0) (.slice none 0 0) rfl (fun q hq=>by simp at hq;rcases hq with rfl | rfl | rfl | rfl | rfl <;> rfl) _ rfl L4.out.res ?_;intro w5_ hres hgr;have HRES:=zA hres;have HGR:=zA hgr;clear hgr hres))
 go_wp2
 refine bodyPost_ret (results_cell_row rfl _ _ w.heap.size 34 _ (0,0) _ rfl HRES.out Try.underlying34 rfl (by kernel_rfl)) rfl ?_
 refine ⟨⟨_,_,rfl,Kd.qA7 _ _ _ _ _,Kd.qA7 _ _ _ _ _⟩, ?_⟩
 rw [(show 2048 - (2048 - wq - 1)=wq+1 by omega)]
 exact sa.qBa FR4.out L4.out.blk L4.out.ne.2 HGR.out (Nat.le_refl _) HBB.out.size BL4.out
theorem sa.rv_t0 {bs:List Int} {u i:Int→Int × Int × Int} (hU:sa.Uin bs u i) (hR:sa.Rin bs u i) {w0 w:World} {g:Nat} {A:Option Addr} {c:Nat} {a wq p:Int} (hb:Below w0.heap.size w0 w) (hg:w0.heap.size≤g) (hB:sa.RB w g A bs.length c a wq 0 p) (hC:(Kd.int .u8).C w A bs.length bs) (hc:bs.length≤c) (within:Int) (hw:within < 8) (ha0:0≤a) (ha1:a < (bs.length:Int)) (hwq:0≤wq∧wq+1≤2048) (ht:rd bs a=0) :
  Calls Try.prog 62 #[.pointer (some ⟨g,0,none⟩),.int .i64 within] w (sa.qCK (.ok ⟨0,0,⟨#[]⟩,[],[]⟩ (a+1) (2048 - wq - 1)) w0 w g A bs.length c p):=by
 have HB:=zA hB
 have HC:=zA hC
 have HCC:=zA hc
 have HBB:=zA hb
 have HGG:=zA hg
 have HLL:=zA hU.L
 have HUU:=zA hU
 have HRR:=zA hR
 have HGL:=zA (show g < w.heap.size from qAe hB)
 have hu25:=Try.underlying34
 have HBW:=zA ((Below.refl w.heap.size w).alloc (Nat.le_refl _) (.cells #[.int .i64 0,.int .i64 0,.string ⟨#[]⟩,.slice none 0 0,.slice none 0 0] 34))
 have BL1:=zA (hb.alloc hb.size (.cells #[.int .i64 0,.int .i64 0,.string ⟨#[]⟩,.slice none 0 0,.slice none 0 0] 34))
 obtain ⟨a,rfl⟩:=Int.eq_ofNat_of_zero_le ha0
 have t0:decide ((a:Int) ≥ (bs.length:Int))=false:=zF (by omega)
 have t1:decide ((bs.length:Int)≤(a:Int))=false:=zF (by omega)
 have t2:decide (bs.length≤a)=false:=zF (by omega)
 have t3:(a:Int) < (bs.length:Int):=ha1
 have t4:a < bs.length:=by omega
 have t5:decide (a < bs.length)=true:=zT t4
 obtain ⟨ad,hA,hx0_⟩:=Kd.qBQ hC (a:Int) (by omega) ha1
 subst hA
 rw [Int.toNat_natCast] at hx0_
 obtain ⟨x,hxd⟩:∃ x,rd bs (a:Int)=x:=⟨_,rfl⟩
 rw [hxd] at hx0_ ht
 have L1:=zA (show sa.RLy (w.alloc (.cells #[.int .i64 0,.int .i64 0,.string ⟨#[]⟩,.slice none 0 0,.slice none 0 0] 34)) g (some ad) bs.length c (a:Int) wq 0 p (ad.add a) x w.heap.size #[.int .i64 0,.int .i64 0,.string ⟨#[]⟩,.slice none 0 0,.slice none 0 0] from ⟨HB.out.below HBW.out,(HBW.out.cell (qs4 w _ hx0_)).trans hx0_,by simpa using heap_alloc_new w _⟩)
 clear hx0_ hxd
 subst ht
 have w1:decide (within ≥ 8)=false:=zF (by omega)
 have w2:decide (8≤within)=false:=zF (by omega)
 have HWQ:=zA hwq
 have hwr:wrap64 ((a:Int)+1)=(a:Int)+1:=by have:=HLL.out;unfold wrap64;omega
 have h0:=L1.out.blk.c0;have h1:=L1.out.blk.c1;have h2:=L1.out.blk.c2;have h3:=L1.out.blk.c3;have f1:=L1.out.blk.fz 1;have f2:=L1.out.blk.fz 2;have hx0:=L1.out.byt;have fr_:=qAC L1.out.res 0
 clear ha1 ha0 hwq hw
 clear hU hR hb hg hB hC hc
 generalize bs.length=m at *
 go_enter Try.func62,Try.ntmps62
 go_wp2_with (first | (go_at_call 76;refine (sa.heavY BL1.out HGG.out L1.out.blk 1 (a:Int) HWQ.out.1 (by omega) HWQ.out.2).mono ?_;rintro e_ w3 ⟨rfl,hx⟩;have L3:=zA (L1.out.fr hx.fr hx.blk);have FR3:=zA ((sa.Fr.of_below HBW.out).trans hx.fr);have BL3:=zA hx.bel;clear hx;clear h0 h1 h2 h3 f1 f2 hx0 fr_;have h0:=L3.out.blk.c0;have h1:=L3.out.blk.c1;have h2:=L3.out.blk.c2;have h3:=L3.out.blk.c3;have f1:=L3.out.blk.fz 1;have f2:=L3.out.blk.fz 2;have hx0:=L3.out.byt;have fr_:=qAC L3.out.res 0) | ((with_reducible refine qAW (p:=62) rfl ?_);go_must (refine qAn ?hg (t:=3) (p:=62) (v:=.tmp 60) (w1:=w3.setCell ⟨g,1,none⟩ (.int .i64 ((a:Int)+1))) ?ho ?hN ?hr ?_);(case ho=>rfl);(case hN=>rfl);(case hg=>rfl);(case hr=>first | (go_simp;done) | (go_simp;rfl));intro w4 ex;have L4:=zA (L3.out.fr (ex▸sa.Fr.set _ _ _ _) (ex▸L3.out.blk.set1 _));have FR4:=zA (show sa.Fr g w w4 from ex▸FR3.out.trans (sa.Fr.set _ _ _ _));have BL4:=zA (show Below w0.heap.size w0 w4 from ex▸BL3.out.setCell HGG.out _);clear ex;clear h0 h1 h2 h3 f1 f2 hx0 fr_;have h0:=L4.out.blk.c0;have h1:=L4.out.blk.c1;have h2:=L4.out.blk.c2;have h3:=L4.out.blk.c3;have f1:=L4.out.blk.fz 1;have f2:=L4.out.blk.fz 2;have hx0:=L4.out.byt;have fr_:=qAC L4.out.res 0) | ((with_reducible refine qAW (p:=4) rfl ?_);refine sa.qAo rfl rfl 4 _ rfl w.heap.size rfl (.int .i64 0) (.int .i64 0) (.string ⟨#[]⟩) (.slice none 0 0) (.slice none 0 0) rfl (fun q hq=>by simp at hq;rcases hq with rfl | rfl | rfl | rfl | rfl <;> rfl) _ rfl L4.out.res ?_;intro w5_ hres hgr;have HRES:=zA hres;have HGR:=zA hgr;clear hgr hres))
 go_wp2
 refine bodyPost_ret (results_cell_row rfl _ _ w.heap.size 34 _ (0,0) _ rfl HRES.out Try.underlying34 rfl (by kernel_rfl)) rfl ?_
 refine ⟨⟨_,_,rfl,Kd.qA7 _ _ _ _ _,Kd.qA7 _ _ _ _ _⟩, ?_⟩
 rw [(show 2048 - (2048 - wq - 1)=wq+1 by omega)]
 exact sa.qBa FR4.out L4.out.blk L4.out.ne.2 HGR.out (Nat.le_refl _) HBB.out.size BL4.out
theorem sa.rv_t3 {bs:List Int} {u i:Int→Int × Int × Int} (hU:sa.Uin bs u i) (hR:sa.Rin bs u i) {w0 w:World} {g:Nat} {A:Option Addr} {c:Nat} {a wq p:Int} (hb:Below w0.heap.size w0 w) (hg:w0.heap.size≤g) (hB:sa.RB w g A bs.length c a wq 0 p) (hC:(Kd.int .u8).C w A bs.length bs) (hc:bs.length≤c) (within:Int) (hw:within < 8) (ha0:0≤a) (ha1:a < (bs.length:Int)) (hwq:0≤wq∧wq+1≤2048) (ht:rd bs a=3) (he:(i (a+1)).2.2=0) :
  Calls Try.prog 62 #[.pointer (some ⟨g,0,none⟩),.int .i64 within] w (sa.qCK (.ok ⟨2,(i (a+1)).1,⟨#[]⟩,[],[]⟩ (i (a+1)).2.1 (2048 - wq - 1)) w0 w g A bs.length c p):=by
 have HB:=zA hB
 have HC:=zA hC
 have HCC:=zA hc
 have HBB:=zA hb
 have HGG:=zA hg
 have HLL:=zA hU.L
 have HUU:=zA hU
 have HRR:=zA hR
 have HGL:=zA (show g < w.heap.size from qAe hB)
 have hu25:=Try.underlying34
 have HBW:=zA ((Below.refl w.heap.size w).alloc (Nat.le_refl _) (.cells #[.int .i64 0,.int .i64 0,.string ⟨#[]⟩,.slice none 0 0,.slice none 0 0] 34))
 have BL1:=zA (hb.alloc hb.size (.cells #[.int .i64 0,.int .i64 0,.string ⟨#[]⟩,.slice none 0 0,.slice none 0 0] 34))
 obtain ⟨a,rfl⟩:=Int.eq_ofNat_of_zero_le ha0
 have t0:decide ((a:Int) ≥ (bs.length:Int))=false:=zF (by omega)
 have t1:decide ((bs.length:Int)≤(a:Int))=false:=zF (by omega)
 have t2:decide (bs.length≤a)=false:=zF (by omega)
 have t3:(a:Int) < (bs.length:Int):=ha1
 have t4:a < bs.length:=by omega
 have t5:decide (a < bs.length)=true:=zT t4
 obtain ⟨ad,hA,hx0_⟩:=Kd.qBQ hC (a:Int) (by omega) ha1
 subst hA
 rw [Int.toNat_natCast] at hx0_
 obtain ⟨x,hxd⟩:∃ x,rd bs (a:Int)=x:=⟨_,rfl⟩
 rw [hxd] at hx0_ ht
 have L1:=zA (show sa.RLy (w.alloc (.cells #[.int .i64 0,.int .i64 0,.string ⟨#[]⟩,.slice none 0 0,.slice none 0 0] 34)) g (some ad) bs.length c (a:Int) wq 0 p (ad.add a) x w.heap.size #[.int .i64 0,.int .i64 0,.string ⟨#[]⟩,.slice none 0 0,.slice none 0 0] from ⟨HB.out.below HBW.out,(HBW.out.cell (qs4 w _ hx0_)).trans hx0_,by simpa using heap_alloc_new w _⟩)
 clear hx0_ hxd
 subst ht
 have w1:decide (within ≥ 8)=false:=zF (by omega)
 have w2:decide (8≤within)=false:=zF (by omega)
 have HWQ:=zA hwq
 have hwr:wrap64 ((a:Int)+1)=(a:Int)+1:=by have:=HLL.out;unfold wrap64;omega
 obtain ⟨K,hK⟩:=hR.I
 have HK:=zA (hK ((a:Int)+1))
 obtain ⟨r1,r2,r3,hr⟩:∃ r1 r2 r3,i ((a:Int)+1)=(r1,r2,r3):=⟨_,_,_,rfl⟩
 rw [hr] at he HK ⊢
 dsimp only at he ⊢
 subst he
 clear hK hr
 have h0:=L1.out.blk.c0;have h1:=L1.out.blk.c1;have h2:=L1.out.blk.c2;have h3:=L1.out.blk.c3;have f1:=L1.out.blk.fz 1;have f2:=L1.out.blk.fz 2;have hx0:=L1.out.byt;have fr_:=qAC L1.out.res 0
 clear ha1 ha0 hwq hw
 clear hU hR hb hg hB hC hc
 generalize bs.length=m at *
 go_enter Try.func62,Try.ntmps62
 go_wp2_with (first | (go_at_call 76;refine (sa.heavY BL1.out HGG.out L1.out.blk 1 (a:Int) HWQ.out.1 (by omega) HWQ.out.2).mono ?_;rintro e_ w3 ⟨rfl,hx⟩;have L3:=zA (L1.out.fr hx.fr hx.blk);have FR3:=zA ((sa.Fr.of_below HBW.out).trans hx.fr);have BL3:=zA hx.bel;clear hx;clear h0 h1 h2 h3 f1 f2 hx0 fr_;have h0:=L3.out.blk.c0;have h1:=L3.out.blk.c1;have h2:=L3.out.blk.c2;have h3:=L3.out.blk.c3;have f1:=L3.out.blk.fz 1;have f2:=L3.out.blk.fz 2;have hx0:=L3.out.byt;have fr_:=qAC L3.out.res 0) | ((with_reducible refine qAW (p:=62) rfl ?_);go_must (refine qAn ?hg (t:=3) (p:=62) (v:=.tmp 60) (w1:=w3.setCell ⟨g,1,none⟩ (.int .i64 ((a:Int)+1))) ?ho ?hN ?hr ?_);(case ho=>rfl);(case hN=>rfl);(case hg=>rfl);(case hr=>first | (go_simp;done) | (go_simp;rfl));intro w4 ex;have L4:=zA (L3.out.fr (ex▸sa.Fr.set _ _ _ _) (ex▸L3.out.blk.set1 _));have FR4:=zA (show sa.Fr g w w4 from ex▸FR3.out.trans (sa.Fr.set _ _ _ _));have BL4:=zA (show Below w0.heap.size w0 w4 from ex▸BL3.out.setCell HGG.out _);clear ex;clear h0 h1 h2 h3 f1 f2 hx0 fr_;have h0:=L4.out.blk.c0;have h1:=L4.out.blk.c1;have h2:=L4.out.blk.c2;have h3:=L4.out.blk.c3;have f1:=L4.out.blk.fz 1;have f2:=L4.out.blk.fz 2;have hx0:=L4.out.byt;have fr_:=qAC L4.out.res 0))
 clear h0 h1 h2 h3 f1 f2 hx0 fr_
 refine qAz (n:=16) (S:=fun w'=>w'.cell? ⟨g,0,none⟩=some (.slice (some ad) m c)∧w'.cell? ⟨g,1,none⟩=some (.int .i64 ((a:Int)+1))) (ds:=[]) #[qF,qF,qF,qF,qF,qF,qF,qF,qF,qF,qF,qF,qF,qF,qF,qF] (by kernel_rfl) rfl rfl ⟨(L4.out.blk.below (qAK (Below.refl _ _))).c0,(L4.out.blk.below (qAK (Below.refl _ _))).c1⟩ (fun hHeld => ?_)
 generalize hwd:w4.drew=wd at hHeld ⊢
 have Ld:=zA (hwd▸L4.out.below (qAK (Below.refl _ _)))
 have FRd:=zA (hwd▸FR4.out.trans (sa.Fr.of_below (g:=g) (qAK (Below.refl _ _))))
 have BLd:=zA (hwd▸qAK BL4.out)
 clear hwd
 refine pU 0 79 ?_
 refine pU 1 80 ?_
 refine pU 2 81 ?_
 refine pU 4 83 ?_
 refine pU 5 84 ?_
 refine pU 6 85 ?_
 refine tK 3 82 hHeld ?_
 refine tK 7 86 hHeld ?_
 refine one_ (i:=8) (N:=some 87) #[qT,qT,qT,qT,qT,qT,qT,qT,qT,qF,qF,qF,qF,qF,qF,qF] rfl rfl (by kernel_rfl) (by decide) (fun K hK => ?_)
 refine qBZ Try.func77 (by kernel_rfl) rfl #[.slice (some ad) m c,.int .i64 ((a:Int)+1)] (by rfl) rfl rfl (by (try simp only [List.map_toArray,List.map_cons,List.map_nil]);first | done | rfl) ?_
 refine (sa.rint1 HK.out (sa.qB3 HC.out HB.out FRd.out) HCC.out).mono ?_
 rintro e w5 ⟨rfl,hd⟩
 refine ⟨_,rfl, ?_⟩
 have L5:=zA (Ld.out.below hd.below)
 have FR5:=zA (FRd.out.trans (sa.Fr.of_below hd.below))
 have BL5:=zA (qAY BLd.out BLd.out.size hd.below)
 clear hd
 refine hK.out _ _ ⟨L5.out.blk.c0,L5.out.blk.c1⟩ (fun hHeld => ?_)
 clear hK K
 refine qA3 (a' := ?_) ?_ ?_
 rotate_left
 ·show Act.put _ (some 87) _=_
  simp only [Act.put,qs1,qs2,qs3,qAZ,qAb]
  rfl
 refine pU 9 78 ?_
 refine pU 10 88 ?_
 refine pU 11 89 ?_
 refine pU 12 90 ?_
 refine pU 13 6 ?_
 refine pU 14 7 ?_
 refine pU 15 8 ?_
 refine qBL (by kernel_rfl) ?_
 have h0:=L5.out.blk.c0;have h1:=L5.out.blk.c1;have h2:=L5.out.blk.c2;have h3:=L5.out.blk.c3;have f1:=L5.out.blk.fz 1;have f2:=L5.out.blk.fz 2;have hx0:=L5.out.byt;have fr_:=qAC L5.out.res 0
 go_wp2_with (first | ((with_reducible refine qAW (p:=103) rfl ?_);go_must (refine qAn ?hg (t:=3) (p:=103) (v:=.tmp 101) (w1:=w5.setCell ⟨g,1,none⟩ (.int .i64 r2)) ?ho ?hN ?hr ?_);(case ho=>rfl);(case hN=>rfl);(case hg=>rfl);(case hr=>first | (go_simp;done) | (go_simp;rfl));intro w6 ex;have L6:=zA (L5.out.fr (ex▸sa.Fr.set _ _ _ _) (ex▸L5.out.blk.set1 _));have FR6:=zA (show sa.Fr g w w6 from ex▸FR5.out.trans (sa.Fr.set _ _ _ _));have BL6:=zA (show Below w0.heap.size w0 w6 from ex▸BL5.out.setCell HGG.out _);clear ex;clear h0 h1 h2 h3 f1 f2 hx0 fr_;have h0:=L6.out.blk.c0;have h1:=L6.out.blk.c1;have h2:=L6.out.blk.c2;have h3:=L6.out.blk.c3;have f1:=L6.out.blk.fz 1;have f2:=L6.out.blk.fz 2;have hx0:=L6.out.byt;have fr_:=qAC L6.out.res 0) | ((with_reducible refine qAW (p:=4) rfl ?_);refine sa.qAo rfl rfl 4 _ rfl w.heap.size rfl (.int .i64 2) (.int .i64 r1) (.string ⟨#[]⟩) (.slice none 0 0) (.slice none 0 0) rfl (fun q hq=>by simp at hq;rcases hq with rfl | rfl | rfl | rfl | rfl <;> rfl) _ rfl L6.out.res ?_;intro w5_ hres hgr;have HRES:=zA hres;have HGR:=zA hgr;clear hgr hres))
 go_wp2
 refine bodyPost_ret (results_cell_row rfl _ _ w.heap.size 34 _ (0,0) _ rfl HRES.out Try.underlying34 rfl (by kernel_rfl)) rfl ?_
 refine ⟨⟨_,_,rfl,Kd.qA7 _ _ _ _ _,Kd.qA7 _ _ _ _ _⟩, ?_⟩
 rw [(show 2048 - (2048 - wq - 1)=wq+1 by omega)]
 exact sa.qBa FR6.out L6.out.blk L6.out.ne.2 HGR.out (Nat.le_refl _) HBB.out.size BL6.out
theorem sa.rv_t3N {bs:List Int} {u i:Int→Int × Int × Int} (hU:sa.Uin bs u i) (hR:sa.Rin bs u i) {w0 w:World} {g:Nat} {A:Option Addr} {c:Nat} {a wq p:Int} (hb:Below w0.heap.size w0 w) (hg:w0.heap.size≤g) (hB:sa.RB w g A bs.length c a wq 0 p) (hC:(Kd.int .u8).C w A bs.length bs) (hc:bs.length≤c) (within:Int) (hw:within < 8) (ha0:0≤a) (ha1:a < (bs.length:Int)) (hwq:0≤wq∧wq+1≤2048) (ht:rd bs a=3) (he:(i (a+1)).2.2 ≠ 0) :
  Calls Try.prog 62 #[.pointer (some ⟨g,0,none⟩),.int .i64 within] w (sa.qCK (.bad 41 (a+1)) w0 w g A bs.length c p):=by
 have HB:=zA hB
 have HC:=zA hC
 have HCC:=zA hc
 have HBB:=zA hb
 have HGG:=zA hg
 have HLL:=zA hU.L
 have HUU:=zA hU
 have HRR:=zA hR
 have HGL:=zA (show g < w.heap.size from qAe hB)
 have hu25:=Try.underlying34
 have HBW:=zA ((Below.refl w.heap.size w).alloc (Nat.le_refl _) (.cells #[.int .i64 0,.int .i64 0,.string ⟨#[]⟩,.slice none 0 0,.slice none 0 0] 34))
 have BL1:=zA (hb.alloc hb.size (.cells #[.int .i64 0,.int .i64 0,.string ⟨#[]⟩,.slice none 0 0,.slice none 0 0] 34))
 obtain ⟨a,rfl⟩:=Int.eq_ofNat_of_zero_le ha0
 have t0:decide ((a:Int) ≥ (bs.length:Int))=false:=zF (by omega)
 have t1:decide ((bs.length:Int)≤(a:Int))=false:=zF (by omega)
 have t2:decide (bs.length≤a)=false:=zF (by omega)
 have t3:(a:Int) < (bs.length:Int):=ha1
 have t4:a < bs.length:=by omega
 have t5:decide (a < bs.length)=true:=zT t4
 obtain ⟨ad,hA,hx0_⟩:=Kd.qBQ hC (a:Int) (by omega) ha1
 subst hA
 rw [Int.toNat_natCast] at hx0_
 obtain ⟨x,hxd⟩:∃ x,rd bs (a:Int)=x:=⟨_,rfl⟩
 rw [hxd] at hx0_ ht
 have L1:=zA (show sa.RLy (w.alloc (.cells #[.int .i64 0,.int .i64 0,.string ⟨#[]⟩,.slice none 0 0,.slice none 0 0] 34)) g (some ad) bs.length c (a:Int) wq 0 p (ad.add a) x w.heap.size #[.int .i64 0,.int .i64 0,.string ⟨#[]⟩,.slice none 0 0,.slice none 0 0] from ⟨HB.out.below HBW.out,(HBW.out.cell (qs4 w _ hx0_)).trans hx0_,by simpa using heap_alloc_new w _⟩)
 clear hx0_ hxd
 subst ht
 have w1:decide (within ≥ 8)=false:=zF (by omega)
 have w2:decide (8≤within)=false:=zF (by omega)
 have HWQ:=zA hwq
 have hwr:wrap64 ((a:Int)+1)=(a:Int)+1:=by have:=HLL.out;unfold wrap64;omega
 obtain ⟨K,hK⟩:=hR.I
 have HK:=zA (hK ((a:Int)+1))
 obtain ⟨r1,r2,r3,hr⟩:∃ r1 r2 r3,i ((a:Int)+1)=(r1,r2,r3):=⟨_,_,_,rfl⟩
 rw [hr] at he HK
 dsimp only at he
 have d1:(r3 != 0)=true:=bne_iff_ne.2 he
 have d2:(r3 == 0)=false:=beq_eq_false_iff_ne.2 he
 have d3:decide (r3=0)=false:=zF he
 clear hK hr he
 have h0:=L1.out.blk.c0;have h1:=L1.out.blk.c1;have h2:=L1.out.blk.c2;have h3:=L1.out.blk.c3;have f1:=L1.out.blk.fz 1;have f2:=L1.out.blk.fz 2;have hx0:=L1.out.byt;have fr_:=qAC L1.out.res 0
 clear ha1 ha0 hwq hw
 clear hU hR hb hg hB hC hc
 generalize bs.length=m at *
 go_enter Try.func62,Try.ntmps62
 go_wp2_with (first | (go_at_call 76;refine (sa.heavY BL1.out HGG.out L1.out.blk 1 (a:Int) HWQ.out.1 (by omega) HWQ.out.2).mono ?_;rintro e_ w3 ⟨rfl,hx⟩;have L3:=zA (L1.out.fr hx.fr hx.blk);have FR3:=zA ((sa.Fr.of_below HBW.out).trans hx.fr);have BL3:=zA hx.bel;clear hx;clear h0 h1 h2 h3 f1 f2 hx0 fr_;have h0:=L3.out.blk.c0;have h1:=L3.out.blk.c1;have h2:=L3.out.blk.c2;have h3:=L3.out.blk.c3;have f1:=L3.out.blk.fz 1;have f2:=L3.out.blk.fz 2;have hx0:=L3.out.byt;have fr_:=qAC L3.out.res 0) | ((with_reducible refine qAW (p:=62) rfl ?_);go_must (refine qAn ?hg (t:=3) (p:=62) (v:=.tmp 60) (w1:=w3.setCell ⟨g,1,none⟩ (.int .i64 ((a:Int)+1))) ?ho ?hN ?hr ?_);(case ho=>rfl);(case hN=>rfl);(case hg=>rfl);(case hr=>first | (go_simp;done) | (go_simp;rfl));intro w4 ex;have L4:=zA (L3.out.fr (ex▸sa.Fr.set _ _ _ _) (ex▸L3.out.blk.set1 _));have FR4:=zA (show sa.Fr g w w4 from ex▸FR3.out.trans (sa.Fr.set _ _ _ _));have BL4:=zA (show Below w0.heap.size w0 w4 from ex▸BL3.out.setCell HGG.out _);clear ex;clear h0 h1 h2 h3 f1 f2 hx0 fr_;have h0:=L4.out.blk.c0;have h1:=L4.out.blk.c1;have h2:=L4.out.blk.c2;have h3:=L4.out.blk.c3;have f1:=L4.out.blk.fz 1;have f2:=L4.out.blk.fz 2;have hx0:=L4.out.byt;have fr_:=qAC L4.out.res 0))
 clear h0 h1 h2 h3 f1 f2 hx0 fr_
 refine qAz (n:=16) (S:=fun w'=>w'.cell? ⟨g,0,none⟩=some (.slice (some ad) m c)∧w'.cell? ⟨g,1,none⟩=some (.int .i64 ((a:Int)+1))) (ds:=[]) #[qF,qF,qF,qF,qF,qF,qF,qF,qF,qF,qF,qF,qF,qF,qF,qF] (by kernel_rfl) rfl rfl ⟨(L4.out.blk.below (qAK (Below.refl _ _))).c0,(L4.out.blk.below (qAK (Below.refl _ _))).c1⟩ (fun hHeld => ?_)
 generalize hwd:w4.drew=wd at hHeld ⊢
 have Ld:=zA (hwd▸L4.out.below (qAK (Below.refl _ _)))
 have FRd:=zA (hwd▸FR4.out.trans (sa.Fr.of_below (g:=g) (qAK (Below.refl _ _))))
 have BLd:=zA (hwd▸qAK BL4.out)
 clear hwd
 refine pU 0 79 ?_
 refine pU 1 80 ?_
 refine pU 2 81 ?_
 refine pU 4 83 ?_
 refine pU 5 84 ?_
 refine pU 6 85 ?_
 refine tK 3 82 hHeld ?_
 refine tK 7 86 hHeld ?_
 refine one_ (i:=8) (N:=some 87) #[qT,qT,qT,qT,qT,qT,qT,qT,qT,qF,qF,qF,qF,qF,qF,qF] rfl rfl (by kernel_rfl) (by decide) (fun K hK => ?_)
 refine qBZ Try.func77 (by kernel_rfl) rfl #[.slice (some ad) m c,.int .i64 ((a:Int)+1)] (by rfl) rfl rfl (by (try simp only [List.map_toArray,List.map_cons,List.map_nil]);first | done | rfl) ?_
 refine (sa.rint1 HK.out (sa.qB3 HC.out HB.out FRd.out) HCC.out).mono ?_
 rintro e w5 ⟨rfl,hd⟩
 refine ⟨_,rfl, ?_⟩
 have L5:=zA (Ld.out.below hd.below)
 have FR5:=zA (FRd.out.trans (sa.Fr.of_below hd.below))
 have BL5:=zA (qAY BLd.out BLd.out.size hd.below)
 clear hd
 refine hK.out _ _ ⟨L5.out.blk.c0,L5.out.blk.c1⟩ (fun hHeld => ?_)
 clear hK K
 refine qA3 (a' := ?_) ?_ ?_
 rotate_left
 ·show Act.put _ (some 87) _=_
  simp only [Act.put,qs1,qs2,qs3,qAZ,qAb]
  rfl
 refine pU 9 78 ?_
 refine pU 10 88 ?_
 refine pU 11 89 ?_
 refine pU 12 90 ?_
 refine pU 13 6 ?_
 refine pU 14 7 ?_
 refine pU 15 8 ?_
 refine qBL (by kernel_rfl) ?_
 have h0:=L5.out.blk.c0;have h1:=L5.out.blk.c1;have h2:=L5.out.blk.c2;have h3:=L5.out.blk.c3;have f1:=L5.out.blk.fz 1;have f2:=L5.out.blk.fz 2;have hx0:=L5.out.byt;have fr_:=qAC L5.out.res 0
 go_wp2_with (first | (go_at_call 75;refine (sa.qCS BL5.out HGG.out L5.out.blk 41 ((a:Int)+1)).mono ?_;rintro e_ w6 ⟨rfl,hx⟩;have HX:=zA hx;have LX:=zA (L5.out.fr HX.out.fr HX.out.blk);clear hx;clear h0 h1 h2 h3 f1 f2 hx0 fr_;have h0:=LX.out.blk.c0;have h1:=LX.out.blk.c1;have h2:=LX.out.blk.c2;have h3:=LX.out.blk.c3;have f1:=LX.out.blk.fz 1;have f2:=LX.out.blk.fz 2;have hx0:=LX.out.byt;have fr_:=qAC LX.out.res 0) | ((with_reducible refine qAW (p:=4) rfl ?_);refine sa.qAo rfl rfl 4 _ rfl w.heap.size rfl (.int .i64 0) (.int .i64 0) (.string ⟨#[]⟩) (.slice none 0 0) (.slice none 0 0) rfl (fun q hq=>by simp at hq;rcases hq with rfl | rfl | rfl | rfl | rfl <;> rfl) _ rfl LX.out.res ?_;intro w5_ hres hgr;have HRES:=zA hres;have HGR:=zA hgr;clear hgr hres))
 go_wp2
 refine bodyPost_ret (results_cell_row rfl _ _ w.heap.size 34 _ (0,0) _ rfl HRES.out Try.underlying34 rfl (by kernel_rfl)) rfl ?_
 exact ⟨⟨⟨0,0,⟨#[]⟩,[],[]⟩,_,_,rfl,Kd.qA7 _ _ _ _ _,Kd.qA7 _ _ _ _ _⟩,by decide,_,_,sa.qBa (FR5.out.trans HX.out.fr) HX.out.blk L5.out.ne.2 HGR.out (Nat.le_refl _) HBB.out.size HX.out.bel⟩
end
section
set_option maxHeartbeats 4000000
set_option maxRecDepth 100000
theorem sa.genW1 {F:Exit→Act→World→Prop} {e:Exit} {a:Act} {w:World} (n:Nat) (h:∀ w1,w1=w.drewN n→F e a w1):F e a (w.drewN n):=h _ rfl
theorem sa.keyS_ne {bs:List Int} {u:Int→Int × Int × Int} {ks:List ByteArray} {a l f q:Int} (h:sa.keyS bs u ks a l=.bad f q):f ≠ 0:=by
 unfold sa.keyS at h
 split at h
 ·injection h with e1 _;subst e1;decide
 split at h
 ·injection h with e1 _;subst e1;decide
 split at h
 ·injection h with e1 _;subst e1;decide
 dsimp only at h
 split at h
 ·injection h with e1 _;subst e1;decide
 split at h
 ·injection h with e1 _;subst e1;decide
 ·cases h
theorem sa.rv_t4E {bs:List Int} {u i:Int→Int × Int × Int} (hU:sa.Uin bs u i) (hR:sa.Rin bs u i) {w0 w:World} {g:Nat} {A:Option Addr} {c:Nat} {a wq p:Int} (hb:Below w0.heap.size w0 w) (hg:w0.heap.size≤g) (hB:sa.RB w g A bs.length c a wq 0 p) (hC:(Kd.int .u8).C w A bs.length bs) (hc:bs.length≤c) (within:Int) (hw:within < 8) (ha0:0≤a) (ha1:a < (bs.length:Int)) (hwq:0≤wq∧wq+1≤2048) (ht:rd bs a=4) {f q:Int} (hf:f ≠ 0) (hcb:sa.qBe u (a:Int) 1 (a+1) (2048 - (wq+1))=.bad f q) :
  Calls Try.prog 62 #[.pointer (some ⟨g,0,none⟩),.int .i64 within] w (sa.qCK (.bad f q) w0 w g A bs.length c p):=by
 have HB:=zA hB
 have HC:=zA hC
 have HCC:=zA hc
 have HBB:=zA hb
 have HGG:=zA hg
 have HLL:=zA hU.L
 have HUU:=zA hU
 have HRR:=zA hR
 have HGL:=zA (show g < w.heap.size from qAe hB)
 have hu25:=Try.underlying34
 have HBW:=zA ((Below.refl w.heap.size w).alloc (Nat.le_refl _) (.cells #[.int .i64 0,.int .i64 0,.string ⟨#[]⟩,.slice none 0 0,.slice none 0 0] 34))
 have BL1:=zA (hb.alloc hb.size (.cells #[.int .i64 0,.int .i64 0,.string ⟨#[]⟩,.slice none 0 0,.slice none 0 0] 34))
 obtain ⟨a,rfl⟩:=Int.eq_ofNat_of_zero_le ha0
 have t0:decide ((a:Int) ≥ (bs.length:Int))=false:=zF (by omega)
 have t1:decide ((bs.length:Int)≤(a:Int))=false:=zF (by omega)
 have t2:decide (bs.length≤a)=false:=zF (by omega)
 have t3:(a:Int) < (bs.length:Int):=ha1
 have t4:a < bs.length:=by omega
 have t5:decide (a < bs.length)=true:=zT t4
 obtain ⟨ad,hA,hx0_⟩:=Kd.qBQ hC (a:Int) (by omega) ha1
 subst hA
 rw [Int.toNat_natCast] at hx0_
 obtain ⟨x,hxd⟩:∃ x,rd bs (a:Int)=x:=⟨_,rfl⟩
 rw [hxd] at hx0_ ht
 have L1:=zA (show sa.RLy (w.alloc (.cells #[.int .i64 0,.int .i64 0,.string ⟨#[]⟩,.slice none 0 0,.slice none 0 0] 34)) g (some ad) bs.length c (a:Int) wq 0 p (ad.add a) x w.heap.size #[.int .i64 0,.int .i64 0,.string ⟨#[]⟩,.slice none 0 0,.slice none 0 0] from ⟨HB.out.below HBW.out,(HBW.out.cell (qs4 w _ hx0_)).trans hx0_,by simpa using heap_alloc_new w _⟩)
 clear hx0_ hxd
 subst ht
 have w1:decide (within ≥ 8)=false:=zF (by omega)
 have w2:decide (8≤within)=false:=zF (by omega)
 have HWQ:=zA hwq
 have hwr:wrap64 ((a:Int)+1)=(a:Int)+1:=by have:=HLL.out;unfold wrap64;omega
 have d1:(f != 0)=true:=bne_iff_ne.2 hf
 have d2:(f == 0)=false:=beq_eq_false_iff_ne.2 hf
 have d3:decide (f=0)=false:=zF hf
 have HCB:=zA hcb
 have HFN:=zA hf
 clear hf hcb
 have h0:=L1.out.blk.c0;have h1:=L1.out.blk.c1;have h2:=L1.out.blk.c2;have h3:=L1.out.blk.c3;have f1:=L1.out.blk.fz 1;have f2:=L1.out.blk.fz 2;have hx0:=L1.out.byt;have fr_:=qAC L1.out.res 0
 clear ha1 ha0 hwq hw
 clear hU hR hb hg hB hC hc
 go_enter Try.func62,Try.ntmps62
 go_wp2_with (first | (go_at_call 76;refine (sa.heavY BL1.out HGG.out L1.out.blk 1 (a:Int) HWQ.out.1 (by omega) HWQ.out.2).mono ?_;rintro e_ w3 ⟨rfl,hx⟩;have L3:=zA (L1.out.fr hx.fr hx.blk);have FR3:=zA ((sa.Fr.of_below HBW.out).trans hx.fr);have BL3:=zA hx.bel;clear hx;clear h0 h1 h2 h3 f1 f2 hx0 fr_;have h0:=L3.out.blk.c0;have h1:=L3.out.blk.c1;have h2:=L3.out.blk.c2;have h3:=L3.out.blk.c3;have f1:=L3.out.blk.fz 1;have f2:=L3.out.blk.fz 2;have hx0:=L3.out.byt;have fr_:=qAC L3.out.res 0) | ((with_reducible refine qAW (p:=62) rfl ?_);go_must (refine qAn ?hg (t:=3) (p:=62) (v:=.tmp 60) (w1:=w3.setCell ⟨g,1,none⟩ (.int .i64 ((a:Int)+1))) ?ho ?hN ?hr ?_);(case ho=>rfl);(case hN=>rfl);(case hg=>rfl);(case hr=>first | (go_simp;done) | (go_simp;rfl));intro w4 ex;have L4:=zA (L3.out.fr (ex▸sa.Fr.set _ _ _ _) (ex▸L3.out.blk.set1 _));have FR4:=zA (show sa.Fr g w w4 from ex▸FR3.out.trans (sa.Fr.set _ _ _ _));have BL4:=zA (show Below w0.heap.size w0 w4 from ex▸BL3.out.setCell HGG.out _);clear ex;clear h0 h1 h2 h3 f1 f2 hx0 fr_;have h0:=L4.out.blk.c0;have h1:=L4.out.blk.c1;have h2:=L4.out.blk.c2;have h3:=L4.out.blk.c3;have f1:=L4.out.blk.fz 1;have f2:=L4.out.blk.fz 2;have hx0:=L4.out.byt;have fr_:=qAC L4.out.res 0))
 go_wp2_with (first | (go_at_call 78;refine (sa.rnum1 HUU.out HRR.out BL4.out HGG.out L4.out.blk (sa.qB3 HC.out HB.out FR4.out) HCC.out (a:Int) 1 (by omega) (by have:=HWQ.out;omega)).mono ?_;rw [HCB.out];rintro e_ w5 ⟨⟨y,rfl⟩,b1,b2,hx⟩;have L5:=zA (L4.out.fr hx.fr hx.blk);have FR5:=zA (FR4.out.trans hx.fr);have BL5:=zA hx.bel;clear hx;clear h0 h1 h2 h3 f1 f2 hx0 fr_;have h0:=L5.out.blk.c0;have h1:=L5.out.blk.c1;have h2:=L5.out.blk.c2;have h3:=L5.out.blk.c3;have f1:=L5.out.blk.fz 1;have f2:=L5.out.blk.fz 2;have hx0:=L5.out.byt;have fr_:=qAC L5.out.res 0))
 go_quiet (fail)
 refine sa.genW1 _ (fun w6 hw => ?_)
 have L6:=zA (hw▸L5.out.below (qAD (Below.refl _ _) _))
 have FR6:=zA (show sa.Fr g w w6 from hw▸FR5.out.trans (sa.Fr.of_below (qAD (Below.refl _ _) _)))
 have BL6:=zA (show Below w0.heap.size w0 w6 from hw▸qAD BL5.out _)
 clear hw
 clear h0 h1 h2 h3 f1 f2 hx0 fr_
 have h0:=L6.out.blk.c0;have h1:=L6.out.blk.c1;have h2:=L6.out.blk.c2;have h3:=L6.out.blk.c3;have f1:=L6.out.blk.fz 1;have f2:=L6.out.blk.fz 2;have hx0:=L6.out.byt;have fr_:=qAC L6.out.res 0
 go_wp2_with (first | ((with_reducible refine qAW (p:=4) rfl ?_);refine sa.qAo rfl rfl 4 _ rfl w.heap.size rfl (.int .i64 0) (.int .i64 0) (.string ⟨#[]⟩) (.slice none 0 0) (.slice none 0 0) rfl (fun q hq=>by simp at hq;rcases hq with rfl | rfl | rfl | rfl | rfl <;> rfl) _ rfl L6.out.res ?_;intro w5_ hres hgr;have HRES:=zA hres;have HGR:=zA hgr;clear hgr hres))
 go_wp2
 refine bodyPost_ret (results_cell_row rfl _ _ w.heap.size 34 _ (0,0) _ rfl HRES.out Try.underlying34 rfl (by kernel_rfl)) rfl ?_
 exact ⟨⟨⟨0,0,⟨#[]⟩,[],[]⟩,_,_,rfl,Kd.qA7 _ _ _ _ _,Kd.qA7 _ _ _ _ _⟩,HFN.out,_,_,sa.qBa FR6.out L6.out.blk L6.out.ne.2 HGR.out (Nat.le_refl _) HBB.out.size BL6.out⟩
theorem sa.rv_t4C {bs:List Int} {u i:Int→Int × Int × Int} (hU:sa.Uin bs u i) (hR:sa.Rin bs u i) {w0 w:World} {g:Nat} {A:Option Addr} {c:Nat} {a wq p:Int} (hb:Below w0.heap.size w0 w) (hg:w0.heap.size≤g) (hB:sa.RB w g A bs.length c a wq 0 p) (hC:(Kd.int .u8).C w A bs.length bs) (hc:bs.length≤c) (within:Int) (hw:within < 8) (ha0:0≤a) (ha1:a < (bs.length:Int)) (hwq:0≤wq∧wq+1≤2048) (ht:rd bs a=4) {n a1:Int} (hcb:sa.qBe u (a:Int) 1 (a+1) (2048 - (wq+1))=.ok n a1 (2048 - (wq+1))) (hbd:0≤n∧n≤2048 - (wq+1)∧0≤a1∧a1≤(bs.length:Int)) (hn:(bs.length:Int) - a1 < n) :
  Calls Try.prog 62 #[.pointer (some ⟨g,0,none⟩),.int .i64 within] w (sa.qCK (.bad 41 (a+1)) w0 w g A bs.length c p):=by
 have HB:=zA hB
 have HC:=zA hC
 have HCC:=zA hc
 have HBB:=zA hb
 have HGG:=zA hg
 have HLL:=zA hU.L
 have HUU:=zA hU
 have HRR:=zA hR
 have HGL:=zA (show g < w.heap.size from qAe hB)
 have hu25:=Try.underlying34
 have HBW:=zA ((Below.refl w.heap.size w).alloc (Nat.le_refl _) (.cells #[.int .i64 0,.int .i64 0,.string ⟨#[]⟩,.slice none 0 0,.slice none 0 0] 34))
 have BL1:=zA (hb.alloc hb.size (.cells #[.int .i64 0,.int .i64 0,.string ⟨#[]⟩,.slice none 0 0,.slice none 0 0] 34))
 obtain ⟨a,rfl⟩:=Int.eq_ofNat_of_zero_le ha0
 have t0:decide ((a:Int) ≥ (bs.length:Int))=false:=zF (by omega)
 have t1:decide ((bs.length:Int)≤(a:Int))=false:=zF (by omega)
 have t2:decide (bs.length≤a)=false:=zF (by omega)
 have t3:(a:Int) < (bs.length:Int):=ha1
 have t4:a < bs.length:=by omega
 have t5:decide (a < bs.length)=true:=zT t4
 obtain ⟨ad,hA,hx0_⟩:=Kd.qBQ hC (a:Int) (by omega) ha1
 subst hA
 rw [Int.toNat_natCast] at hx0_
 obtain ⟨x,hxd⟩:∃ x,rd bs (a:Int)=x:=⟨_,rfl⟩
 rw [hxd] at hx0_ ht
 have L1:=zA (show sa.RLy (w.alloc (.cells #[.int .i64 0,.int .i64 0,.string ⟨#[]⟩,.slice none 0 0,.slice none 0 0] 34)) g (some ad) bs.length c (a:Int) wq 0 p (ad.add a) x w.heap.size #[.int .i64 0,.int .i64 0,.string ⟨#[]⟩,.slice none 0 0,.slice none 0 0] from ⟨HB.out.below HBW.out,(HBW.out.cell (qs4 w _ hx0_)).trans hx0_,by simpa using heap_alloc_new w _⟩)
 clear hx0_ hxd
 subst ht
 have w1:decide (within ≥ 8)=false:=zF (by omega)
 have w2:decide (8≤within)=false:=zF (by omega)
 have HWQ:=zA hwq
 have hwr:wrap64 ((a:Int)+1)=(a:Int)+1:=by have:=HLL.out;unfold wrap64;omega
 have HCB:=zA hcb
 have HBD:=zA hbd
 have hs0:wrap64 ((bs.length:Int) - a1)=(bs.length:Int) - a1:=by have:=HLL.out;unfold wrap64;omega
 have d4:decide (n > (bs.length:Int) - a1)=true:=zT (by omega)
 have d5:decide ((bs.length:Int) - a1 < n)=true:=zT (by omega)
 clear hn hcb hbd
 have h0:=L1.out.blk.c0;have h1:=L1.out.blk.c1;have h2:=L1.out.blk.c2;have h3:=L1.out.blk.c3;have f1:=L1.out.blk.fz 1;have f2:=L1.out.blk.fz 2;have hx0:=L1.out.byt;have fr_:=qAC L1.out.res 0
 clear ha1 ha0 hwq hw
 clear hU hR hb hg hB hC hc
 go_enter Try.func62,Try.ntmps62
 go_wp2_with (first | (go_at_call 76;refine (sa.heavY BL1.out HGG.out L1.out.blk 1 (a:Int) HWQ.out.1 (by omega) HWQ.out.2).mono ?_;rintro e_ w3 ⟨rfl,hx⟩;have L3:=zA (L1.out.fr hx.fr hx.blk);have FR3:=zA ((sa.Fr.of_below HBW.out).trans hx.fr);have BL3:=zA hx.bel;clear hx;clear h0 h1 h2 h3 f1 f2 hx0 fr_;have h0:=L3.out.blk.c0;have h1:=L3.out.blk.c1;have h2:=L3.out.blk.c2;have h3:=L3.out.blk.c3;have f1:=L3.out.blk.fz 1;have f2:=L3.out.blk.fz 2;have hx0:=L3.out.byt;have fr_:=qAC L3.out.res 0) | ((with_reducible refine qAW (p:=62) rfl ?_);go_must (refine qAn ?hg (t:=3) (p:=62) (v:=.tmp 60) (w1:=w3.setCell ⟨g,1,none⟩ (.int .i64 ((a:Int)+1))) ?ho ?hN ?hr ?_);(case ho=>rfl);(case hN=>rfl);(case hg=>rfl);(case hr=>first | (go_simp;done) | (go_simp;rfl));intro w4 ex;have L4:=zA (L3.out.fr (ex▸sa.Fr.set _ _ _ _) (ex▸L3.out.blk.set1 _));have FR4:=zA (show sa.Fr g w w4 from ex▸FR3.out.trans (sa.Fr.set _ _ _ _));have BL4:=zA (show Below w0.heap.size w0 w4 from ex▸BL3.out.setCell HGG.out _);clear ex;clear h0 h1 h2 h3 f1 f2 hx0 fr_;have h0:=L4.out.blk.c0;have h1:=L4.out.blk.c1;have h2:=L4.out.blk.c2;have h3:=L4.out.blk.c3;have f1:=L4.out.blk.fz 1;have f2:=L4.out.blk.fz 2;have hx0:=L4.out.byt;have fr_:=qAC L4.out.res 0))
 go_wp2_with (first | (go_at_call 78;refine (sa.rnum1 HUU.out HRR.out BL4.out HGG.out L4.out.blk (sa.qB3 HC.out HB.out FR4.out) HCC.out (a:Int) 1 (by omega) (by have:=HWQ.out;omega)).mono ?_;rw [HCB.out];rintro e_ w5 ⟨rfl,hx⟩;rw [show (2048 - (2048 - (wq+1)):Int)=wq+1 by omega] at hx;have L5:=zA (L4.out.fr hx.fr hx.blk);have FR5:=zA (FR4.out.trans hx.fr);have BL5:=zA hx.bel;clear hx;clear h0 h1 h2 h3 f1 f2 hx0 fr_;have h0:=L5.out.blk.c0;have h1:=L5.out.blk.c1;have h2:=L5.out.blk.c2;have h3:=L5.out.blk.c3;have f1:=L5.out.blk.fz 1;have f2:=L5.out.blk.fz 2;have hx0:=L5.out.byt;have fr_:=qAC L5.out.res 0))
 go_quiet (fail)
 refine sa.genW1 _ (fun w6 hw => ?_)
 have L6:=zA (hw▸L5.out.below (qAD (Below.refl _ _) _))
 have FR6:=zA (show sa.Fr g w w6 from hw▸FR5.out.trans (sa.Fr.of_below (qAD (Below.refl _ _) _)))
 have BL6:=zA (show Below w0.heap.size w0 w6 from hw▸qAD BL5.out _)
 clear hw
 clear h0 h1 h2 h3 f1 f2 hx0 fr_
 have h0:=L6.out.blk.c0;have h1:=L6.out.blk.c1;have h2:=L6.out.blk.c2;have h3:=L6.out.blk.c3;have f1:=L6.out.blk.fz 1;have f2:=L6.out.blk.fz 2;have hx0:=L6.out.byt;have fr_:=qAC L6.out.res 0
 go_wp2_with (first | (go_at_call 75;refine (sa.qCS BL6.out HGG.out L6.out.blk 41 ((a:Int)+1)).mono ?_;rintro e_ w7 ⟨rfl,hx⟩;have HX:=zA hx;have LX:=zA (L6.out.fr HX.out.fr HX.out.blk);clear hx;clear h0 h1 h2 h3 f1 f2 hx0 fr_;have h0:=LX.out.blk.c0;have h1:=LX.out.blk.c1;have h2:=LX.out.blk.c2;have h3:=LX.out.blk.c3;have f1:=LX.out.blk.fz 1;have f2:=LX.out.blk.fz 2;have hx0:=LX.out.byt;have fr_:=qAC LX.out.res 0) | ((with_reducible refine qAW (p:=4) rfl ?_);refine sa.qAo rfl rfl 4 _ rfl w.heap.size rfl (.int .i64 0) (.int .i64 0) (.string ⟨#[]⟩) (.slice none 0 0) (.slice none 0 0) rfl (fun q hq=>by simp at hq;rcases hq with rfl | rfl | rfl | rfl | rfl <;> rfl) _ rfl LX.out.res ?_;intro w5_ hres hgr;have HRES:=zA hres;have HGR:=zA hgr;clear hgr hres))
 go_wp2
 refine bodyPost_ret (results_cell_row rfl _ _ w.heap.size 34 _ (0,0) _ rfl HRES.out Try.underlying34 rfl (by kernel_rfl)) rfl ?_
 exact ⟨⟨⟨0,0,⟨#[]⟩,[],[]⟩,_,_,rfl,Kd.qA7 _ _ _ _ _,Kd.qA7 _ _ _ _ _⟩,by decide,_,_,sa.qBa (FR6.out.trans HX.out.fr) HX.out.blk L6.out.ne.2 HGR.out (Nat.le_refl _) HBB.out.size HX.out.bel⟩
theorem sa.rv_t4 {bs:List Int} {u i:Int→Int × Int × Int} (hU:sa.Uin bs u i) (hR:sa.Rin bs u i) {w0 w:World} {g:Nat} {A:Option Addr} {c:Nat} {a wq p:Int} (hb:Below w0.heap.size w0 w) (hg:w0.heap.size≤g) (hB:sa.RB w g A bs.length c a wq 0 p) (hC:(Kd.int .u8).C w A bs.length bs) (hc:bs.length≤c) (within:Int) (hw:within < 8) (ha0:0≤a) (ha1:a < (bs.length:Int)) (hwq:0≤wq∧wq+1≤2048) (ht:rd bs a=4) {n a1:Int} (hcb:sa.qBe u (a:Int) 1 (a+1) (2048 - (wq+1))=.ok n a1 (2048 - (wq+1))) (hbd:0≤n∧n≤2048 - (wq+1)∧0≤a1∧a1≤(bs.length:Int)) (hn:n≤(bs.length:Int) - a1) :
  Calls Try.prog 62 #[.pointer (some ⟨g,0,none⟩),.int .i64 within] w (sa.qCK (.ok ⟨3,0,strOfNums ((bs.drop a1.toNat).take n.toNat),[],[]⟩ (a1+n) (2048 - (wq+1) - n)) w0 w g A bs.length c p):=by
 have HB:=zA hB
 have HC:=zA hC
 have HCC:=zA hc
 have HBB:=zA hb
 have HGG:=zA hg
 have HLL:=zA hU.L
 have HUU:=zA hU
 have HRR:=zA hR
 have HGL:=zA (show g < w.heap.size from qAe hB)
 have hu25:=Try.underlying34
 have HBW:=zA ((Below.refl w.heap.size w).alloc (Nat.le_refl _) (.cells #[.int .i64 0,.int .i64 0,.string ⟨#[]⟩,.slice none 0 0,.slice none 0 0] 34))
 have BL1:=zA (hb.alloc hb.size (.cells #[.int .i64 0,.int .i64 0,.string ⟨#[]⟩,.slice none 0 0,.slice none 0 0] 34))
 obtain ⟨a,rfl⟩:=Int.eq_ofNat_of_zero_le ha0
 have t0:decide ((a:Int) ≥ (bs.length:Int))=false:=zF (by omega)
 have t1:decide ((bs.length:Int)≤(a:Int))=false:=zF (by omega)
 have t2:decide (bs.length≤a)=false:=zF (by omega)
 have t3:(a:Int) < (bs.length:Int):=ha1
 have t4:a < bs.length:=by omega
 have t5:decide (a < bs.length)=true:=zT t4
 obtain ⟨ad,hA,hx0_⟩:=Kd.qBQ hC (a:Int) (by omega) ha1
 subst hA
 rw [Int.toNat_natCast] at hx0_
 obtain ⟨x,hxd⟩:∃ x,rd bs (a:Int)=x:=⟨_,rfl⟩
 rw [hxd] at hx0_ ht
 have L1:=zA (show sa.RLy (w.alloc (.cells #[.int .i64 0,.int .i64 0,.string ⟨#[]⟩,.slice none 0 0,.slice none 0 0] 34)) g (some ad) bs.length c (a:Int) wq 0 p (ad.add a) x w.heap.size #[.int .i64 0,.int .i64 0,.string ⟨#[]⟩,.slice none 0 0,.slice none 0 0] from ⟨HB.out.below HBW.out,(HBW.out.cell (qs4 w _ hx0_)).trans hx0_,by simpa using heap_alloc_new w _⟩)
 clear hx0_ hxd
 subst ht
 have w1:decide (within ≥ 8)=false:=zF (by omega)
 have w2:decide (8≤within)=false:=zF (by omega)
 have HWQ:=zA hwq
 have hwr:wrap64 ((a:Int)+1)=(a:Int)+1:=by have:=HLL.out;unfold wrap64;omega
 have HCB:=zA hcb
 have HBD:=zA hbd
 have hs0:wrap64 ((bs.length:Int) - a1)=(bs.length:Int) - a1:=by have:=HLL.out;unfold wrap64;omega
 have d4:decide (n > (bs.length:Int) - a1)=false:=zF (by omega)
 have d5:decide ((bs.length:Int) - a1 < n)=false:=zF (by omega)
 obtain ⟨q1,rfl⟩:=Int.eq_ofNat_of_zero_le hbd.1
 obtain ⟨q2,rfl⟩:=Int.eq_ofNat_of_zero_le hbd.2.2.1
 have n1:(q2:Int)≤(q2:Int)+(q1:Int):=by omega
 have n2:(q2:Int)+(q1:Int)≤(bs.length:Int):=by omega
 have n3:q2≤bs.length:=by omega
 have n4:q1≤bs.length - q2:=by omega
 have n0:(0:Int)≤(q2:Int):=Int.natCast_nonneg q2
 obtain ⟨i0,hi0,_,hsz0,_⟩:=info_parts info5
 have hcm:=cut_mid (P:=Try.prog) 44 5 .i64 .i64 Try.underlying44 hi0 1 hsz0 (some ad) bs.length c (q2:Int) ((q2:Int)+(q1:Int)) n0 n1 n2 hc
 rw [Int.toNat_natCast,show ((q2:Int)+(q1:Int)).toNat - q2=q1 by omega] at hcm
 rw [Int.toNat_natCast,Int.toNat_natCast]
 have hlen:((bs.drop q2).take q1).length=q1:=by rw [List.length_take,List.length_drop];omega
 have hC3:∀ W,sa.Fr g w W→(Kd.int .u8).C W (if c=q2 then some ad else (some ad).map (·.add (q2 * 1))) ((bs.drop q2).take q1).length ((bs.drop q2).take q1):=fun W hW=>by
  have:=Kd.C_take (m:=q1) (Kd.C_drop (m:=q2) (sa.qB3 hC HB.out hW) n3 hc) (by rw [List.length_drop];omega)
  exact this
 have STR:=fun (W:World) (hd:sa.Fr g w W)=>Kd.qB8 (P:=Try.prog) (c:=c - q2) Try.underlying44 Try.underlying5 Try.underlying9 (hC3 W hd)
 rw [hlen] at STR
 have STR:=zA STR
 have hz:wrap64 ((q2:Int)+(q1:Int))=(q2:Int)+(q1:Int):=by have:=HLL.out;unfold wrap64;omega
 have hz2:wrap64 (wq+1+(q1:Int))=wq+1+(q1:Int):=by have:=hbd.2.1;have:=hwq.1;unfold wrap64;omega
 clear hi0 hsz0 hlen hC3 hbd hcb n1 n2 n3 n4 n0 hn
 generalize (if c=q2 then some ad else (some ad).map (·.add (q2 * 1)))=A2 at hcm STR
 generalize hc2:c - q2=c2 at hcm STR
 generalize hst:strOfNums ((bs.drop q2).take q1)=st at STR ⊢
 clear hc2 hst
 have h0:=L1.out.blk.c0;have h1:=L1.out.blk.c1;have h2:=L1.out.blk.c2;have h3:=L1.out.blk.c3;have f1:=L1.out.blk.fz 1;have f2:=L1.out.blk.fz 2;have hx0:=L1.out.byt;have fr_:=qAC L1.out.res 0
 clear ha1 ha0 hwq hw
 clear hU hR hb hg hB hC hc
 go_enter Try.func62,Try.ntmps62
 go_wp2_with (first | (go_at_call 76;refine (sa.heavY BL1.out HGG.out L1.out.blk 1 (a:Int) HWQ.out.1 (by omega) HWQ.out.2).mono ?_;rintro e_ w3 ⟨rfl,hx⟩;have L3:=zA (L1.out.fr hx.fr hx.blk);have FR3:=zA ((sa.Fr.of_below HBW.out).trans hx.fr);have BL3:=zA hx.bel;clear hx;clear h0 h1 h2 h3 f1 f2 hx0 fr_;have h0:=L3.out.blk.c0;have h1:=L3.out.blk.c1;have h2:=L3.out.blk.c2;have h3:=L3.out.blk.c3;have f1:=L3.out.blk.fz 1;have f2:=L3.out.blk.fz 2;have hx0:=L3.out.byt;have fr_:=qAC L3.out.res 0) | ((with_reducible refine qAW (p:=62) rfl ?_);go_must (refine qAn ?hg (t:=3) (p:=62) (v:=.tmp 60) (w1:=w3.setCell ⟨g,1,none⟩ (.int .i64 ((a:Int)+1))) ?ho ?hN ?hr ?_);(case ho=>rfl);(case hN=>rfl);(case hg=>rfl);(case hr=>first | (go_simp;done) | (go_simp;rfl));intro w4 ex;have L4:=zA (L3.out.fr (ex▸sa.Fr.set _ _ _ _) (ex▸L3.out.blk.set1 _));have FR4:=zA (show sa.Fr g w w4 from ex▸FR3.out.trans (sa.Fr.set _ _ _ _));have BL4:=zA (show Below w0.heap.size w0 w4 from ex▸BL3.out.setCell HGG.out _);clear ex;clear h0 h1 h2 h3 f1 f2 hx0 fr_;have h0:=L4.out.blk.c0;have h1:=L4.out.blk.c1;have h2:=L4.out.blk.c2;have h3:=L4.out.blk.c3;have f1:=L4.out.blk.fz 1;have f2:=L4.out.blk.fz 2;have hx0:=L4.out.byt;have fr_:=qAC L4.out.res 0))
 go_wp2_with (first | (go_at_call 78;refine (sa.rnum1 HUU.out HRR.out BL4.out HGG.out L4.out.blk (sa.qB3 HC.out HB.out FR4.out) HCC.out (a:Int) 1 (by omega) (by have:=HWQ.out;omega)).mono ?_;rw [HCB.out];rintro e_ w5 ⟨rfl,hx⟩;rw [show (2048 - (2048 - (wq+1)):Int)=wq+1 by omega] at hx;have L5:=zA (L4.out.fr hx.fr hx.blk);have FR5:=zA (FR4.out.trans hx.fr);have BL5:=zA hx.bel;clear hx;clear h0 h1 h2 h3 f1 f2 hx0 fr_;have h0:=L5.out.blk.c0;have h1:=L5.out.blk.c1;have h2:=L5.out.blk.c2;have h3:=L5.out.blk.c3;have f1:=L5.out.blk.fz 1;have f2:=L5.out.blk.fz 2;have hx0:=L5.out.byt;have fr_:=qAC L5.out.res 0))
 go_quiet (fail)
 refine sa.genW1 _ (fun w6 hw => ?_)
 have L6:=zA (hw▸L5.out.below (qAD (Below.refl _ _) _))
 have FR6:=zA (show sa.Fr g w w6 from hw▸FR5.out.trans (sa.Fr.of_below (qAD (Below.refl _ _) _)))
 have BL6:=zA (show Below w0.heap.size w0 w6 from hw▸qAD BL5.out _)
 clear hw
 clear h0 h1 h2 h3 f1 f2 hx0 fr_
 have h0:=L6.out.blk.c0;have h1:=L6.out.blk.c1;have h2:=L6.out.blk.c2;have h3:=L6.out.blk.c3;have f1:=L6.out.blk.fz 1;have f2:=L6.out.blk.fz 2;have hx0:=L6.out.byt;have fr_:=qAC L6.out.res 0
 go_wp2
 have hst:=fun (n_:Nat)=>STR.out (w6.drewN n_) (FR6.out.trans (sa.Fr.of_below (qAD (Below.refl _ _) _)))
 go_quiet (fail)
 clear hst
 refine sa.genW1 _ (fun w7 hw => ?_)
 have L7:=zA (hw▸L6.out.below (qAD (Below.refl _ _) _))
 have FR7:=zA (show sa.Fr g w w7 from hw▸FR6.out.trans (sa.Fr.of_below (qAD (Below.refl _ _) _)))
 have BL7:=zA (show Below w0.heap.size w0 w7 from hw▸qAD BL6.out _)
 clear hw
 clear h0 h1 h2 h3 f1 f2 hx0 fr_
 have h0:=L7.out.blk.c0;have h1:=L7.out.blk.c1;have h2:=L7.out.blk.c2;have h3:=L7.out.blk.c3;have f1:=L7.out.blk.fz 1;have f2:=L7.out.blk.fz 2;have hx0:=L7.out.byt;have fr_:=qAC L7.out.res 0
 go_wp2_with (first | ((with_reducible refine qAW (p:=164) rfl ?_);go_must (refine qAn ?hg (t:=3) (p:=164) (v:=.tmp 162) (w1:=w7.setCell ⟨g,1,none⟩ (.int .i64 ((q2:Int)+(q1:Int)))) ?ho ?hN ?hr ?_);(case ho=>rfl);(case hN=>rfl);(case hg=>rfl);(case hr=>first | (go_simp;done) | (go_simp;rfl));intro w8 ex;have L8:=zA (L7.out.fr (ex▸sa.Fr.set _ _ _ _) (ex▸L7.out.blk.set1 _));have FR8:=zA (show sa.Fr g w w8 from ex▸FR7.out.trans (sa.Fr.set _ _ _ _));have BL8:=zA (show Below w0.heap.size w0 w8 from ex▸BL7.out.setCell HGG.out _);clear ex;clear h0 h1 h2 h3 f1 f2 hx0 fr_;have h0:=L8.out.blk.c0;have h1:=L8.out.blk.c1;have h2:=L8.out.blk.c2;have h3:=L8.out.blk.c3;have f1:=L8.out.blk.fz 1;have f2:=L8.out.blk.fz 2;have hx0:=L8.out.byt;have fr_:=qAC L8.out.res 0) | ((with_reducible refine qAW (p:=173) rfl ?_);go_must (refine qAn ?hg (t:=3) (p:=173) (v:=.tmp 171) (w1:=w8.setCell ⟨g,2,none⟩ (.int .i64 (wq+1+(q1:Int)))) ?ho ?hN ?hr ?_);(case ho=>rfl);(case hN=>rfl);(case hg=>rfl);(case hr=>first | (go_simp;done) | (go_simp;rfl));intro w9 ex;have L9:=zA (L8.out.fr (ex▸sa.Fr.set _ _ _ _) (ex▸L8.out.blk.set2 _));have FR9:=zA (show sa.Fr g w w9 from ex▸FR8.out.trans (sa.Fr.set _ _ _ _));have BL9:=zA (show Below w0.heap.size w0 w9 from ex▸BL8.out.setCell HGG.out _);clear ex;clear h0 h1 h2 h3 f1 f2 hx0 fr_;have h0:=L9.out.blk.c0;have h1:=L9.out.blk.c1;have h2:=L9.out.blk.c2;have h3:=L9.out.blk.c3;have f1:=L9.out.blk.fz 1;have f2:=L9.out.blk.fz 2;have hx0:=L9.out.byt;have fr_:=qAC L9.out.res 0) | ((with_reducible refine qAW (p:=4) rfl ?_);refine sa.qAo rfl rfl 4 _ rfl w.heap.size rfl (.int .i64 3) (.int .i64 0) (.string st) (.slice none 0 0) (.slice none 0 0) rfl (fun q hq=>by simp at hq;rcases hq with rfl | rfl | rfl | rfl | rfl <;> rfl) _ rfl L9.out.res ?_;intro w5_ hres hgr;have HRES:=zA hres;have HGR:=zA hgr;clear hgr hres))
 go_wp2
 refine bodyPost_ret (results_cell_row rfl _ _ w.heap.size 34 _ (0,0) _ rfl HRES.out Try.underlying34 rfl (by kernel_rfl)) rfl ?_
 refine ⟨⟨_,_,rfl,Kd.qA7 _ _ _ _ _,Kd.qA7 _ _ _ _ _⟩, ?_⟩
 rw [show 2048 - (2048 - (wq+1) - (q1:Int))=wq+1+(q1:Int) by omega]
 exact sa.qBa FR9.out L9.out.blk L9.out.ne.2 HGR.out (Nat.le_refl _) HBB.out.size BL9.out
end
end Go.Proofs.Ytdommiicjpjfpaa.X
