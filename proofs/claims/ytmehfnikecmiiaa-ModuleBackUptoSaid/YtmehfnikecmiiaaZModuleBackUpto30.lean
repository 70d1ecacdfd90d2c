import Derived.Test.YtmehfnikecmiiaaZModuleBackUpto3
import Derived.Test.YtmehfnikecmiiaaZModuleBackUpto2
import Derived.WalkLawsBesides
import Derived.Laws.Pointers
import Derived.Shelf.Abstract
import Derived.Deep.DeepMust
import Derived.Deep.QuietTactic
import Derived.BigQuiet
import Derived.Defers
import Derived.Recover
import Derived.Test.YtmehfnikecmiiaaZModuleBackUpto5
import Derived.Test.YtmehfnikecmiiaaZModuleBackUpto7
import Derived.Test.YtmehfnikecmiiaaZModuleBackUpto4
import Derived.Laws.Rows
import Derived.ChangeArms
import Derived.Test.YtmehfnikecmiiaaZModuleBackUpto8
import Derived.Test.YtmehfnikecmiiaaZModuleBackUpto6
import Derived.Test.YtmehfnikecmiiaaZModuleBackUpto29
import Derived.Test.YtmehfnikecmiiaaZModuleBackUpto17
import Derived.Test.YtmehfnikecmiiaaZModuleBackUpto22
import Derived.Test.YtmehfnikecmiiaaZModuleBackUpto20
set_option linter.unusedVariables false
set_option linter.unusedSimpArgs false
namespace Go.Proofs.Ytmehfnikecmiiaa.X
open Go.RowKit Go.Proofs.YtmehfnikecmiiaaW.PrintWords Go.Proofs.YtmehfnikecmiiaaW.PrintLast Go.Proofs.YtmehfnikecmiiaaW.PrintMore Go.Proofs.YtmehfnikecmiiaaW
section
set_option maxHeartbeats 4000000
set_option maxRecDepth 100000
inductive mb.R3 (α:Type):Type
 | ok (x:α) (at_ left:Int):mb.R3 α
 | bad (e p:Int):mb.R3 α
def mb.flt (e p:Int):Ending:=.panicked [{ v:=.iface 109 (.agg #[.int .i64 e,.int .i64 p]),recovered:=false }]
def mb.Fr (g:Nat) (w w':World):Prop:=w.heap.size≤w'.heap.size∧∀ k,k < w.heap.size→k ≠ g→w'.heap[k]?=w.heap[k]?
theorem mb.Fr.refl (g:Nat) (w:World):mb.Fr g w w:=⟨Nat.le_refl _,fun _ _ _=>rfl⟩
theorem mb.Fr.trans {g:Nat} {w w1 w2:World} (h:mb.Fr g w w1) (k:mb.Fr g w1 w2):mb.Fr g w w2:=⟨Nat.le_trans h.1 k.1,fun i hi hne=>(k.2 i (Nat.lt_of_lt_of_le hi h.1) hne).trans (h.2 i hi hne)⟩
theorem mb.Fr.of_below {g:Nat} {w w1:World} (h:Below w.heap.size w w1):mb.Fr g w w1:=⟨h.size,fun i hi _=>h.block i hi⟩
theorem mb.Fr.set (w:World) (g o:Nat) (v:Value):mb.Fr g w (w.setCell ⟨g,o,none⟩ v):=⟨by simp [World.setCell],fun i _ hne=>Below.heap_setCell w ⟨g,o,none⟩ v i hne⟩
def mb.Blk (w:World) (g:Nat) (A:Option Addr) (n c:Nat) (at_ left:Int):Prop:=w.heap[g]?=some (.cells #[.slice A n c,.int .i64 at_,.int .i64 left] 113 (0,0))
theorem mb.Blk.c0 {w:World} {g:Nat} {A:Option Addr} {n c:Nat} {a l:Int} (h:mb.Blk w g A n c a l):w.cell? ⟨g,0,none⟩=some (.slice A n c):=(qAB h 0).trans rfl
theorem mb.Blk.c1 {w:World} {g:Nat} {A:Option Addr} {n c:Nat} {a l:Int} (h:mb.Blk w g A n c a l):w.cell? ⟨g,1,none⟩=some (.int .i64 a):=(qAB h 1).trans rfl
theorem mb.Blk.c2 {w:World} {g:Nat} {A:Option Addr} {n c:Nat} {a l:Int} (h:mb.Blk w g A n c a l):w.cell? ⟨g,2,none⟩=some (.int .i64 l):=(qAB h 2).trans rfl
theorem mb.Blk.fz {w:World} {g:Nat} {A:Option Addr} {n c:Nat} {a l:Int} (h:mb.Blk w g A n c a l) (o:Nat):w.frozen? ⟨g,o,none⟩=false:=qAC h o
theorem mb.Blk.set1 {w:World} {g:Nat} {A:Option Addr} {n c:Nat} {a l:Int} (h:mb.Blk w g A n c a l) (x:Int):mb.Blk (w.setCell ⟨g,1,none⟩ (.int .i64 x)) g A n c x l:=qAx h 1 (.int .i64 x) rfl
theorem mb.Blk.set2 {w:World} {g:Nat} {A:Option Addr} {n c:Nat} {a l:Int} (h:mb.Blk w g A n c a l) (x:Int):mb.Blk (w.setCell ⟨g,2,none⟩ (.int .i64 x)) g A n c a x:=qAx h 2 (.int .i64 x) rfl
theorem mb.Blk.below {w w1:World} {g:Nat} {A:Option Addr} {n c:Nat} {a l:Int} (h:mb.Blk w g A n c a l) (hb:Below w.heap.size w w1):mb.Blk w1 g A n c a l:=qAL h hb
theorem mb.qBD {w w1:World} {g:Nat} {A:Option Addr} {n c:Nat} {a l:Int} {xs:List Int} {A':Option Addr} {n':Nat} (h:(Kd.int .u8).C w A' n' xs) (hB:mb.Blk w g A n c a l) (hF:mb.Fr g w w1):(Kd.int .u8).C w1 A' n' xs:=by
 refine ⟨h.1,h.2.1,fun hp => ?_⟩
 obtain ⟨ad,e,hc⟩:=h.2.2 hp
 refine ⟨ad,e,fun j p hj => ?_⟩
 obtain ⟨cs,h1,h2,h3⟩:=hc j p hj
 refine ⟨cs,h1,h2,fun i u hu => ?_⟩
 have h4:=h3 i u hu
 have hlt:=qs4 w _ h4
 have hne:(ad.add (j * (Kd.int .u8).sz+i)).block ≠ g:=by
  intro e1
  have h5:cs=[.int .u8 p]:=h2
  subst h5
  cases i with
  | succ i=>simp at hu
  | zero =>
   simp at hu
   subst hu
   unfold World.cell? at h4
   rw [e1] at h4
   have hB':w.heap[g]?=some (.cells #[.slice A n c,.int .i64 a,.int .i64 l] 113 (0,0)):=hB
   rw [hB'] at h4
   simp only at h4
   split at h4
   ·cases h4
   ·generalize (ad.add (j * (Kd.int .u8).sz+0)).off=o at h4
    match o,h4 with
    | 0,h4=>simp at h4
    | 1,h4=>simp at h4
    | 2,h4=>simp at h4
    | o+3,h4=>simp at h4
 have h6:=hF.2 _ hlt hne
 rw [← h4]
 simp [World.cell?,h6]
theorem mb.fails1 (e p:Int) (w:World):Calls Try.prog 97 #[.int .i64 e,.int .i64 p] w fun en w'=>en=mb.flt e p∧w'=w:=by
 go_enter Try.func97,Try.ntmps97
 go_wp2
 exact ⟨rfl,rfl,rfl⟩
theorem mb.qBr {w:World} {g:Nat} {A:Option Addr} {m c:Nat} {a l:Int} (hB:mb.Blk w g A m c a l) (n p:Int) (h:n≤l) (hl:l≤2048) (h0:0≤n):Calls Try.prog 98 #[.pointer (some ⟨g,0,none⟩),.int .i64 n,.int .i64 p] w fun e w'=>e=.returned (.tuple #[])∧w'=w.setCell ⟨g,2,none⟩ (.int .i64 (l - n)):=by
 have h2:=hB.c2
 have f2:=hB.fz 2
 have d1:decide (n > l)=false:=decide_eq_false (by omega)
 have d2:decide (l < n)=false:=decide_eq_false (by omega)
 have HN:=qAA.mk (show wrap64 (l - n)=l - n by unfold wrap64;omega)
 clear h hl h0
 go_enter Try.func98,Try.ntmps98
 go_wp2
 go_end0
 exact ⟨rfl,by rw [HN.out]⟩
theorem mb.weighsN {w:World} {g:Nat} {A:Option Addr} {m c:Nat} {a l:Int} (hB:mb.Blk w g A m c a l) (n p:Int) (h:l < n):Calls Try.prog 98 #[.pointer (some ⟨g,0,none⟩),.int .i64 n,.int .i64 p] w fun e w'=>e=mb.flt 42 p∧w'=w:=by
 have h2:=hB.c2
 have d1:decide (n > l)=true:=decide_eq_true h
 have d2:decide (l < n)=true:=decide_eq_true h
 go_enter Try.func98,Try.ntmps98
 go_wp2_with (go_at_call 97;refine (mb.fails1 42 p _).mono ?_;rintro e_ w_ ⟨rfl,rfl⟩;unfold mb.flt)
 exact ⟨rfl,rfl,rfl⟩
structure mb.Uin (bs:List Int) (u i:Int→Int × Int × Int):Prop where
 U:∃ K,∀ a,qAe.f K bs a=some (u a)
 I:∃ K,∀ a,num_Int.f K bs a=some (i a)
 R:∀ a,0≤(u a).1∧(u a).1 < 18446744073709551616
 N:∀ a,(u a).2.2=0→0≤a∧a < (u a).2.1∧(u a).2.1≤bs.length
 M:∀ a,(i a).2.2=0→0≤a∧a < (i a).2.1∧(i a).2.1≤bs.length
 V:∀ a, -9223372036854775808≤(i a).1∧(i a).1≤9223372036854775807
 L:bs.length≤140737488351232
 B:∀ x ∈ bs,0≤x∧x≤255
structure mb.Nx (w0 w w':World) (g:Nat) (A:Option Addr) (m c:Nat) (a l:Int):Prop where
 blk:mb.Blk w' g A m c a l
 fr:mb.Fr g w w'
 bel:Below w0.heap.size w0 w'
structure mb.Nb (w0 w w':World) (g:Nat):Prop where
 fr:mb.Fr g w w'
 bel:Below w0.heap.size w0 w'
theorem mb.uint1 {bs:List Int} {m:Nat} {K:Nat} {r1 r2 r3 a:Int} {w:World} {A:Option Addr} {c:Nat} (hK:qAe.f K bs a=some (r1,r2,r3)) (hC:(Kd.int .u8).C w A m bs) (hc:m≤c):Calls Try.prog 77 #[.slice A m c,.int .i64 a] w fun e w'=>e=.returned (.tuple #[.int .u64 r1,.int .i64 r2,.int .i64 r3])∧qAc w w':=by
 obtain rfl:=hC.1
 exact qAe.calls K A c bs a r1 r2 r3 w hC hc hK
theorem mb.int1 {bs:List Int} {m:Nat} {K:Nat} {r1 r2 r3 a:Int} {w:World} {A:Option Addr} {c:Nat} (hK:num_Int.f K bs a=some (r1,r2,r3)) (hC:(Kd.int .u8).C w A m bs) (hc:m≤c):Calls Try.prog 99 #[.slice A m c,.int .i64 a] w fun e w'=>e=.returned (.tuple #[.int .i64 r1,.int .i64 r2,.int .i64 r3])∧qAc w w':=by
 obtain rfl:=hC.1
 exact num_Int.calls K A c bs a r1 r2 r3 w hC hc hK
theorem mb.numberY {bs:List Int} {u i:Int→Int × Int × Int} (hU:mb.Uin bs u i) {w0 w:World} {g:Nat} {A:Option Addr} {c:Nat} {a l:Int} (hb:Below w0.heap.size w0 w) (hg:w0.heap.size≤g) (hB:mb.Blk w g A bs.length c a l) (hC:(Kd.int .u8).C w A bs.length bs) (hc:bs.length≤c) (he:(u a).2.2=0) :
  Calls Try.prog 111 #[.pointer (some ⟨g,0,none⟩)] w fun e w'=>e=.returned (.tuple #[.int .u64 (u a).1,.int .i64 a])∧mb.Nx w0 w w' g A bs.length c (u a).2.1 l:=by
 obtain ⟨K,hK⟩:=hU.U
 have HK:=qAA.mk (hK a)
 have HB:=qAA.mk hB
 have HC:=qAA.mk hC
 have HCC:=qAA.mk hc
 have HBB:=qAA.mk hb
 have h0:=hB.c0
 have h1:=hB.c1
 have f1:=hB.fz 1
 have d1:((u a).2.2 != 0)=false:=by rw [he];rfl
 have d2:((u a).2.2 == 0)=true:=by rw [he];rfl
 obtain ⟨r1,r2,r3,hr⟩:∃ r1 r2 r3,u a=(r1,r2,r3):=⟨_,_,_,rfl⟩
 rw [hr] at he d1 d2 HK ⊢
 dsimp only at he d1 d2 ⊢
 clear hK hr hB hC hc hb hU
 generalize bs.length=m at *
 subst he
 clear d1 d2
 go_enter Try.func111,Try.ntmps111
 go_wp2_with (go_at_call 77;refine (mb.uint1 HK.out HC.out HCC.out).mono ?_;rintro e_ w1 ⟨rfl,hd⟩;have HD:=qAA.mk hd;clear hd h0 h1 f1;have h0:=(HB.out.below HD.out.below).c0;have h1:=(HB.out.below HD.out.below).c1;have f1:=(HB.out.below HD.out.below).fz 1)
 go_ret2
 exact ⟨rfl,(HB.out.below HD.out.below).set1 _,(mb.Fr.of_below HD.out.below).trans (mb.Fr.set _ _ _ _),(qAU HBB.out HBB.out.size HD.out.below).setCell hg _⟩
theorem mb.numberN {bs:List Int} {u i:Int→Int × Int × Int} (hU:mb.Uin bs u i) {w0 w:World} {g:Nat} {A:Option Addr} {c:Nat} {a l:Int} (hb:Below w0.heap.size w0 w) (hg:w0.heap.size≤g) (hB:mb.Blk w g A bs.length c a l) (hC:(Kd.int .u8).C w A bs.length bs) (hc:bs.length≤c) (he:(u a).2.2 ≠ 0) :
  Calls Try.prog 111 #[.pointer (some ⟨g,0,none⟩)] w fun e w'=>e=mb.flt 41 a∧mb.Nb w0 w w' g:=by
 obtain ⟨K,hK⟩:=hU.U
 have HK:=qAA.mk (hK a)
 have HB:=qAA.mk hB
 have HC:=qAA.mk hC
 have HCC:=qAA.mk hc
 have HBB:=qAA.mk hb
 have h0:=hB.c0
 have h1:=hB.c1
 have f1:=hB.fz 1
 obtain ⟨r1,r2,r3,hr⟩:∃ r1 r2 r3,u a=(r1,r2,r3):=⟨_,_,_,rfl⟩
 rw [hr] at he HK
 dsimp only at he
 have d1:(r3 != 0)=true:=bne_iff_ne.2 he
 have d2:(r3 == 0)=false:=beq_eq_false_iff_ne.2 he
 have d3:decide (r3=0)=false:=decide_eq_false he
 clear hK hr hB hC hc hb hU he
 generalize bs.length=m at *
 go_enter Try.func111,Try.ntmps111
 go_wp2_with (first | (go_at_call 77;refine (mb.uint1 HK.out HC.out HCC.out).mono ?_;rintro e_ w1 ⟨rfl,hd⟩;have HD:=qAA.mk hd;clear hd h0 h1 f1;have h0:=(HB.out.below HD.out.below).c0;have h1:=(HB.out.below HD.out.below).c1;have f1:=(HB.out.below HD.out.below).fz 1) | (go_at_call 97;refine (mb.fails1 41 a _).mono ?_;rintro e_ w_ ⟨rfl,rfl⟩;unfold mb.flt))
 exact ⟨rfl,rfl,mb.Fr.of_below HD.out.below,qAU HBB.out HBB.out.size HD.out.below⟩
theorem mb.countY {bs:List Int} {u i:Int→Int × Int × Int} (hU:mb.Uin bs u i) {w0 w:World} {g:Nat} {A:Option Addr} {c:Nat} {a l:Int} (hb:Below w0.heap.size w0 w) (hg:w0.heap.size≤g) (hB:mb.Blk w g A bs.length c a l) (hC:(Kd.int .u8).C w A bs.length bs) (hc:bs.length≤c) (tag each:Int) (he:(u a).2.2=0) (h1e:1≤each) (h2e:each≤2) (hl0:0≤l) (hl1:l≤2048) (hn:(u a).1≤l / each) :
  Calls Try.prog 100 #[.pointer (some ⟨g,0,none⟩),.int .i64 tag,.int .u64 each] w fun e w'=>e=.returned (.int .i64 (u a).1)∧mb.Nx w0 w w' g A bs.length c (u a).2.1 l:=by
 have HN:=qAA.mk (mb.numberY hU hb hg hB hC hc he)
 have hr0:=(hU.R a).1
 clear hU hb hg hB hC hc he
 generalize bs.length=m at *
 obtain ⟨r1,r2,r3,hr⟩:∃ r1 r2 r3,u a=(r1,r2,r3):=⟨_,_,_,rfl⟩
 rw [hr] at HN hr0 hn ⊢
 dsimp only at HN hr0 hn ⊢
 clear hr
 have h2k:r1≤2048:=by
  have:l / each≤2048:=Int.le_trans (Int.ediv_le_self _ hl0) hl1
  omega
 have d1:decide (r1 > l / each)=false:=decide_eq_false (by omega)
 have d2:decide (l / each < r1)=false:=decide_eq_false (by omega)
 have d3:(each=0)=False:=eq_false (by omega)
 have d4:(each == 0)=false:=beq_eq_false_iff_ne.2 (by omega)
 clear hn
 go_enter Try.func100,Try.ntmps100
 go_wp2_with (go_at_call 111;refine HN.out.mono ?_;rintro e_ w1 ⟨rfl,hx⟩;have HX:=qAA.mk hx;have h2:=hx.blk.c2;clear hx)
 go_ret
 exact ⟨rfl,HX.out⟩
theorem mb.countE {bs:List Int} {u i:Int→Int × Int × Int} (hU:mb.Uin bs u i) {w0 w:World} {g:Nat} {A:Option Addr} {c:Nat} {a l:Int} (hb:Below w0.heap.size w0 w) (hg:w0.heap.size≤g) (hB:mb.Blk w g A bs.length c a l) (hC:(Kd.int .u8).C w A bs.length bs) (hc:bs.length≤c) (tag each:Int) (he:(u a).2.2 ≠ 0) :
  Calls Try.prog 100 #[.pointer (some ⟨g,0,none⟩),.int .i64 tag,.int .u64 each] w fun e w'=>e=mb.flt 41 a∧mb.Nb w0 w w' g:=by
 have HN:=qAA.mk (mb.numberN hU hb hg hB hC hc he)
 clear hU hb hg hB hC hc he
 go_enter Try.func100,Try.ntmps100
 go_wp2_with (go_at_call 111;refine HN.out.mono ?_;rintro e_ w1 ⟨rfl,hx⟩;have HX:=qAA.mk hx;clear hx;unfold mb.flt)
 exact ⟨rfl,rfl,HX.out⟩
theorem mb.countN {bs:List Int} {u i:Int→Int × Int × Int} (hU:mb.Uin bs u i) {w0 w:World} {g:Nat} {A:Option Addr} {c:Nat} {a l:Int} (hb:Below w0.heap.size w0 w) (hg:w0.heap.size≤g) (hB:mb.Blk w g A bs.length c a l) (hC:(Kd.int .u8).C w A bs.length bs) (hc:bs.length≤c) (tag each:Int) (he:(u a).2.2=0) (h1e:1≤each) (h2e:each≤2) (hl0:0≤l) (hl1:l≤2048) (hn:l / each < (u a).1) :
  Calls Try.prog 100 #[.pointer (some ⟨g,0,none⟩),.int .i64 tag,.int .u64 each] w fun e w'=>e=mb.flt 42 tag∧mb.Nb w0 w w' g:=by
 have HN:=qAA.mk (mb.numberY hU hb hg hB hC hc he)
 clear hU hb hg hB hC hc he
 generalize bs.length=m at *
 obtain ⟨r1,r2,r3,hr⟩:∃ r1 r2 r3,u a=(r1,r2,r3):=⟨_,_,_,rfl⟩
 rw [hr] at HN hn
 dsimp only at HN hn
 clear hr
 have d1:decide (r1 > l / each)=true:=decide_eq_true (by omega)
 have d2:decide (l / each < r1)=true:=decide_eq_true (by omega)
 have d3:(each=0)=False:=eq_false (by omega)
 have d4:(each == 0)=false:=beq_eq_false_iff_ne.2 (by omega)
 clear hn
 go_enter Try.func100,Try.ntmps100
 go_wp2_with (first | (go_at_call 111;refine HN.out.mono ?_;rintro e_ w1 ⟨rfl,hx⟩;have HX:=qAA.mk hx;have h2:=hx.blk.c2;clear hx) | (go_at_call 97;refine (mb.fails1 42 tag _).mono ?_;rintro e_ w_ ⟨rfl,rfl⟩;unfold mb.flt))
 exact ⟨rfl,rfl,HX.out.fr,HX.out.bel⟩
theorem mb.cutN {bs:List Int} {u i:Int→Int × Int × Int} (hU:mb.Uin bs u i) {w0 w:World} {g:Nat} {A:Option Addr} {c:Nat} {a l:Int} (hb:Below w0.heap.size w0 w) (hg:w0.heap.size≤g) (hB:mb.Blk w g A bs.length c a l) (hC:(Kd.int .u8).C w A bs.length bs) (hc:bs.length≤c) (n p:Int) (ha0:0≤a) (ha1:a≤bs.length) (hL:bs.length≤140737488351232) (hn:(bs.length:Int) - a < n) :
  Calls Try.prog 101 #[.pointer (some ⟨g,0,none⟩),.int .i64 n,.int .i64 p] w fun e w'=>e=mb.flt 41 p∧mb.Nb w0 w w' g:=by
 have HBB:=qAA.mk hb
 have h0:=hB.c0
 have h1:=hB.c1
 clear hU hb hg hB hC hc
 generalize bs.length=m at *
 have d1:decide (n > (m:Int) - a)=true:=decide_eq_true (by omega)
 have d2:decide ((m:Int) - a < n)=true:=decide_eq_true (by omega)
 have hm0:(m:Int)≤140737488351232:=by omega
 clear hn hL
 go_enter Try.func101,Try.ntmps101
 go_wp2
 go_quiet (fail)
 go_wp2_with (go_at_call 97;refine (mb.fails1 41 p _).mono ?_;rintro e_ w_ ⟨rfl,rfl⟩;unfold mb.flt)
 exact ⟨rfl,rfl,mb.Fr.of_below (qAI (Below.refl _ _) _),qAI HBB.out _⟩
theorem mb.cutY {bs:List Int} {u i:Int→Int × Int × Int} (hU:mb.Uin bs u i) {w0 w:World} {g:Nat} {A:Option Addr} {c:Nat} {a l:Int} (hb:Below w0.heap.size w0 w) (hg:w0.heap.size≤g) (hB:mb.Blk w g A bs.length c a l) (hC:(Kd.int .u8).C w A bs.length bs) (hc:bs.length≤c) (n p:Int) (ha0:0≤a) (ha1:a≤bs.length) (hL:bs.length≤140737488351232) (hn0:0≤n) (hn:n≤(bs.length:Int) - a) :
  Calls Try.prog 101 #[.pointer (some ⟨g,0,none⟩),.int .i64 n,.int .i64 p] w fun e w'=>e=.returned (.string (strOfNums ((bs.drop a.toNat).take n.toNat)))∧mb.Nx w0 w w' g A bs.length c (a+n) l:=by
 obtain ⟨a,rfl⟩:=Int.eq_ofNat_of_zero_le ha0
 obtain ⟨n,rfl⟩:=Int.eq_ofNat_of_zero_le hn0
 rw [Int.toNat_natCast,Int.toNat_natCast]
 have HBB:=qAA.mk hb
 have HB:=qAA.mk hB
 have h0:=hB.c0
 have h1:=hB.c1
 have f1:=hB.fz 1
 have h0':(w.setCell ⟨g,1,none⟩ (.int .i64 ((a:Int)+(n:Int)))).cell? ⟨g,0,none⟩=some (.slice A bs.length c):=(hB.set1 ((a:Int)+(n:Int))).c0
 have h1':(w.setCell ⟨g,1,none⟩ (.int .i64 ((a:Int)+(n:Int)))).cell? ⟨g,1,none⟩=some (.int .i64 ((a:Int)+(n:Int))):=(hB.set1 ((a:Int)+(n:Int))).c1
 have hC2:=mb.qBD hC hB (mb.Fr.set w g 1 (.int .i64 ((a:Int)+(n:Int))))
 obtain ⟨i0,hi0,_,hsz0,_⟩:=info_parts info5
 have hcm:=cut_mid (P:=Try.prog) 29 5 .i64 .i64 Try.underlying29 hi0 1 hsz0 A bs.length c (a:Int) ((a:Int)+(n:Int)) (by omega) (by omega) (by omega) hc
 rw [Int.toNat_natCast,show ((a:Int)+(n:Int)).toNat - a=n by omega] at hcm
 have hlen:((bs.drop a).take n).length=n:=by rw [List.length_take,List.length_drop];omega
 have hC3:=Kd.C_take (m:=n) (Kd.C_drop (m:=a) hC2 (by omega) hc) (by rw [List.length_drop];omega)
 rw [hlen] at hC3
 have hC3':(Kd.int .u8).C (w.setCell ⟨g,1,none⟩ (.int .i64 ((a:Int)+(n:Int)))) (if c=a then A else A.map (·.add (a * 1))) n ((bs.drop a).take n):=hC3
 generalize (if c=a then A else A.map (·.add (a * 1)))=A2 at hcm hC3'
 have hcv:=fun (n1 n_:Nat)=>Kd.qBc (P:=Try.prog) (A:=A2) (c:=c - a) Try.underlying29 Try.underlying5 Try.underlying9 (Kd.qBA (w:=(w.drewN n1).setCell ⟨g,1,none⟩ (.int .i64 ((a:Int)+(n:Int)))) (by rw [hlen];exact Kd.qBA hC3' n1:(Kd.int .u8).C _ A2 ((bs.drop a).take n).length ((bs.drop a).take n)) n_)
 rw [hlen] at hcv
 generalize strOfNums ((bs.drop a).take n)=st at hcv ⊢
 have hm0:(bs.length:Int)≤140737488351232:=by omega
 have d1:decide ((n:Int) > (bs.length:Int) - (a:Int))=false:=decide_eq_false (by omega)
 have d2:decide ((bs.length:Int) - (a:Int) < (n:Int))=false:=decide_eq_false (by omega)
 have ha2:(a:Int)≤(bs.length:Int):=ha1
 have hn2:(n:Int)≤(bs.length:Int) - (a:Int):=hn
 clear hU hb hB hC hC2 hC3 hC3' hlen hi0 hsz0
 generalize bs.length=m at *
 have hw1:IntKind.i64.wrap (a:Int)=(a:Int):=by rw [IntKind.wrap_i64];omega
 have hw2:IntKind.i64.wrap ((a:Int)+(n:Int) - (n:Int))=(a:Int):=by rw [IntKind.wrap_i64];omega
 go_enter Try.func101,Try.ntmps101
 go_wp2
 go_quiet (fail)
 go_wp2
 go_quiet (fail)
 go_wp2
 go_ret
 exact ⟨rfl,((HB.out.below (qAI (Below.refl _ _) _)).set1 _).below (qAI (Below.refl _ _) _),((mb.Fr.of_below (qAI (Below.refl _ _) _)).trans (mb.Fr.set _ _ _ _)).trans (mb.Fr.of_below (qAI (Below.refl _ _) _)),qAI ((qAI HBB.out _).setCell hg _) _⟩
theorem mb.texts_fr {w w1:World} {g:Nat} {A:Option Addr} {n c:Nat} {a l:Int} {xs:List ByteArray} {A':Option Addr} {n':Nat} (h:Kd.string.C w A' n' xs) (hB:mb.Blk w g A n c a l) (hF:mb.Fr g w w1):Kd.string.C w1 A' n' xs:=by
 refine ⟨h.1,h.2.1,fun hp => ?_⟩
 obtain ⟨ad,e,hc⟩:=h.2.2 hp
 refine ⟨ad,e,fun j p hj => ?_⟩
 obtain ⟨cs,h1,h2,h3⟩:=hc j p hj
 refine ⟨cs,h1,h2,fun i u hu => ?_⟩
 have h4:=h3 i u hu
 have hlt:=qs4 w _ h4
 have hne:(ad.add (j * Kd.string.sz+i)).block ≠ g:=by
  intro e1
  have h5:cs=[.string p]:=h2
  subst h5
  cases i with
  | succ i=>simp at hu
  | zero =>
   simp at hu
   subst hu
   unfold World.cell? at h4
   rw [e1] at h4
   have hB':w.heap[g]?=some (.cells #[.slice A n c,.int .i64 a,.int .i64 l] 113 (0,0)):=hB
   rw [hB'] at h4
   simp only at h4
   split at h4
   ·cases h4
   ·generalize (ad.add (j * Kd.string.sz+0)).off=o at h4
    match o,h4 with
    | 0,h4=>simp at h4
    | 1,h4=>simp at h4
    | 2,h4=>simp at h4
    | o+3,h4=>simp at h4
 have h6:=hF.2 _ hlt hne
 rw [← h4]
 simp [World.cell?,h6]
def mb.keyS (bs:List Int) (u:Int→Int × Int × Int) (ks:List ByteArray) (a l:Int):mb.R3 ByteArray :=
 if (u a).2.2 ≠ 0 then .bad 41 a else
 if (u a).1 > 32 then .bad 41 a else
 if (u a).1 > (bs.length:Int) - (u a).2.1 then .bad 41 a else
 let k:=strOfNums ((bs.drop (u a).2.1.toNat).take (u a).1.toNat)
 if 0 < ks.length∧¬ Op.bytesLess (rdOf ByteArray.empty ks ((ks.length:Int) - 1)).toList k.toList=true then .bad 41 a else
 if 1+(k.size:Int) > l then .bad 42 a else .ok k ((u a).2.1+(u a).1) (l - (1+(k.size:Int)))
def mb.Got {α:Type} (r:mb.R3 α) (enc:α→Value) (w0 w:World) (g:Nat) (A:Option Addr) (m c:Nat) (e:Ending) (w':World):Prop :=
 match r with
 | .ok x a' l'=>e=.returned (enc x)∧mb.Nx w0 w w' g A m c a' l'
 | .bad f p=>e=mb.flt f p∧mb.Nb w0 w w' g
theorem mb.qBf (bs:List Int):(strOfNums bs).size=bs.length:=by simp [strOfNums,ByteArray.size]
theorem mb.key1 {bs:List Int} {u i:Int→Int × Int × Int} (hU:mb.Uin bs u i) {w0 w:World} {g:Nat} {A:Option Addr} {c:Nat} {a l:Int} (hb:Below w0.heap.size w0 w) (hg:w0.heap.size≤g) (hB:mb.Blk w g A bs.length c a l) (hC:(Kd.int .u8).C w A bs.length bs) (hc:bs.length≤c) (KA:Option Addr) (kc:Nat) (ks:List ByteArray) (hK:Kd.string.C w KA ks.length ks) (hl0:0≤l) (hl1:l≤2048) (hkc:ks.length≤kc) (hkl:ks.length≤4096) :
  Calls Try.prog 102 #[.pointer (some ⟨g,0,none⟩),.slice KA ks.length kc] w (mb.Got (mb.keyS bs u ks a l) (fun k=>.string k) w0 w g A bs.length c):=by
 unfold mb.keyS
 by_cases he:(u a).2.2 ≠ 0
 ·rw [if_pos he]
  have HN:=qAA.mk (mb.numberN hU hb hg hB hC hc he)
  clear hU hb hg hB hC hc he hK
  go_enter Try.func102,Try.ntmps102
  go_wp2_with (go_at_call 111;refine HN.out.mono ?_;rintro e_ w1 ⟨rfl,hx⟩;have HX:=qAA.mk hx;clear hx;unfold mb.flt)
  exact ⟨rfl,rfl,HX.out⟩
 rw [if_neg he]
 have he0:(u a).2.2=0:=Classical.byContradiction he
 have HN:=qAA.mk (mb.numberY hU hb hg hB hC hc he0)
 have hr0:=hU.R a
 have hrN:=hU.N a he0
 have HUL:=qAA.mk hU.L
 have HUU:=qAA.mk hU
 clear hU he he0
 obtain ⟨r1,r2,r3,hr⟩:∃ r1 r2 r3,u a=(r1,r2,r3):=⟨_,_,_,rfl⟩
 rw [hr] at HN hr0 hrN ⊢
 dsimp only at HN hr0 hrN ⊢
 clear hr
 by_cases h1:r1 > 32
 ·rw [if_pos h1]
  have d1:decide (r1 > 32)=true:=decide_eq_true h1
  have d2:decide (32 < r1)=true:=decide_eq_true h1
  clear hb hg hB hC hc hK h1
  go_enter Try.func102,Try.ntmps102
  go_wp2_with (first | (go_at_call 111;refine HN.out.mono ?_;rintro e_ w1 ⟨rfl,hx⟩;have HX:=qAA.mk hx;clear hx) | (go_at_call 97;refine (mb.fails1 41 a _).mono ?_;rintro e_ w_ ⟨rfl,rfl⟩;unfold mb.flt))
  exact ⟨rfl,rfl,HX.out.fr,HX.out.bel⟩
 rw [if_neg h1]
 have d1:decide (r1 > 32)=false:=decide_eq_false h1
 have d2:decide (32 < r1)=false:=decide_eq_false (by omega)
 have hcv:IntKind.i64.wrap r1=r1:=by rw [IntKind.wrap_i64];omega
 have HB:=qAA.mk hB
 have HC:=qAA.mk hC
 have HCC:=qAA.mk hc
 have HGG:=qAA.mk hg
 have HBB:=qAA.mk hb
 have HK:=qAA.mk hK
 have HKL:=qAA.mk hkl
 have HL1:=qAA.mk hl1
 have HR0:=qAA.mk hr0.1
 have HR2:=qAA.mk (show 0≤r2∧r2≤bs.length by omega)
 clear hb hg hB hC hc hK hrN hl1
 by_cases h2:r1 > (bs.length:Int) - r2
 ·rw [if_pos h2]
  have HCUT:=qAA.mk (show (bs.length:Int) - r2 < r1 from h2)
  clear h2 hr0
  go_enter Try.func102,Try.ntmps102
  go_wp2_with (first | (go_at_call 111;refine HN.out.mono ?_;rintro e_ w1 ⟨rfl,hx⟩;have HX:=qAA.mk hx;clear hx) | (go_at_call 101;refine (mb.cutN HUU.out HX.out.bel HGG.out HX.out.blk (mb.qBD HC.out HB.out HX.out.fr) HCC.out r1 a HR2.out.1 HR2.out.2 HUL.out HCUT.out).mono ?_;rintro e_ w2 ⟨rfl,hx⟩;have HX2:=qAA.mk hx;clear hx;unfold mb.flt))
  exact ⟨rfl,rfl,HX.out.fr.trans HX2.out.fr,HX2.out.bel⟩
 rw [if_neg h2]
 have HCUT:=qAA.mk (show r1≤(bs.length:Int) - r2 by omega)
 obtain ⟨k,hk⟩:∃ k,strOfNums ((bs.drop r2.toNat).take r1.toNat)=k:=⟨_,rfl⟩
 have hks:k.size≤32:=by rw [← hk,mb.qBf,List.length_take];omega
 have HST:=qAA.mk hk
 rw [hk]
 clear h2 hk hr0
 have hs0:wrap64 (1+(k.size:Int))=1+(k.size:Int):=by unfold wrap64;omega
 by_cases hn:0 < ks.length
 ·obtain ⟨q,hq⟩:∃ q,ks.length=q+1:=⟨ks.length - 1,by omega⟩
  have HQ:=qAA.mk hq
  have n0:(ks.length:Int) - 1=(q:Int):=by omega
  rw [n0]
  obtain ⟨last,hlast⟩:∃ s,rdOf ByteArray.empty ks (q:Int)=s:=⟨_,rfl⟩
  rw [hlast]
  have HLAST:=qAA.mk hlast
  have hq2:q≤4096:=by omega
  clear hlast n0
  by_cases hlt:Op.bytesLess last.toList k.toList=true
  ·rw [if_neg (fun h=>h.2 hlt)]
   rw [hq]
   clear hq hn hkc hkl
   by_cases hw:1+(k.size:Int) > l
   ·rw [if_pos hw]
    have HW:=qAA.mk (show l < 1+(k.size:Int) from hw)
    clear hw
    go_enter Try.func102,Try.ntmps102
    go_wp2_with (first | (go_at_call 111;refine HN.out.mono ?_;rintro e_ w1 ⟨rfl,hx⟩;have HX:=qAA.mk hx;clear hx) | (go_at_call 101;refine (mb.cutY HUU.out HX.out.bel HGG.out HX.out.blk (mb.qBD HC.out HB.out HX.out.fr) HCC.out r1 a HR2.out.1 HR2.out.2 HUL.out HR0.out HCUT.out).mono ?_;rw [HST.out];rintro e_ w2 ⟨rfl,hx⟩;have HX2:=qAA.mk hx;clear hx;obtain ⟨adK,eK,hx_⟩:=Kd.qBz (mb.texts_fr (mb.texts_fr HK.out HB.out HX.out.fr) HX.out.blk HX2.out.fr) (q:Int) (by omega) (by have:=HQ.out;omega);cases eK;rw [Int.toNat_natCast,HLAST.out] at hx_;have hx:=hx_;clear hx_) | (go_at_call 98;refine (mb.weighsN HX2.out.blk (1+(k.size:Int)) a HW.out).mono ?_;rintro e_ w3 ⟨rfl,hx⟩;have HX3:=qAA.mk hx;clear hx;unfold mb.flt))
    exact ⟨rfl,rfl,HX3.out▸HX.out.fr.trans HX2.out.fr,HX3.out▸HX2.out.bel⟩
   ·rw [if_neg hw]
    have HW:=qAA.mk (show 1+(k.size:Int)≤l by omega)
    clear hw
    go_enter Try.func102,Try.ntmps102
    go_wp2_with (first | (go_at_call 111;refine HN.out.mono ?_;rintro e_ w1 ⟨rfl,hx⟩;have HX:=qAA.mk hx;clear hx) | (go_at_call 101;refine (mb.cutY HUU.out HX.out.bel HGG.out HX.out.blk (mb.qBD HC.out HB.out HX.out.fr) HCC.out r1 a HR2.out.1 HR2.out.2 HUL.out HR0.out HCUT.out).mono ?_;rw [HST.out];rintro e_ w2 ⟨rfl,hx⟩;have HX2:=qAA.mk hx;clear hx;obtain ⟨adK,eK,hx_⟩:=Kd.qBz (mb.texts_fr (mb.texts_fr HK.out HB.out HX.out.fr) HX.out.blk HX2.out.fr) (q:Int) (by omega) (by have:=HQ.out;omega);cases eK;rw [Int.toNat_natCast,HLAST.out] at hx_;have hx:=hx_;clear hx_) | (go_at_call 98;refine (mb.qBr HX2.out.blk (1+(k.size:Int)) a HW.out HL1.out (by omega)).mono ?_;rintro e_ w3 ⟨rfl,hx⟩;have HX3:=qAA.mk hx;clear hx))
    go_ret
    exact ⟨rfl,HX3.out▸HX2.out.blk.set2 _,HX3.out▸(HX.out.fr.trans (HX2.out.fr.trans (mb.Fr.set _ _ _ _))),HX3.out▸HX2.out.bel.setCell HGG.out _⟩
  ·rw [if_pos ⟨hn,hlt⟩]
   have hlf:Op.bytesLess last.toList k.toList=false:=by simpa using hlt
   rw [hq]
   clear hlt hn hq hkc hkl
   go_enter Try.func102,Try.ntmps102
   go_wp2_with (first | (go_at_call 111;refine HN.out.mono ?_;rintro e_ w1 ⟨rfl,hx⟩;have HX:=qAA.mk hx;clear hx) | (go_at_call 101;refine (mb.cutY HUU.out HX.out.bel HGG.out HX.out.blk (mb.qBD HC.out HB.out HX.out.fr) HCC.out r1 a HR2.out.1 HR2.out.2 HUL.out HR0.out HCUT.out).mono ?_;rw [HST.out];rintro e_ w2 ⟨rfl,hx⟩;have HX2:=qAA.mk hx;clear hx;obtain ⟨adK,eK,hx_⟩:=Kd.qBz (mb.texts_fr (mb.texts_fr HK.out HB.out HX.out.fr) HX.out.blk HX2.out.fr) (q:Int) (by omega) (by have:=HQ.out;omega);cases eK;rw [Int.toNat_natCast,HLAST.out] at hx_;have hx:=hx_;clear hx_) | (go_at_call 97;refine (mb.fails1 41 a _).mono ?_;rintro e_ w_ ⟨rfl,rfl⟩;unfold mb.flt))
   exact ⟨rfl,rfl,HX.out.fr.trans HX2.out.fr,HX2.out.bel⟩
 ·rw [if_neg (fun h=>hn h.1)]
  have h0:ks.length=0:=by omega
  rw [h0]
  clear hn h0 hkc hkl
  by_cases hw:1+(k.size:Int) > l
  ·rw [if_pos hw]
   have HW:=qAA.mk (show l < 1+(k.size:Int) from hw)
   clear hw
   go_enter Try.func102,Try.ntmps102
   go_wp2_with (first | (go_at_call 111;refine HN.out.mono ?_;rintro e_ w1 ⟨rfl,hx⟩;have HX:=qAA.mk hx;clear hx) | (go_at_call 101;refine (mb.cutY HUU.out HX.out.bel HGG.out HX.out.blk (mb.qBD HC.out HB.out HX.out.fr) HCC.out r1 a HR2.out.1 HR2.out.2 HUL.out HR0.out HCUT.out).mono ?_;rw [HST.out];rintro e_ w2 ⟨rfl,hx⟩;have HX2:=qAA.mk hx;clear hx;skip) | (go_at_call 98;refine (mb.weighsN HX2.out.blk (1+(k.size:Int)) a HW.out).mono ?_;rintro e_ w3 ⟨rfl,hx⟩;have HX3:=qAA.mk hx;clear hx;unfold mb.flt))
   exact ⟨rfl,rfl,HX3.out▸HX.out.fr.trans HX2.out.fr,HX3.out▸HX2.out.bel⟩
  ·rw [if_neg hw]
   have HW:=qAA.mk (show 1+(k.size:Int)≤l by omega)
   clear hw
   go_enter Try.func102,Try.ntmps102
   go_wp2_with (first | (go_at_call 111;refine HN.out.mono ?_;rintro e_ w1 ⟨rfl,hx⟩;have HX:=qAA.mk hx;clear hx) | (go_at_call 101;refine (mb.cutY HUU.out HX.out.bel HGG.out HX.out.blk (mb.qBD HC.out HB.out HX.out.fr) HCC.out r1 a HR2.out.1 HR2.out.2 HUL.out HR0.out HCUT.out).mono ?_;rw [HST.out];rintro e_ w2 ⟨rfl,hx⟩;have HX2:=qAA.mk hx;clear hx;skip) | (go_at_call 98;refine (mb.qBr HX2.out.blk (1+(k.size:Int)) a HW.out HL1.out (by omega)).mono ?_;rintro e_ w3 ⟨rfl,hx⟩;have HX3:=qAA.mk hx;clear hx))
   go_ret
   exact ⟨rfl,HX3.out▸HX2.out.blk.set2 _,HX3.out▸(HX.out.fr.trans (HX2.out.fr.trans (mb.Fr.set _ _ _ _))),HX3.out▸HX2.out.bel.setCell HGG.out _⟩
def mb.qCY (u:Int→Int × Int × Int) (tag each a l:Int):mb.R3 Int :=
 if (u a).2.2 ≠ 0 then .bad 41 a else if l / each < (u a).1 then .bad 42 tag else .ok (u a).1 (u a).2.1 l
def mb.arrL (f:Int→Int→mb.R3 S48):Nat→List S48→Int→Int→mb.R3 (List S48)
 | 0,acc,a,l=>.ok acc a l
 | n+1,acc,a,l=>match f a l with
  | .bad e p=>.bad e p
  | .ok x a1 l1=>mb.arrL f n (acc ++ [x]) a1 l1
def mb.recL (bs:List Int) (u:Int→Int × Int × Int) (f:Int→Int→mb.R3 S48):Nat→List ByteArray→List S48→Int→Int→mb.R3 (List ByteArray × List S48)
 | 0,ks,acc,a,l=>.ok (ks,acc) a l
 | n+1,ks,acc,a,l=>match mb.keyS bs u ks a l with
  | .bad e p=>.bad e p
  | .ok k a1 l1=>match f a1 l1 with
   | .bad e p=>.bad e p
   | .ok x a2 l2=>mb.recL bs u f n (ks ++ [k]) (acc ++ [x]) a2 l2
def mb.valS (bs:List Int) (u i:Int→Int × Int × Int):Nat→Int→Int→mb.R3 S48
 | d,a,l =>
  if a=(bs.length:Int) ∨ rd bs a > 6 then .bad 41 a
  else match d with
   | 0=>.bad 42 a
   | d+1=>if 1 > l then .bad 42 a
    else if rd bs a=1 then .ok ⟨1,0,⟨#[]⟩,[],[]⟩ (a+1) (l - 1)
    else if rd bs a=2 then .ok ⟨1,1,⟨#[]⟩,[],[]⟩ (a+1) (l - 1)
    else if rd bs a=3 then (if (i (a+1)).2.2 ≠ 0 then .bad 41 (a+1) else .ok ⟨2,(i (a+1)).1,⟨#[]⟩,[],[]⟩ (i (a+1)).2.1 (l - 1))
    else if rd bs a=4 then (match mb.qCY u a 1 (a+1) (l - 1) with
     | .bad e p=>.bad e p
     | .ok n a1 l1=>if (bs.length:Int) - a1 < n then .bad 41 (a+1) else .ok ⟨3,0,strOfNums ((bs.drop a1.toNat).take n.toNat),[],[]⟩ (a1+n) (l1 - n))
    else if rd bs a=5 then (match mb.qCY u a 1 (a+1) (l - 1) with
     | .bad e p=>.bad e p
     | .ok n a1 l1=>match mb.arrL (mb.valS bs u i d) n.toNat [] a1 l1 with
      | .bad e p=>.bad e p
      | .ok vs a2 l2=>.ok ⟨4,0,⟨#[]⟩,vs,[]⟩ a2 l2)
    else if rd bs a=6 then (match mb.qCY u a 2 (a+1) (l - 1) with
     | .bad e p=>.bad e p
     | .ok n a1 l1=>match mb.recL bs u (mb.valS bs u i d) n.toNat [] [] a1 l1 with
      | .bad e p=>.bad e p
      | .ok (ks,vs) a2 l2=>.ok ⟨5,0,⟨#[]⟩,vs,ks⟩ a2 l2)
    else .ok ⟨0,0,⟨#[]⟩,[],[]⟩ (a+1) (l - 1)
def mb.GotV (r:mb.R3 S48) (w0 w:World) (g:Nat) (A:Option Addr) (m c:Nat) (e:Ending) (w':World):Prop :=
 match r with
 | .ok x a' l'=>(∃ v3 v4:Value,e=.returned (.agg #[.int .i64 x.f0,.int .i64 x.f1,.string x.f2,v3,v4])∧k48.R 48 w' w0.heap.size (fun k=>w.heap.size≤k) v3 x.f3∧Kd.string.R 9 w' w0.heap.size (fun k=>w.heap.size≤k) v4 x.f4)∧mb.Nx w0 w w' g A m c a' l'
 | .bad f p=>e=mb.flt f p∧mb.Nb w0 w w' g
section
variable {ops:Array Oper} {rest:List Oper} {o:Oper} {a:Act} {Q:Exit→Act→World→Prop}
theorem mb.qBV {W:World} (hgd:o.guard=none) (hN:o.dst=none) (p:Tmp) (x:Operand) (ho:o.op=.store 48 (.tmp p) x) (rb:Nat) (haddr:a.eval (.tmp p)=.pointer (some ⟨rb,0,none⟩)) (v0 v1 v2 v3 v4:Value) (hx:a.eval x=.agg #[v0,v1,v2,v3,v4]) (h1:∀ q ∈ [v0,v1,v2,v3,v4],q.oneCell'=true) (cur:Array Value) (hsz:cur.size=5) (hh:W.heap[rb]?=some (.cells cur 48 (0,0)))
  (h:∀ W1,W1.heap[rb]?=some (.cells #[v0,v1,v2,v3,v4] 48 (0,0))→W.grownBy W1 (some rb)→wpList Try.prog ops Q rest a W1):wpList Try.prog ops Q (o :: rest) a W:=by
 have hu:(Value.agg #[v0,v1,v2,v3,v4]).cells.toList=[v0,v1,v2,v3,v4]:=by simp [Value.cells]
 have hrun:(Instr.storeAt 48 (.pointer (some ⟨rb,0,none⟩)) (.agg #[v0,v1,v2,v3,v4])).run Try.prog W=.ok () (W.setCells rb 0 [v0,v1,v2,v3,v4]) :=
  qB4 48 _ [v0,v1,v2,v3,v4] hh hu (by kernel_rfl) (by rw [hsz];simp) h1
 obtain ⟨cur',c1,c2,c3⟩:=qBs [v0,v1,v2,v3,v4] 0 W cur hh (by rw [hsz];simp)
 have hc:cur'=#[v0,v1,v2,v3,v4]:=by
  apply Array.toList_inj.1
  rw [c3]
  have:cur.toList.drop 5=[]:=List.drop_eq_nil_of_le (by rw [Array.length_toList];omega)
  simp [this]
 subst hc
 obtain ⟨s1,s2,s3,s4⟩:=qBj rb [v0,v1,v2,v3,v4] 0 W
 refine wpList_plain hgd fun K hK => ?_
 unfold Oper.wp execOp
 simp only [ho,haddr,hx,Sem.run_bind,Sem.run_pure,Result.andThen_ok,hrun]
 show K (a.put o.dst undef) _
 rw [hN]
 exact hK a _ (h _ c1 ⟨s1,s2,s3,by omega,fun k hk hne=>qBi _ _ k (fun e=>hne (by rw [e]))⟩)
end
structure mb.Ly (W:World) (g:Nat) (A:Option Addr) (m c:Nat) (a l:Int) (p:Addr) (b:Int) (rb:Nat) (cs:Array Value):Prop where
 blk:mb.Blk W g A m c a l
 byt:W.cell? p=some (.int .u8 b)
 res:W.heap[rb]?=some (.cells cs 48 (0,0))
theorem mb.Ly.below {W W1:World} {g:Nat} {A:Option Addr} {m c:Nat} {a l:Int} {p:Addr} {b:Int} {rb:Nat} {cs:Array Value} (h:mb.Ly W g A m c a l p b rb cs) (hb:Below W.heap.size W W1):mb.Ly W1 g A m c a l p b rb cs :=
 ⟨h.blk.below hb,(hb.cell (qs4 W _ h.byt)).trans h.byt,qAL h.res hb⟩
theorem mb.Ly.ne {W:World} {g:Nat} {A:Option Addr} {m c:Nat} {a l:Int} {p:Addr} {b:Int} {rb:Nat} {cs:Array Value} (h:mb.Ly W g A m c a l p b rb cs):p.block ≠ g∧rb ≠ g:=by
 constructor
 ·intro e1
  have h4:=h.byt
  unfold World.cell? at h4
  rw [e1] at h4
  have hB':W.heap[g]?=some (.cells #[.slice A m c,.int .i64 a,.int .i64 l] 113 (0,0)):=h.blk
  rw [hB'] at h4
  simp only at h4
  split at h4
  ·cases h4
  ·generalize p.off=o at h4
   match o,h4 with
   | 0,h4=>simp at h4
   | 1,h4=>simp at h4
   | 2,h4=>simp at h4
   | o+3,h4=>simp at h4
 ·rintro rfl
  have hB':W.heap[rb]?=some (.cells #[.slice A m c,.int .i64 a,.int .i64 l] 113 (0,0)):=h.blk
  have:=h.res
  rw [hB'] at this
  injection this with this
  injection this with _ this
  exact absurd this (by decide)
theorem mb.Ly.fr {W W1:World} {g:Nat} {A:Option Addr} {m c:Nat} {a l a' l':Int} {p:Addr} {b:Int} {rb:Nat} {cs:Array Value} (h:mb.Ly W g A m c a l p b rb cs) (hF:mb.Fr g W W1) (hB:mb.Blk W1 g A m c a' l'):mb.Ly W1 g A m c a' l' p b rb cs:=by
 have hlt:=qs4 W _ h.byt
 have h6:=hF.2 _ hlt h.ne.1
 exact ⟨hB,by rw [← h.byt];simp [World.cell?,h6],(hF.2 _ (qAX h.res) h.ne.2).trans h.res⟩
theorem mb.fin_nx {w0 w W W5:World} {g:Nat} {A:Option Addr} {m c:Nat} {a l:Int} {rb:Nat} (hF:mb.Fr g w W) (hB:mb.Blk W g A m c a l) (hne:rb ≠ g) (hG:W.grownBy W5 (some rb)) (hrb:w.heap.size≤rb) (hsz:w0.heap.size≤w.heap.size) (hb:Below w0.heap.size w0 W):mb.Nx w0 w W5 g A m c a l :=
 ⟨(hG.block g (qAX hB) (fun e=>hne (Option.some.inj e).symm)).trans hB,
  ⟨Nat.le_trans hF.1 hG.size,fun k hk hne2=>(hG.block k (Nat.lt_of_lt_of_le hk hF.1) (fun e=>absurd (Option.some.inj e) (by omega))).trans (hF.2 k hk hne2)⟩,
  ⟨hG.os.trans hb.os,hG.tape.trans hb.tape,hG.output.trans hb.output,Nat.le_trans hb.size hG.size,fun k hk=>(hG.block k (by have:=hb.size;omega) (fun e=>absurd (Option.some.inj e) (by omega))).trans (hb.block k hk)⟩⟩
def mb.arrV:mb.R3 (List S48)→mb.R3 S48
 | .bad e p=>.bad e p
 | .ok vs a l=>.ok ⟨4,0,⟨#[]⟩,vs,[]⟩ a l
def mb.recV:mb.R3 (List ByteArray × List S48)→mb.R3 S48
 | .bad e p=>.bad e p
 | .ok (ks,vs) a l=>.ok ⟨5,0,⟨#[]⟩,vs,ks⟩ a l
section
variable {P:Program} {ops:Array Oper} {Q:Exit→Act→World→Prop}
theorem mb.goesT {oi:Oper} {N:Option Tmp} {a:Act} {w:World} {K:Act→World→Prop} {f:FuncId} {fn:Func} {ao:Array Operand} {ts:Array TypeId} (hf:P.funcs[f]?=some fn) (hname:(fn.name == "runtime.NumGoroutine")=false) (hb:fn.body.isSome=true) (args:Array Value)
  (hw:Region.wanted oi (yielded ops a.tmps)=true) (hN:oi.dst=N) (hop:oi.op=.call { callee:=.value (.func f),args:=ao,argTypes:=ts }) (hargs:ao.map a.eval=args)
  (h:Calls P f args w fun e w'=>(∃ v,e=.returned v∧K (a.put N v) w') ∨ (∃ ps,e=.panicked ps∧Q (.panic ps) a w')):if Region.wanted oi (yielded ops a.tmps)=true then Oper.wp P oi a w K Q else K (a.put N undef) w:=by
 have hrun:(execOp a.eval oi).run P w=.ok (.enter f args) w:=by
  have he:=enters_ hf hname hb args w
  unfold execOp
  simp [hop,resolve,Deferred.ofValue,invoke,Act.eval,hargs,he]
 rw [if_pos hw]
 subst hN
 unfold Oper.wp
 rw [hrun,Oper.upon_enter]
 refine h.mono fun e w'' hh => ?_
 rcases hh with ⟨v,rfl,hk⟩ | ⟨ps,rfl,hk⟩
 ·exact hk
 ·exact hk
end
end
end Go.Proofs.Ytmehfnikecmiiaa.X
namespace Go.Proofs.Ytmehfnikecmiiaa.X
open Go.RowKit Go.Proofs.YtmehfnikecmiiaaW.PrintWords Go.Proofs.YtmehfnikecmiiaaW.PrintLast Go.Proofs.YtmehfnikecmiiaaW.PrintMore Go.Proofs.YtmehfnikecmiiaaW
section
set_option maxHeartbeats 4000000
set_option maxRecDepth 100000
theorem mb.val_t1 {bs:List Int} {u i:Int→Int × Int × Int} (hU:mb.Uin bs u i) {w0 w:World} {g:Nat} {A:Option Addr} {c:Nat} {a l:Int} (hb:Below w0.heap.size w0 w) (hg:w0.heap.size≤g) (hB:mb.Blk w g A bs.length c a l) (hC:(Kd.int .u8).C w A bs.length bs) (hc:bs.length≤c) (within:Int) (hw:(within == 8)=false) (ha0:0≤a) (ha1:a < (bs.length:Int)) (hl0:1≤l) (hl1:l≤2048) (ht:rd bs a=1) :
  Calls Try.prog 89 #[.pointer (some ⟨g,0,none⟩),.int .i64 within] w (mb.GotV (.ok ⟨1,0,⟨#[]⟩,[],[]⟩ (a+1) (l - 1)) w0 w g A bs.length c):=by
 have HB:=qAA.mk hB
 have HC:=qAA.mk hC
 have HCC:=qAA.mk hc
 have HBB:=qAA.mk hb
 have HGG:=qAA.mk hg
 have HLL:=qAA.mk hU.L
 have HUU:=qAA.mk hU
 have hgl:g < w.heap.size:=qAX hB
 have hu25:=Try.underlying48
 obtain ⟨a,rfl⟩:=Int.eq_ofNat_of_zero_le ha0
 have t0:((a:Int) == (bs.length:Int))=false:=beq_eq_false_iff_ne.2 (by omega)
 have t1:(a=bs.length)=False:=eq_false (by omega)
 have t2:decide (a=bs.length)=false:=decide_eq_false (by omega)
 have t3:(a:Int) < (bs.length:Int):=ha1
 have t4:a < bs.length:=by omega
 have t5:decide (a < bs.length)=true:=decide_eq_true t4
 have hwr:=qAA.mk (show wrap64 ((a:Int)+1)=(a:Int)+1 by have:=hU.L;unfold wrap64;omega)
 have HL0:=qAA.mk hl0
 have HL1:=qAA.mk hl1
 obtain ⟨ad,hA,hx0⟩:=Kd.qB7 hC (a:Int) (by omega) ha1
 subst hA
 rw [Int.toNat_natCast,ht] at hx0
 have HBW:=qAA.mk ((Below.refl w.heap.size w).alloc (Nat.le_refl _) (.cells #[.int .i64 0,.int .i64 0,.string ⟨#[]⟩,.slice none 0 0,.slice none 0 0] 48))
 have L1:=qAA.mk (show mb.Ly (w.alloc (.cells #[.int .i64 0,.int .i64 0,.string ⟨#[]⟩,.slice none 0 0,.slice none 0 0] 48)) g (some ad) bs.length c (a:Int) l (ad.add a) 1 w.heap.size #[.int .i64 0,.int .i64 0,.string ⟨#[]⟩,.slice none 0 0,.slice none 0 0] from ⟨HB.out.below HBW.out,(HBW.out.cell (qs4 w _ hx0)).trans hx0,by simpa using heap_alloc_new w _⟩)
 clear hx0
 have h0:=L1.out.blk.c0;have h1:=L1.out.blk.c1;have h2:=L1.out.blk.c2;have f1:=L1.out.blk.fz 1;have f2:=L1.out.blk.fz 2;have hx0:=L1.out.byt;have fr_:=qAC L1.out.res 0
 have HF4:∀ W4,W4=((w.alloc (.cells #[.int .i64 0,.int .i64 0,.string ⟨#[]⟩,.slice none 0 0,.slice none 0 0] 48)).setCell ⟨g,2,none⟩ (.int .i64 (l - 1))).setCell ⟨g,1,none⟩ (.int .i64 ((a:Int)+1))→mb.Fr g w W4∧Below w0.heap.size w0 W4:=by
  rintro _ rfl
  exact ⟨((mb.Fr.of_below HBW.out).trans (mb.Fr.set _ _ _ _)).trans (mb.Fr.set _ _ _ _),((HBB.out.alloc HBB.out.size _).setCell hg _).setCell hg _⟩
 have HF4:=qAA.mk HF4
 clear hU hb hg hB hC hc ha1 hl0 hl1 ha0 hgl
 generalize bs.length=m at *
 go_enter Try.func89,Try.ntmps89
 go_wp2_with (first | (go_at_call 98;refine (mb.qBr L1.out.blk 1 (a:Int) HL0.out HL1.out (by omega)).mono ?_;rintro e_ w3 ⟨rfl,hx⟩;have L3:=qAA.mk (L1.out.fr (hx▸mb.Fr.set _ _ _ _) (hx▸L1.out.blk.set2 _));have HX3:=qAA.mk hx;clear hx;clear h0 h1 h2 f1 f2 hx0 fr_;have h0:=L3.out.blk.c0;have h1:=L3.out.blk.c1;have h2:=L3.out.blk.c2;have f1:=L3.out.blk.fz 1;have f2:=L3.out.blk.fz 2;have hx0:=L3.out.byt;have fr_:=qAC L3.out.res 0) | ((with_reducible refine qAh (p:=48) rfl ?_);go_must (refine qA3 ?hg (t:=3) (p:=48) (v:=.tmp 46) (w1:=w3.setCell ⟨g,1,none⟩ (.int .i64 (wrap64 ((a:Int)+1)))) ?ho ?hN ?hr ?_);(case ho=>rfl);(case hN=>rfl);(case hg=>rfl);(case hr=>first | (go_simp;done) | (go_simp;rfl));intro w4 e4;rw [hwr.out] at e4;have L4:=qAA.mk (L3.out.fr (e4▸mb.Fr.set _ _ _ _) (e4▸L3.out.blk.set1 _));have HX4:=qAA.mk e4;clear e4;have HFW:=qAA.mk (HF4.out _ (HX4.out.trans (by rw [HX3.out])));clear h0 h1 h2 f1 f2 hx0 fr_;have h0:=L4.out.blk.c0;have h1:=L4.out.blk.c1;have h2:=L4.out.blk.c2;have f1:=L4.out.blk.fz 1;have f2:=L4.out.blk.fz 2;have hx0:=L4.out.byt;have fr_:=qAC L4.out.res 0) | ((with_reducible refine qAh (p:=4) rfl ?_);refine mb.qBV rfl rfl 4 _ rfl w.heap.size rfl (.int .i64 1) (.int .i64 0) (.string ⟨#[]⟩) (.slice none 0 0) (.slice none 0 0) rfl (fun q hq=>by simp at hq;rcases hq with rfl | rfl | rfl | rfl | rfl <;> rfl) _ rfl L4.out.res ?_;intro w5 hres hgr;have HRES:=qAA.mk hres;have HGR:=qAA.mk hgr;clear hgr hres))
 go_wp2
 refine bodyPost_ret (results_cell_row rfl _ _ w.heap.size 48 _ (0,0) _ rfl HRES.out Try.underlying48 rfl (by kernel_rfl)) rfl ?_
 exact ⟨⟨_,_,rfl,Kd.qBx _ _ _ _ _,Kd.qBx _ _ _ _ _⟩,mb.fin_nx HFW.out.1 L4.out.blk L4.out.ne.2 HGR.out (Nat.le_refl _) HBB.out.size HFW.out.2⟩
theorem mb.val_t2 {bs:List Int} {u i:Int→Int × Int × Int} (hU:mb.Uin bs u i) {w0 w:World} {g:Nat} {A:Option Addr} {c:Nat} {a l:Int} (hb:Below w0.heap.size w0 w) (hg:w0.heap.size≤g) (hB:mb.Blk w g A bs.length c a l) (hC:(Kd.int .u8).C w A bs.length bs) (hc:bs.length≤c) (within:Int) (hw:(within == 8)=false) (ha0:0≤a) (ha1:a < (bs.length:Int)) (hl0:1≤l) (hl1:l≤2048) (ht:rd bs a=2) :
  Calls Try.prog 89 #[.pointer (some ⟨g,0,none⟩),.int .i64 within] w (mb.GotV (.ok ⟨1,1,⟨#[]⟩,[],[]⟩ (a+1) (l - 1)) w0 w g A bs.length c):=by
 have HB:=qAA.mk hB
 have HC:=qAA.mk hC
 have HCC:=qAA.mk hc
 have HBB:=qAA.mk hb
 have HGG:=qAA.mk hg
 have HLL:=qAA.mk hU.L
 have HUU:=qAA.mk hU
 have hgl:g < w.heap.size:=qAX hB
 have hu25:=Try.underlying48
 obtain ⟨a,rfl⟩:=Int.eq_ofNat_of_zero_le ha0
 have t0:((a:Int) == (bs.length:Int))=false:=beq_eq_false_iff_ne.2 (by omega)
 have t1:(a=bs.length)=False:=eq_false (by omega)
 have t2:decide (a=bs.length)=false:=decide_eq_false (by omega)
 have t3:(a:Int) < (bs.length:Int):=ha1
 have t4:a < bs.length:=by omega
 have t5:decide (a < bs.length)=true:=decide_eq_true t4
 have hwr:=qAA.mk (show wrap64 ((a:Int)+1)=(a:Int)+1 by have:=hU.L;unfold wrap64;omega)
 have HL0:=qAA.mk hl0
 have HL1:=qAA.mk hl1
 obtain ⟨ad,hA,hx0⟩:=Kd.qB7 hC (a:Int) (by omega) ha1
 subst hA
 rw [Int.toNat_natCast,ht] at hx0
 have HBW:=qAA.mk ((Below.refl w.heap.size w).alloc (Nat.le_refl _) (.cells #[.int .i64 0,.int .i64 0,.string ⟨#[]⟩,.slice none 0 0,.slice none 0 0] 48))
 have L1:=qAA.mk (show mb.Ly (w.alloc (.cells #[.int .i64 0,.int .i64 0,.string ⟨#[]⟩,.slice none 0 0,.slice none 0 0] 48)) g (some ad) bs.length c (a:Int) l (ad.add a) 2 w.heap.size #[.int .i64 0,.int .i64 0,.string ⟨#[]⟩,.slice none 0 0,.slice none 0 0] from ⟨HB.out.below HBW.out,(HBW.out.cell (qs4 w _ hx0)).trans hx0,by simpa using heap_alloc_new w _⟩)
 clear hx0
 have h0:=L1.out.blk.c0;have h1:=L1.out.blk.c1;have h2:=L1.out.blk.c2;have f1:=L1.out.blk.fz 1;have f2:=L1.out.blk.fz 2;have hx0:=L1.out.byt;have fr_:=qAC L1.out.res 0
 have HF4:∀ W4,W4=((w.alloc (.cells #[.int .i64 0,.int .i64 0,.string ⟨#[]⟩,.slice none 0 0,.slice none 0 0] 48)).setCell ⟨g,2,none⟩ (.int .i64 (l - 1))).setCell ⟨g,1,none⟩ (.int .i64 ((a:Int)+1))→mb.Fr g w W4∧Below w0.heap.size w0 W4:=by
  rintro _ rfl
  exact ⟨((mb.Fr.of_below HBW.out).trans (mb.Fr.set _ _ _ _)).trans (mb.Fr.set _ _ _ _),((HBB.out.alloc HBB.out.size _).setCell hg _).setCell hg _⟩
 have HF4:=qAA.mk HF4
 clear hU hb hg hB hC hc ha1 hl0 hl1 ha0 hgl
 generalize bs.length=m at *
 go_enter Try.func89,Try.ntmps89
 go_wp2_with (first | (go_at_call 98;refine (mb.qBr L1.out.blk 1 (a:Int) HL0.out HL1.out (by omega)).mono ?_;rintro e_ w3 ⟨rfl,hx⟩;have L3:=qAA.mk (L1.out.fr (hx▸mb.Fr.set _ _ _ _) (hx▸L1.out.blk.set2 _));have HX3:=qAA.mk hx;clear hx;clear h0 h1 h2 f1 f2 hx0 fr_;have h0:=L3.out.blk.c0;have h1:=L3.out.blk.c1;have h2:=L3.out.blk.c2;have f1:=L3.out.blk.fz 1;have f2:=L3.out.blk.fz 2;have hx0:=L3.out.byt;have fr_:=qAC L3.out.res 0) | ((with_reducible refine qAh (p:=48) rfl ?_);go_must (refine qA3 ?hg (t:=3) (p:=48) (v:=.tmp 46) (w1:=w3.setCell ⟨g,1,none⟩ (.int .i64 (wrap64 ((a:Int)+1)))) ?ho ?hN ?hr ?_);(case ho=>rfl);(case hN=>rfl);(case hg=>rfl);(case hr=>first | (go_simp;done) | (go_simp;rfl));intro w4 e4;rw [hwr.out] at e4;have L4:=qAA.mk (L3.out.fr (e4▸mb.Fr.set _ _ _ _) (e4▸L3.out.blk.set1 _));have HX4:=qAA.mk e4;clear e4;have HFW:=qAA.mk (HF4.out _ (HX4.out.trans (by rw [HX3.out])));clear h0 h1 h2 f1 f2 hx0 fr_;have h0:=L4.out.blk.c0;have h1:=L4.out.blk.c1;have h2:=L4.out.blk.c2;have f1:=L4.out.blk.fz 1;have f2:=L4.out.blk.fz 2;have hx0:=L4.out.byt;have fr_:=qAC L4.out.res 0) | ((with_reducible refine qAh (p:=4) rfl ?_);refine mb.qBV rfl rfl 4 _ rfl w.heap.size rfl (.int .i64 1) (.int .i64 1) (.string ⟨#[]⟩) (.slice none 0 0) (.slice none 0 0) rfl (fun q hq=>by simp at hq;rcases hq with rfl | rfl | rfl | rfl | rfl <;> rfl) _ rfl L4.out.res ?_;intro w5 hres hgr;have HRES:=qAA.mk hres;have HGR:=qAA.mk hgr;clear hgr hres))
 go_wp2
 refine bodyPost_ret (results_cell_row rfl _ _ w.heap.size 48 _ (0,0) _ rfl HRES.out Try.underlying48 rfl (by kernel_rfl)) rfl ?_
 exact ⟨⟨_,_,rfl,Kd.qBx _ _ _ _ _,Kd.qBx _ _ _ _ _⟩,mb.fin_nx HFW.out.1 L4.out.blk L4.out.ne.2 HGR.out (Nat.le_refl _) HBB.out.size HFW.out.2⟩
theorem mb.val_t0 {bs:List Int} {u i:Int→Int × Int × Int} (hU:mb.Uin bs u i) {w0 w:World} {g:Nat} {A:Option Addr} {c:Nat} {a l:Int} (hb:Below w0.heap.size w0 w) (hg:w0.heap.size≤g) (hB:mb.Blk w g A bs.length c a l) (hC:(Kd.int .u8).C w A bs.length bs) (hc:bs.length≤c) (within:Int) (hw:(within == 8)=false) (ha0:0≤a) (ha1:a < (bs.length:Int)) (hl0:1≤l) (hl1:l≤2048) (ht:rd bs a=0) :
  Calls Try.prog 89 #[.pointer (some ⟨g,0,none⟩),.int .i64 within] w (mb.GotV (.ok ⟨0,0,⟨#[]⟩,[],[]⟩ (a+1) (l - 1)) w0 w g A bs.length c):=by
 have HB:=qAA.mk hB
 have HC:=qAA.mk hC
 have HCC:=qAA.mk hc
 have HBB:=qAA.mk hb
 have HGG:=qAA.mk hg
 have HLL:=qAA.mk hU.L
 have HUU:=qAA.mk hU
 have hgl:g < w.heap.size:=qAX hB
 have hu25:=Try.underlying48
 obtain ⟨a,rfl⟩:=Int.eq_ofNat_of_zero_le ha0
 have t0:((a:Int) == (bs.length:Int))=false:=beq_eq_false_iff_ne.2 (by omega)
 have t1:(a=bs.length)=False:=eq_false (by omega)
 have t2:decide (a=bs.length)=false:=decide_eq_false (by omega)
 have t3:(a:Int) < (bs.length:Int):=ha1
 have t4:a < bs.length:=by omega
 have t5:decide (a < bs.length)=true:=decide_eq_true t4
 have hwr:=qAA.mk (show wrap64 ((a:Int)+1)=(a:Int)+1 by have:=hU.L;unfold wrap64;omega)
 have HL0:=qAA.mk hl0
 have HL1:=qAA.mk hl1
 obtain ⟨ad,hA,hx0⟩:=Kd.qB7 hC (a:Int) (by omega) ha1
 subst hA
 rw [Int.toNat_natCast,ht] at hx0
 have HBW:=qAA.mk ((Below.refl w.heap.size w).alloc (Nat.le_refl _) (.cells #[.int .i64 0,.int .i64 0,.string ⟨#[]⟩,.slice none 0 0,.slice none 0 0] 48))
 have L1:=qAA.mk (show mb.Ly (w.alloc (.cells #[.int .i64 0,.int .i64 0,.string ⟨#[]⟩,.slice none 0 0,.slice none 0 0] 48)) g (some ad) bs.length c (a:Int) l (ad.add a) 0 w.heap.size #[.int .i64 0,.int .i64 0,.string ⟨#[]⟩,.slice none 0 0,.slice none 0 0] from ⟨HB.out.below HBW.out,(HBW.out.cell (qs4 w _ hx0)).trans hx0,by simpa using heap_alloc_new w _⟩)
 clear hx0
 have h0:=L1.out.blk.c0;have h1:=L1.out.blk.c1;have h2:=L1.out.blk.c2;have f1:=L1.out.blk.fz 1;have f2:=L1.out.blk.fz 2;have hx0:=L1.out.byt;have fr_:=qAC L1.out.res 0
 have HF4:∀ W4,W4=((w.alloc (.cells #[.int .i64 0,.int .i64 0,.string ⟨#[]⟩,.slice none 0 0,.slice none 0 0] 48)).setCell ⟨g,2,none⟩ (.int .i64 (l - 1))).setCell ⟨g,1,none⟩ (.int .i64 ((a:Int)+1))→mb.Fr g w W4∧Below w0.heap.size w0 W4:=by
  rintro _ rfl
  exact ⟨((mb.Fr.of_below HBW.out).trans (mb.Fr.set _ _ _ _)).trans (mb.Fr.set _ _ _ _),((HBB.out.alloc HBB.out.size _).setCell hg _).setCell hg _⟩
 have HF4:=qAA.mk HF4
 clear hU hb hg hB hC hc ha1 hl0 hl1 ha0 hgl
 generalize bs.length=m at *
 go_enter Try.func89,Try.ntmps89
 go_wp2_with (first | (go_at_call 98;refine (mb.qBr L1.out.blk 1 (a:Int) HL0.out HL1.out (by omega)).mono ?_;rintro e_ w3 ⟨rfl,hx⟩;have L3:=qAA.mk (L1.out.fr (hx▸mb.Fr.set _ _ _ _) (hx▸L1.out.blk.set2 _));have HX3:=qAA.mk hx;clear hx;clear h0 h1 h2 f1 f2 hx0 fr_;have h0:=L3.out.blk.c0;have h1:=L3.out.blk.c1;have h2:=L3.out.blk.c2;have f1:=L3.out.blk.fz 1;have f2:=L3.out.blk.fz 2;have hx0:=L3.out.byt;have fr_:=qAC L3.out.res 0) | ((with_reducible refine qAh (p:=48) rfl ?_);go_must (refine qA3 ?hg (t:=3) (p:=48) (v:=.tmp 46) (w1:=w3.setCell ⟨g,1,none⟩ (.int .i64 (wrap64 ((a:Int)+1)))) ?ho ?hN ?hr ?_);(case ho=>rfl);(case hN=>rfl);(case hg=>rfl);(case hr=>first | (go_simp;done) | (go_simp;rfl));intro w4 e4;rw [hwr.out] at e4;have L4:=qAA.mk (L3.out.fr (e4▸mb.Fr.set _ _ _ _) (e4▸L3.out.blk.set1 _));have HX4:=qAA.mk e4;clear e4;have HFW:=qAA.mk (HF4.out _ (HX4.out.trans (by rw [HX3.out])));clear h0 h1 h2 f1 f2 hx0 fr_;have h0:=L4.out.blk.c0;have h1:=L4.out.blk.c1;have h2:=L4.out.blk.c2;have f1:=L4.out.blk.fz 1;have f2:=L4.out.blk.fz 2;have hx0:=L4.out.byt;have fr_:=qAC L4.out.res 0) | ((with_reducible refine qAh (p:=4) rfl ?_);refine mb.qBV rfl rfl 4 _ rfl w.heap.size rfl (.int .i64 0) (.int .i64 0) (.string ⟨#[]⟩) (.slice none 0 0) (.slice none 0 0) rfl (fun q hq=>by simp at hq;rcases hq with rfl | rfl | rfl | rfl | rfl <;> rfl) _ rfl L4.out.res ?_;intro w5 hres hgr;have HRES:=qAA.mk hres;have HGR:=qAA.mk hgr;clear hgr hres))
 go_wp2
 refine bodyPost_ret (results_cell_row rfl _ _ w.heap.size 48 _ (0,0) _ rfl HRES.out Try.underlying48 rfl (by kernel_rfl)) rfl ?_
 exact ⟨⟨_,_,rfl,Kd.qBx _ _ _ _ _,Kd.qBx _ _ _ _ _⟩,mb.fin_nx HFW.out.1 L4.out.blk L4.out.ne.2 HGR.out (Nat.le_refl _) HBB.out.size HFW.out.2⟩
theorem mb.val_t3 {bs:List Int} {u i:Int→Int × Int × Int} (hU:mb.Uin bs u i) {w0 w:World} {g:Nat} {A:Option Addr} {c:Nat} {a l:Int} (hb:Below w0.heap.size w0 w) (hg:w0.heap.size≤g) (hB:mb.Blk w g A bs.length c a l) (hC:(Kd.int .u8).C w A bs.length bs) (hc:bs.length≤c) (within:Int) (hw:(within == 8)=false) (ha0:0≤a) (ha1:a < (bs.length:Int)) (hl0:1≤l) (hl1:l≤2048) (ht:rd bs a=3) (he:(i (a+1)).2.2=0) :
  Calls Try.prog 89 #[.pointer (some ⟨g,0,none⟩),.int .i64 within] w (mb.GotV (.ok ⟨2,(i (a+1)).1,⟨#[]⟩,[],[]⟩ (i (a+1)).2.1 (l - 1)) w0 w g A bs.length c):=by
 have HB:=qAA.mk hB
 have HC:=qAA.mk hC
 have HCC:=qAA.mk hc
 have HBB:=qAA.mk hb
 have HGG:=qAA.mk hg
 have HLL:=qAA.mk hU.L
 have HUU:=qAA.mk hU
 have hgl:g < w.heap.size:=qAX hB
 have hu25:=Try.underlying48
 obtain ⟨a,rfl⟩:=Int.eq_ofNat_of_zero_le ha0
 have t0:((a:Int) == (bs.length:Int))=false:=beq_eq_false_iff_ne.2 (by omega)
 have t1:(a=bs.length)=False:=eq_false (by omega)
 have t2:decide (a=bs.length)=false:=decide_eq_false (by omega)
 have t3:(a:Int) < (bs.length:Int):=ha1
 have t4:a < bs.length:=by omega
 have t5:decide (a < bs.length)=true:=decide_eq_true t4
 have hwr:=qAA.mk (show wrap64 ((a:Int)+1)=(a:Int)+1 by have:=hU.L;unfold wrap64;omega)
 have HL0:=qAA.mk hl0
 have HL1:=qAA.mk hl1
 obtain ⟨ad,hA,hx0⟩:=Kd.qB7 hC (a:Int) (by omega) ha1
 subst hA
 rw [Int.toNat_natCast,ht] at hx0
 have HBW:=qAA.mk ((Below.refl w.heap.size w).alloc (Nat.le_refl _) (.cells #[.int .i64 0,.int .i64 0,.string ⟨#[]⟩,.slice none 0 0,.slice none 0 0] 48))
 have L1:=qAA.mk (show mb.Ly (w.alloc (.cells #[.int .i64 0,.int .i64 0,.string ⟨#[]⟩,.slice none 0 0,.slice none 0 0] 48)) g (some ad) bs.length c (a:Int) l (ad.add a) 3 w.heap.size #[.int .i64 0,.int .i64 0,.string ⟨#[]⟩,.slice none 0 0,.slice none 0 0] from ⟨HB.out.below HBW.out,(HBW.out.cell (qs4 w _ hx0)).trans hx0,by simpa using heap_alloc_new w _⟩)
 clear hx0
 have h0:=L1.out.blk.c0;have h1:=L1.out.blk.c1;have h2:=L1.out.blk.c2;have f1:=L1.out.blk.fz 1;have f2:=L1.out.blk.fz 2;have hx0:=L1.out.byt;have fr_:=qAC L1.out.res 0
 have HF4:∀ W4,W4=((w.alloc (.cells #[.int .i64 0,.int .i64 0,.string ⟨#[]⟩,.slice none 0 0,.slice none 0 0] 48)).setCell ⟨g,2,none⟩ (.int .i64 (l - 1))).setCell ⟨g,1,none⟩ (.int .i64 ((a:Int)+1))→mb.Fr g w W4∧Below w0.heap.size w0 W4:=by
  rintro _ rfl
  exact ⟨((mb.Fr.of_below HBW.out).trans (mb.Fr.set _ _ _ _)).trans (mb.Fr.set _ _ _ _),((HBB.out.alloc HBB.out.size _).setCell hg _).setCell hg _⟩
 have HF4:=qAA.mk HF4
 obtain ⟨K,hK⟩:=hU.I
 have HK:=qAA.mk (hK ((a:Int)+1))
 obtain ⟨r1,r2,r3,hr⟩:∃ r1 r2 r3,i ((a:Int)+1)=(r1,r2,r3):=⟨_,_,_,rfl⟩
 rw [hr] at he HK ⊢
 dsimp only at he ⊢
 subst he
 clear hK hr
 clear hU hb hg hB hC hc ha1 hl0 hl1 ha0 hgl
 generalize bs.length=m at *
 go_enter Try.func89,Try.ntmps89
 go_wp2_with (first | (go_at_call 98;refine (mb.qBr L1.out.blk 1 (a:Int) HL0.out HL1.out (by omega)).mono ?_;rintro e_ w3 ⟨rfl,hx⟩;have L3:=qAA.mk (L1.out.fr (hx▸mb.Fr.set _ _ _ _) (hx▸L1.out.blk.set2 _));have HX3:=qAA.mk hx;clear hx;clear h0 h1 h2 f1 f2 hx0 fr_;have h0:=L3.out.blk.c0;have h1:=L3.out.blk.c1;have h2:=L3.out.blk.c2;have f1:=L3.out.blk.fz 1;have f2:=L3.out.blk.fz 2;have hx0:=L3.out.byt;have fr_:=qAC L3.out.res 0) | ((with_reducible refine qAh (p:=48) rfl ?_);go_must (refine qA3 ?hg (t:=3) (p:=48) (v:=.tmp 46) (w1:=w3.setCell ⟨g,1,none⟩ (.int .i64 (wrap64 ((a:Int)+1)))) ?ho ?hN ?hr ?_);(case ho=>rfl);(case hN=>rfl);(case hg=>rfl);(case hr=>first | (go_simp;done) | (go_simp;rfl));intro w4 e4;rw [hwr.out] at e4;have L4:=qAA.mk (L3.out.fr (e4▸mb.Fr.set _ _ _ _) (e4▸L3.out.blk.set1 _));have HX4:=qAA.mk e4;clear e4;have HFW:=qAA.mk (HF4.out _ (HX4.out.trans (by rw [HX3.out])));clear h0 h1 h2 f1 f2 hx0 fr_;have h0:=L4.out.blk.c0;have h1:=L4.out.blk.c1;have h2:=L4.out.blk.c2;have f1:=L4.out.blk.fz 1;have f2:=L4.out.blk.fz 2;have hx0:=L4.out.byt;have fr_:=qAC L4.out.res 0))
 clear h0 h1 h2 f1 f2 hx0 fr_
 refine qAn (n:=16) (S:=fun w'=>w'.cell? ⟨g,0,none⟩=some (.slice (some ad) m c)∧w'.cell? ⟨g,1,none⟩=some (.int .i64 ((a:Int)+1))) (ds:=[]) #[qF,qF,qF,qF,qF,qF,qF,qF,qF,qF,qF,qF,qF,qF,qF,qF] (by kernel_rfl) rfl rfl ⟨(L4.out.below (qAM (Below.refl _ _))).blk.c0,(L4.out.below (qAM (Below.refl _ _))).blk.c1⟩ (fun hHeld => ?_)
 generalize hwd:w4.drew=wd at hHeld ⊢
 have Ld:=qAA.mk (hwd▸L4.out.below (qAM (Below.refl _ _)))
 have HFd:=qAA.mk (hwd▸(⟨HFW.out.1.trans (mb.Fr.of_below (qAM (Below.refl _ _))),qAM HFW.out.2⟩:mb.Fr g w w4.drew∧Below w0.heap.size w0 w4.drew))
 clear hwd
 refine pU 0 65 ?_
 refine pU 1 66 ?_
 refine pU 2 67 ?_
 refine pU 4 69 ?_
 refine pU 5 70 ?_
 refine pU 6 71 ?_
 refine tK 3 68 hHeld ?_
 refine tK 7 72 hHeld ?_
 refine one_ (i:=8) (N:=some 73) #[qT,qT,qT,qT,qT,qT,qT,qT,qT,qF,qF,qF,qF,qF,qF,qF] rfl rfl (by kernel_rfl) (by decide) (fun K hK => ?_)
 refine qBJ Try.func99 (by kernel_rfl) rfl #[.slice (some ad) m c,.int .i64 ((a:Int)+1)] (by rfl) rfl rfl (by (try simp only [List.map_toArray,List.map_cons,List.map_nil]);first | done | rfl) ?_
 refine (mb.int1 HK.out (mb.qBD HC.out HB.out HFd.out.1) HCC.out).mono ?_
 rintro e w5 ⟨rfl,hd⟩
 refine ⟨_,rfl, ?_⟩
 have HD:=qAA.mk hd
 have L5:=qAA.mk (Ld.out.below hd.below)
 clear hd
 refine hK.out _ _ ⟨L5.out.blk.c0,L5.out.blk.c1⟩ (fun hHeld => ?_)
 clear hK K
 refine qAi (a' := ?_) ?_ ?_
 rotate_left
 ·show Act.put _ (some 73) _=_
  simp only [Act.put,qs1,qs2,qs3,qAR,qAT]
  rfl
 refine pU 9 64 ?_
 refine pU 10 74 ?_
 refine pU 11 75 ?_
 refine pU 12 76 ?_
 refine pU 13 6 ?_
 refine pU 14 7 ?_
 refine pU 15 8 ?_
 refine qA6 (by kernel_rfl) ?_
 have h0:=L5.out.blk.c0;have h1:=L5.out.blk.c1;have h2:=L5.out.blk.c2;have f1:=L5.out.blk.fz 1;have f2:=L5.out.blk.fz 2;have hx0:=L5.out.byt;have fr_:=qAC L5.out.res 0
 go_wp2_with (first | ((with_reducible refine qAh (p:=87) rfl ?_);go_must (refine qA3 ?hg (t:=3) (p:=87) (v:=.tmp 85) (w1:=w5.setCell ⟨g,1,none⟩ (.int .i64 r2)) ?ho ?hN ?hr ?_);(case ho=>rfl);(case hN=>rfl);(case hg=>rfl);(case hr=>first | (go_simp;done) | (go_simp;rfl));intro w6 ex;have L6:=qAA.mk (L5.out.fr (ex▸mb.Fr.set _ _ _ _) (ex▸L5.out.blk.set1 _));have HX6:=qAA.mk ex;clear ex;clear h0 h1 h2 f1 f2 hx0 fr_;have h0:=L6.out.blk.c0;have h1:=L6.out.blk.c1;have h2:=L6.out.blk.c2;have f1:=L6.out.blk.fz 1;have f2:=L6.out.blk.fz 2;have hx0:=L6.out.byt;have fr_:=qAC L6.out.res 0) | ((with_reducible refine qAh (p:=4) rfl ?_);refine mb.qBV rfl rfl 4 _ rfl w.heap.size rfl (.int .i64 2) (.int .i64 r1) (.string ⟨#[]⟩) (.slice none 0 0) (.slice none 0 0) rfl (fun q hq=>by simp at hq;rcases hq with rfl | rfl | rfl | rfl | rfl <;> rfl) _ rfl L6.out.res ?_;intro w5 hres hgr;have HRES:=qAA.mk hres;have HGR:=qAA.mk hgr;clear hgr hres))
 go_wp2
 refine bodyPost_ret (results_cell_row rfl _ _ w.heap.size 48 _ (0,0) _ rfl HRES.out Try.underlying48 rfl (by kernel_rfl)) rfl ?_
 exact ⟨⟨_,_,rfl,Kd.qBx _ _ _ _ _,Kd.qBx _ _ _ _ _⟩,mb.fin_nx (HX6.out▸(HFd.out.1.trans (mb.Fr.of_below HD.out.below)).trans (mb.Fr.set _ _ _ _)) L6.out.blk L6.out.ne.2 HGR.out (Nat.le_refl _) HBB.out.size (HX6.out▸(qAU HFd.out.2 HFd.out.2.size HD.out.below).setCell HGG.out _)⟩
theorem mb.val_t3N {bs:List Int} {u i:Int→Int × Int × Int} (hU:mb.Uin bs u i) {w0 w:World} {g:Nat} {A:Option Addr} {c:Nat} {a l:Int} (hb:Below w0.heap.size w0 w) (hg:w0.heap.size≤g) (hB:mb.Blk w g A bs.length c a l) (hC:(Kd.int .u8).C w A bs.length bs) (hc:bs.length≤c) (within:Int) (hw:(within == 8)=false) (ha0:0≤a) (ha1:a < (bs.length:Int)) (hl0:1≤l) (hl1:l≤2048) (ht:rd bs a=3) (he:(i (a+1)).2.2 ≠ 0) :
  Calls Try.prog 89 #[.pointer (some ⟨g,0,none⟩),.int .i64 within] w (mb.GotV (.bad 41 (a+1)) w0 w g A bs.length c):=by
 have HB:=qAA.mk hB
 have HC:=qAA.mk hC
 have HCC:=qAA.mk hc
 have HBB:=qAA.mk hb
 have HGG:=qAA.mk hg
 have HLL:=qAA.mk hU.L
 have HUU:=qAA.mk hU
 have hgl:g < w.heap.size:=qAX hB
 have hu25:=Try.underlying48
 obtain ⟨a,rfl⟩:=Int.eq_ofNat_of_zero_le ha0
 have t0:((a:Int) == (bs.length:Int))=false:=beq_eq_false_iff_ne.2 (by omega)
 have t1:(a=bs.length)=False:=eq_false (by omega)
 have t2:decide (a=bs.length)=false:=decide_eq_false (by omega)
 have t3:(a:Int) < (bs.length:Int):=ha1
 have t4:a < bs.length:=by omega
 have t5:decide (a < bs.length)=true:=decide_eq_true t4
 have hwr:=qAA.mk (show wrap64 ((a:Int)+1)=(a:Int)+1 by have:=hU.L;unfold wrap64;omega)
 have HL0:=qAA.mk hl0
 have HL1:=qAA.mk hl1
 obtain ⟨ad,hA,hx0⟩:=Kd.qB7 hC (a:Int) (by omega) ha1
 subst hA
 rw [Int.toNat_natCast,ht] at hx0
 have HBW:=qAA.mk ((Below.refl w.heap.size w).alloc (Nat.le_refl _) (.cells #[.int .i64 0,.int .i64 0,.string ⟨#[]⟩,.slice none 0 0,.slice none 0 0] 48))
 have L1:=qAA.mk (show mb.Ly (w.alloc (.cells #[.int .i64 0,.int .i64 0,.string ⟨#[]⟩,.slice none 0 0,.slice none 0 0] 48)) g (some ad) bs.length c (a:Int) l (ad.add a) 3 w.heap.size #[.int .i64 0,.int .i64 0,.string ⟨#[]⟩,.slice none 0 0,.slice none 0 0] from ⟨HB.out.below HBW.out,(HBW.out.cell (qs4 w _ hx0)).trans hx0,by simpa using heap_alloc_new w _⟩)
 clear hx0
 have h0:=L1.out.blk.c0;have h1:=L1.out.blk.c1;have h2:=L1.out.blk.c2;have f1:=L1.out.blk.fz 1;have f2:=L1.out.blk.fz 2;have hx0:=L1.out.byt;have fr_:=qAC L1.out.res 0
 have HF4:∀ W4,W4=((w.alloc (.cells #[.int .i64 0,.int .i64 0,.string ⟨#[]⟩,.slice none 0 0,.slice none 0 0] 48)).setCell ⟨g,2,none⟩ (.int .i64 (l - 1))).setCell ⟨g,1,none⟩ (.int .i64 ((a:Int)+1))→mb.Fr g w W4∧Below w0.heap.size w0 W4:=by
  rintro _ rfl
  exact ⟨((mb.Fr.of_below HBW.out).trans (mb.Fr.set _ _ _ _)).trans (mb.Fr.set _ _ _ _),((HBB.out.alloc HBB.out.size _).setCell hg _).setCell hg _⟩
 have HF4:=qAA.mk HF4
 obtain ⟨K,hK⟩:=hU.I
 have HK:=qAA.mk (hK ((a:Int)+1))
 obtain ⟨r1,r2,r3,hr⟩:∃ r1 r2 r3,i ((a:Int)+1)=(r1,r2,r3):=⟨_,_,_,rfl⟩
 rw [hr] at he HK
 dsimp only at he
 have d1:(r3 != 0)=true:=bne_iff_ne.2 he
 have d2:(r3 == 0)=false:=beq_eq_false_iff_ne.2 he
 have d3:decide (r3=0)=false:=decide_eq_false he
 clear hK hr he
 clear hU hb hg hB hC hc ha1 hl0 hl1 ha0 hgl
 generalize bs.length=m at *
 go_enter Try.func89,Try.ntmps89
 go_wp2_with (first | (go_at_call 98;refine (mb.qBr L1.out.blk 1 (a:Int) HL0.out HL1.out (by omega)).mono ?_;rintro e_ w3 ⟨rfl,hx⟩;have L3:=qAA.mk (L1.out.fr (hx▸mb.Fr.set _ _ _ _) (hx▸L1.out.blk.set2 _));have HX3:=qAA.mk hx;clear hx;clear h0 h1 h2 f1 f2 hx0 fr_;have h0:=L3.out.blk.c0;have h1:=L3.out.blk.c1;have h2:=L3.out.blk.c2;have f1:=L3.out.blk.fz 1;have f2:=L3.out.blk.fz 2;have hx0:=L3.out.byt;have fr_:=qAC L3.out.res 0) | ((with_reducible refine qAh (p:=48) rfl ?_);go_must (refine qA3 ?hg (t:=3) (p:=48) (v:=.tmp 46) (w1:=w3.setCell ⟨g,1,none⟩ (.int .i64 (wrap64 ((a:Int)+1)))) ?ho ?hN ?hr ?_);(case ho=>rfl);(case hN=>rfl);(case hg=>rfl);(case hr=>first | (go_simp;done) | (go_simp;rfl));intro w4 e4;rw [hwr.out] at e4;have L4:=qAA.mk (L3.out.fr (e4▸mb.Fr.set _ _ _ _) (e4▸L3.out.blk.set1 _));have HX4:=qAA.mk e4;clear e4;have HFW:=qAA.mk (HF4.out _ (HX4.out.trans (by rw [HX3.out])));clear h0 h1 h2 f1 f2 hx0 fr_;have h0:=L4.out.blk.c0;have h1:=L4.out.blk.c1;have h2:=L4.out.blk.c2;have f1:=L4.out.blk.fz 1;have f2:=L4.out.blk.fz 2;have hx0:=L4.out.byt;have fr_:=qAC L4.out.res 0))
 clear h0 h1 h2 f1 f2 hx0 fr_
 refine qAn (n:=16) (S:=fun w'=>w'.cell? ⟨g,0,none⟩=some (.slice (some ad) m c)∧w'.cell? ⟨g,1,none⟩=some (.int .i64 ((a:Int)+1))) (ds:=[]) #[qF,qF,qF,qF,qF,qF,qF,qF,qF,qF,qF,qF,qF,qF,qF,qF] (by kernel_rfl) rfl rfl ⟨(L4.out.below (qAM (Below.refl _ _))).blk.c0,(L4.out.below (qAM (Below.refl _ _))).blk.c1⟩ (fun hHeld => ?_)
 generalize hwd:w4.drew=wd at hHeld ⊢
 have Ld:=qAA.mk (hwd▸L4.out.below (qAM (Below.refl _ _)))
 have HFd:=qAA.mk (hwd▸(⟨HFW.out.1.trans (mb.Fr.of_below (qAM (Below.refl _ _))),qAM HFW.out.2⟩:mb.Fr g w w4.drew∧Below w0.heap.size w0 w4.drew))
 clear hwd
 refine pU 0 65 ?_
 refine pU 1 66 ?_
 refine pU 2 67 ?_
 refine pU 4 69 ?_
 refine pU 5 70 ?_
 refine pU 6 71 ?_
 refine tK 3 68 hHeld ?_
 refine tK 7 72 hHeld ?_
 refine one_ (i:=8) (N:=some 73) #[qT,qT,qT,qT,qT,qT,qT,qT,qT,qF,qF,qF,qF,qF,qF,qF] rfl rfl (by kernel_rfl) (by decide) (fun K hK => ?_)
 refine qBJ Try.func99 (by kernel_rfl) rfl #[.slice (some ad) m c,.int .i64 ((a:Int)+1)] (by rfl) rfl rfl (by (try simp only [List.map_toArray,List.map_cons,List.map_nil]);first | done | rfl) ?_
 refine (mb.int1 HK.out (mb.qBD HC.out HB.out HFd.out.1) HCC.out).mono ?_
 rintro e w5 ⟨rfl,hd⟩
 refine ⟨_,rfl, ?_⟩
 have HD:=qAA.mk hd
 have L5:=qAA.mk (Ld.out.below hd.below)
 clear hd
 refine hK.out _ _ ⟨L5.out.blk.c0,L5.out.blk.c1⟩ (fun hHeld => ?_)
 clear hK K
 refine qAi (a' := ?_) ?_ ?_
 rotate_left
 ·show Act.put _ (some 73) _=_
  simp only [Act.put,qs1,qs2,qs3,qAR,qAT]
  rfl
 refine pU 9 64 ?_
 refine pU 10 74 ?_
 refine pU 11 75 ?_
 refine pU 12 76 ?_
 refine pU 13 6 ?_
 refine pU 14 7 ?_
 refine pU 15 8 ?_
 refine qA6 (by kernel_rfl) ?_
 have h0:=L5.out.blk.c0;have h1:=L5.out.blk.c1;have h2:=L5.out.blk.c2;have f1:=L5.out.blk.fz 1;have f2:=L5.out.blk.fz 2;have hx0:=L5.out.byt;have fr_:=qAC L5.out.res 0
 go_wp2_with (first | (go_at_call 97;refine (mb.fails1 41 ((a:Int)+1) _).mono ?_;rintro e_ w_ ⟨rfl,rfl⟩;unfold mb.flt))
 exact ⟨rfl,rfl,HFd.out.1.trans (mb.Fr.of_below HD.out.below),qAU HFd.out.2 HFd.out.2.size HD.out.below⟩
theorem mb.val_t4 {bs:List Int} {u i:Int→Int × Int × Int} (hU:mb.Uin bs u i) {w0 w:World} {g:Nat} {A:Option Addr} {c:Nat} {a l:Int} (hb:Below w0.heap.size w0 w) (hg:w0.heap.size≤g) (hB:mb.Blk w g A bs.length c a l) (hC:(Kd.int .u8).C w A bs.length bs) (hc:bs.length≤c) (within:Int) (hw:(within == 8)=false) (ha0:0≤a) (ha1:a < (bs.length:Int)) (hl0:1≤l) (hl1:l≤2048) (ht:rd bs a=4) (he:(u (a+1)).2.2=0) (hn:(u (a+1)).1≤(l - 1) / 1) (hq:(u (a+1)).1≤(bs.length:Int) - (u (a+1)).2.1) :
  Calls Try.prog 89 #[.pointer (some ⟨g,0,none⟩),.int .i64 within] w (mb.GotV (.ok ⟨3,0,strOfNums ((bs.drop (u (a+1)).2.1.toNat).take (u (a+1)).1.toNat),[],[]⟩ ((u (a+1)).2.1+(u (a+1)).1) (l - 1 - (u (a+1)).1)) w0 w g A bs.length c):=by
 have HB:=qAA.mk hB
 have HC:=qAA.mk hC
 have HCC:=qAA.mk hc
 have HBB:=qAA.mk hb
 have HGG:=qAA.mk hg
 have HLL:=qAA.mk hU.L
 have HUU:=qAA.mk hU
 have hgl:g < w.heap.size:=qAX hB
 have hu25:=Try.underlying48
 obtain ⟨a,rfl⟩:=Int.eq_ofNat_of_zero_le ha0
 have t0:((a:Int) == (bs.length:Int))=false:=beq_eq_false_iff_ne.2 (by omega)
 have t1:(a=bs.length)=False:=eq_false (by omega)
 have t2:decide (a=bs.length)=false:=decide_eq_false (by omega)
 have t3:(a:Int) < (bs.length:Int):=ha1
 have t4:a < bs.length:=by omega
 have t5:decide (a < bs.length)=true:=decide_eq_true t4
 have hwr:=qAA.mk (show wrap64 ((a:Int)+1)=(a:Int)+1 by have:=hU.L;unfold wrap64;omega)
 have HL0:=qAA.mk hl0
 have HL1:=qAA.mk hl1
 obtain ⟨ad,hA,hx0⟩:=Kd.qB7 hC (a:Int) (by omega) ha1
 subst hA
 rw [Int.toNat_natCast,ht] at hx0
 have HBW:=qAA.mk ((Below.refl w.heap.size w).alloc (Nat.le_refl _) (.cells #[.int .i64 0,.int .i64 0,.string ⟨#[]⟩,.slice none 0 0,.slice none 0 0] 48))
 have L1:=qAA.mk (show mb.Ly (w.alloc (.cells #[.int .i64 0,.int .i64 0,.string ⟨#[]⟩,.slice none 0 0,.slice none 0 0] 48)) g (some ad) bs.length c (a:Int) l (ad.add a) 4 w.heap.size #[.int .i64 0,.int .i64 0,.string ⟨#[]⟩,.slice none 0 0,.slice none 0 0] from ⟨HB.out.below HBW.out,(HBW.out.cell (qs4 w _ hx0)).trans hx0,by simpa using heap_alloc_new w _⟩)
 clear hx0
 have h0:=L1.out.blk.c0;have h1:=L1.out.blk.c1;have h2:=L1.out.blk.c2;have f1:=L1.out.blk.fz 1;have f2:=L1.out.blk.fz 2;have hx0:=L1.out.byt;have fr_:=qAC L1.out.res 0
 have HF4:∀ W4,W4=((w.alloc (.cells #[.int .i64 0,.int .i64 0,.string ⟨#[]⟩,.slice none 0 0,.slice none 0 0] 48)).setCell ⟨g,2,none⟩ (.int .i64 (l - 1))).setCell ⟨g,1,none⟩ (.int .i64 ((a:Int)+1))→mb.Fr g w W4∧Below w0.heap.size w0 W4:=by
  rintro _ rfl
  exact ⟨((mb.Fr.of_below HBW.out).trans (mb.Fr.set _ _ _ _)).trans (mb.Fr.set _ _ _ _),((HBB.out.alloc HBB.out.size _).setCell hg _).setCell hg _⟩
 have HF4:=qAA.mk HF4
 have hs0:wrap64 ((a:Int)+1)=(a:Int)+1:=hwr.out
 have HCN:=qAA.mk (fun (W:World) (x1:Below w0.heap.size w0 W) (x2:mb.Blk W g (some ad) bs.length c ((a:Int)+1) (l - 1)) (x3:(Kd.int .u8).C W (some ad) bs.length bs)=>mb.countY hU x1 hg x2 x3 hc (a:Int) 1 he (by omega) (by omega) (by omega) (by omega) hn)
 have hrR:=hU.R ((a:Int)+1)
 have hrN:=hU.N ((a:Int)+1) he
 obtain ⟨r1,r2,r3,hr⟩:∃ r1 r2 r3,u ((a:Int)+1)=(r1,r2,r3):=⟨_,_,_,rfl⟩
 rw [hr] at HCN hn hq hrR hrN ⊢
 dsimp only at HCN hn hq hrR hrN ⊢
 have HR2:=qAA.mk (show 0≤r2∧r2≤bs.length by omega)
 have HR1:=qAA.mk (show 0≤r1 by omega)
 have HQ:=qAA.mk hq
 have hs1:wrap64 (l - 1 - r1)=l - 1 - r1:=by
  rw [Int.ediv_one] at hn
  unfold wrap64;omega
 clear hn hq hrR hrN he hr
 clear hU hb hg hB hC hc ha1 hl0 hl1 ha0 hgl
 go_enter Try.func89,Try.ntmps89
 go_wp2_with (first | (go_at_call 98;refine (mb.qBr L1.out.blk 1 (a:Int) HL0.out HL1.out (by omega)).mono ?_;rintro e_ w3 ⟨rfl,hx⟩;have L3:=qAA.mk (L1.out.fr (hx▸mb.Fr.set _ _ _ _) (hx▸L1.out.blk.set2 _));have HX3:=qAA.mk hx;clear hx;clear h0 h1 h2 f1 f2 hx0 fr_;have h0:=L3.out.blk.c0;have h1:=L3.out.blk.c1;have h2:=L3.out.blk.c2;have f1:=L3.out.blk.fz 1;have f2:=L3.out.blk.fz 2;have hx0:=L3.out.byt;have fr_:=qAC L3.out.res 0) | ((with_reducible refine qAh (p:=48) rfl ?_);go_must (refine qA3 ?hg (t:=3) (p:=48) (v:=.tmp 46) (w1:=w3.setCell ⟨g,1,none⟩ (.int .i64 (wrap64 ((a:Int)+1)))) ?ho ?hN ?hr ?_);(case ho=>rfl);(case hN=>rfl);(case hg=>rfl);(case hr=>first | (go_simp;done) | (go_simp;rfl));intro w4 e4;rw [hwr.out] at e4;have L4:=qAA.mk (L3.out.fr (e4▸mb.Fr.set _ _ _ _) (e4▸L3.out.blk.set1 _));have HX4:=qAA.mk e4;clear e4;have HFW:=qAA.mk (HF4.out _ (HX4.out.trans (by rw [HX3.out])));clear h0 h1 h2 f1 f2 hx0 fr_;have h0:=L4.out.blk.c0;have h1:=L4.out.blk.c1;have h2:=L4.out.blk.c2;have f1:=L4.out.blk.fz 1;have f2:=L4.out.blk.fz 2;have hx0:=L4.out.byt;have fr_:=qAC L4.out.res 0) | (go_at_call 100;refine (HCN.out _ HFW.out.2 L4.out.blk (mb.qBD HC.out HB.out HFW.out.1)).mono ?_;rintro e_ w5 ⟨rfl,hx⟩;have HX5:=qAA.mk hx;clear hx;have L5:=qAA.mk (L4.out.fr HX5.out.fr HX5.out.blk);clear h0 h1 h2 f1 f2 hx0 fr_;have h0:=L5.out.blk.c0;have h1:=L5.out.blk.c1;have h2:=L5.out.blk.c2;have f1:=L5.out.blk.fz 1;have f2:=L5.out.blk.fz 2;have hx0:=L5.out.byt;have fr_:=qAC L5.out.res 0) | ((with_reducible refine qAh (p:=102) rfl ?_);go_must (refine qA3 ?hg (t:=3) (p:=102) (v:=.tmp 100) (w1:=w5.setCell ⟨g,2,none⟩ (.int .i64 (l - 1 - r1))) ?ho ?hN ?hr ?_);(case ho=>rfl);(case hN=>rfl);(case hg=>rfl);(case hr=>first | (go_simp;done) | (go_simp;rfl));intro w6 ex;have L6:=qAA.mk (L5.out.fr (ex▸mb.Fr.set _ _ _ _) (ex▸L5.out.blk.set2 _));have HX6:=qAA.mk ex;clear ex;clear h0 h1 h2 f1 f2 hx0 fr_;have h0:=L6.out.blk.c0;have h1:=L6.out.blk.c1;have h2:=L6.out.blk.c2;have f1:=L6.out.blk.fz 1;have f2:=L6.out.blk.fz 2;have hx0:=L6.out.byt;have fr_:=qAC L6.out.res 0) | (go_at_call 101;refine (mb.cutY HUU.out (HX6.out▸HX5.out.bel.setCell HGG.out _) HGG.out L6.out.blk (mb.qBD HC.out HB.out (HX6.out▸(HFW.out.1.trans HX5.out.fr).trans (mb.Fr.set _ _ _ _):mb.Fr g w w6)) HCC.out r1 ((a:Int)+1) HR2.out.1 HR2.out.2 HLL.out HR1.out HQ.out).mono ?_;rintro e_ w7 ⟨rfl,hx⟩;have HX7:=qAA.mk hx;clear hx;have L7:=qAA.mk (L6.out.fr HX7.out.fr HX7.out.blk);clear h0 h1 h2 f1 f2 hx0 fr_;have h0:=L7.out.blk.c0;have h1:=L7.out.blk.c1;have h2:=L7.out.blk.c2;have f1:=L7.out.blk.fz 1;have f2:=L7.out.blk.fz 2;have hx0:=L7.out.byt;have fr_:=qAC L7.out.res 0) | ((with_reducible refine qAh (p:=4) rfl ?_);refine mb.qBV rfl rfl 4 _ rfl w.heap.size rfl (.int .i64 3) (.int .i64 0) (.string (strOfNums ((bs.drop r2.toNat).take r1.toNat))) (.slice none 0 0) (.slice none 0 0) rfl (fun q hq=>by simp at hq;rcases hq with rfl | rfl | rfl | rfl | rfl <;> rfl) _ rfl L7.out.res ?_;intro w5 hres hgr;have HRES:=qAA.mk hres;have HGR:=qAA.mk hgr;clear hgr hres))
 go_wp2
 refine bodyPost_ret (results_cell_row rfl _ _ w.heap.size 48 _ (0,0) _ rfl HRES.out Try.underlying48 rfl (by kernel_rfl)) rfl ?_
 exact ⟨⟨_,_,rfl,Kd.qBx _ _ _ _ _,Kd.qBx _ _ _ _ _⟩,mb.fin_nx ((HX6.out▸(HFW.out.1.trans HX5.out.fr).trans (mb.Fr.set _ _ _ _):mb.Fr g w w6).trans HX7.out.fr) L7.out.blk L7.out.ne.2 HGR.out (Nat.le_refl _) HBB.out.size HX7.out.bel⟩
theorem mb.val_t4C {bs:List Int} {u i:Int→Int × Int × Int} (hU:mb.Uin bs u i) {w0 w:World} {g:Nat} {A:Option Addr} {c:Nat} {a l:Int} (hb:Below w0.heap.size w0 w) (hg:w0.heap.size≤g) (hB:mb.Blk w g A bs.length c a l) (hC:(Kd.int .u8).C w A bs.length bs) (hc:bs.length≤c) (within:Int) (hw:(within == 8)=false) (ha0:0≤a) (ha1:a < (bs.length:Int)) (hl0:1≤l) (hl1:l≤2048) (ht:rd bs a=4) (he:(u (a+1)).2.2=0) (hn:(u (a+1)).1≤(l - 1) / 1) (hq:(bs.length:Int) - (u (a+1)).2.1 < (u (a+1)).1) :
  Calls Try.prog 89 #[.pointer (some ⟨g,0,none⟩),.int .i64 within] w (mb.GotV (.bad 41 (a+1)) w0 w g A bs.length c):=by
 have HB:=qAA.mk hB
 have HC:=qAA.mk hC
 have HCC:=qAA.mk hc
 have HBB:=qAA.mk hb
 have HGG:=qAA.mk hg
 have HLL:=qAA.mk hU.L
 have HUU:=qAA.mk hU
 have hgl:g < w.heap.size:=qAX hB
 have hu25:=Try.underlying48
 obtain ⟨a,rfl⟩:=Int.eq_ofNat_of_zero_le ha0
 have t0:((a:Int) == (bs.length:Int))=false:=beq_eq_false_iff_ne.2 (by omega)
 have t1:(a=bs.length)=False:=eq_false (by omega)
 have t2:decide (a=bs.length)=false:=decide_eq_false (by omega)
 have t3:(a:Int) < (bs.length:Int):=ha1
 have t4:a < bs.length:=by omega
 have t5:decide (a < bs.length)=true:=decide_eq_true t4
 have hwr:=qAA.mk (show wrap64 ((a:Int)+1)=(a:Int)+1 by have:=hU.L;unfold wrap64;omega)
 have HL0:=qAA.mk hl0
 have HL1:=qAA.mk hl1
 obtain ⟨ad,hA,hx0⟩:=Kd.qB7 hC (a:Int) (by omega) ha1
 subst hA
 rw [Int.toNat_natCast,ht] at hx0
 have HBW:=qAA.mk ((Below.refl w.heap.size w).alloc (Nat.le_refl _) (.cells #[.int .i64 0,.int .i64 0,.string ⟨#[]⟩,.slice none 0 0,.slice none 0 0] 48))
 have L1:=qAA.mk (show mb.Ly (w.alloc (.cells #[.int .i64 0,.int .i64 0,.string ⟨#[]⟩,.slice none 0 0,.slice none 0 0] 48)) g (some ad) bs.length c (a:Int) l (ad.add a) 4 w.heap.size #[.int .i64 0,.int .i64 0,.string ⟨#[]⟩,.slice none 0 0,.slice none 0 0] from ⟨HB.out.below HBW.out,(HBW.out.cell (qs4 w _ hx0)).trans hx0,by simpa using heap_alloc_new w _⟩)
 clear hx0
 have h0:=L1.out.blk.c0;have h1:=L1.out.blk.c1;have h2:=L1.out.blk.c2;have f1:=L1.out.blk.fz 1;have f2:=L1.out.blk.fz 2;have hx0:=L1.out.byt;have fr_:=qAC L1.out.res 0
 have HF4:∀ W4,W4=((w.alloc (.cells #[.int .i64 0,.int .i64 0,.string ⟨#[]⟩,.slice none 0 0,.slice none 0 0] 48)).setCell ⟨g,2,none⟩ (.int .i64 (l - 1))).setCell ⟨g,1,none⟩ (.int .i64 ((a:Int)+1))→mb.Fr g w W4∧Below w0.heap.size w0 W4:=by
  rintro _ rfl
  exact ⟨((mb.Fr.of_below HBW.out).trans (mb.Fr.set _ _ _ _)).trans (mb.Fr.set _ _ _ _),((HBB.out.alloc HBB.out.size _).setCell hg _).setCell hg _⟩
 have HF4:=qAA.mk HF4
 have hs0:wrap64 ((a:Int)+1)=(a:Int)+1:=hwr.out
 have HCN:=qAA.mk (fun (W:World) (x1:Below w0.heap.size w0 W) (x2:mb.Blk W g (some ad) bs.length c ((a:Int)+1) (l - 1)) (x3:(Kd.int .u8).C W (some ad) bs.length bs)=>mb.countY hU x1 hg x2 x3 hc (a:Int) 1 he (by omega) (by omega) (by omega) (by omega) hn)
 have hrR:=hU.R ((a:Int)+1)
 have hrN:=hU.N ((a:Int)+1) he
 obtain ⟨r1,r2,r3,hr⟩:∃ r1 r2 r3,u ((a:Int)+1)=(r1,r2,r3):=⟨_,_,_,rfl⟩
 rw [hr] at HCN hn hq hrR hrN
 dsimp only at HCN hn hq hrR hrN
 have HR2:=qAA.mk (show 0≤r2∧r2≤bs.length by omega)
 have HR1:=qAA.mk (show 0≤r1 by omega)
 have HQ:=qAA.mk hq
 have hs1:wrap64 (l - 1 - r1)=l - 1 - r1:=by
  rw [Int.ediv_one] at hn
  unfold wrap64;omega
 clear hn hq hrR hrN he hr
 clear hU hb hg hB hC hc ha1 hl0 hl1 ha0 hgl
 go_enter Try.func89,Try.ntmps89
 go_wp2_with (first | (go_at_call 98;refine (mb.qBr L1.out.blk 1 (a:Int) HL0.out HL1.out (by omega)).mono ?_;rintro e_ w3 ⟨rfl,hx⟩;have L3:=qAA.mk (L1.out.fr (hx▸mb.Fr.set _ _ _ _) (hx▸L1.out.blk.set2 _));have HX3:=qAA.mk hx;clear hx;clear h0 h1 h2 f1 f2 hx0 fr_;have h0:=L3.out.blk.c0;have h1:=L3.out.blk.c1;have h2:=L3.out.blk.c2;have f1:=L3.out.blk.fz 1;have f2:=L3.out.blk.fz 2;have hx0:=L3.out.byt;have fr_:=qAC L3.out.res 0) | ((with_reducible refine qAh (p:=48) rfl ?_);go_must (refine qA3 ?hg (t:=3) (p:=48) (v:=.tmp 46) (w1:=w3.setCell ⟨g,1,none⟩ (.int .i64 (wrap64 ((a:Int)+1)))) ?ho ?hN ?hr ?_);(case ho=>rfl);(case hN=>rfl);(case hg=>rfl);(case hr=>first | (go_simp;done) | (go_simp;rfl));intro w4 e4;rw [hwr.out] at e4;have L4:=qAA.mk (L3.out.fr (e4▸mb.Fr.set _ _ _ _) (e4▸L3.out.blk.set1 _));have HX4:=qAA.mk e4;clear e4;have HFW:=qAA.mk (HF4.out _ (HX4.out.trans (by rw [HX3.out])));clear h0 h1 h2 f1 f2 hx0 fr_;have h0:=L4.out.blk.c0;have h1:=L4.out.blk.c1;have h2:=L4.out.blk.c2;have f1:=L4.out.blk.fz 1;have f2:=L4.out.blk.fz 2;have hx0:=L4.out.byt;have fr_:=qAC L4.out.res 0) | (go_at_call 100;refine (HCN.out _ HFW.out.2 L4.out.blk (mb.qBD HC.out HB.out HFW.out.1)).mono ?_;rintro e_ w5 ⟨rfl,hx⟩;have HX5:=qAA.mk hx;clear hx;have L5:=qAA.mk (L4.out.fr HX5.out.fr HX5.out.blk);clear h0 h1 h2 f1 f2 hx0 fr_;have h0:=L5.out.blk.c0;have h1:=L5.out.blk.c1;have h2:=L5.out.blk.c2;have f1:=L5.out.blk.fz 1;have f2:=L5.out.blk.fz 2;have hx0:=L5.out.byt;have fr_:=qAC L5.out.res 0) | ((with_reducible refine qAh (p:=102) rfl ?_);go_must (refine qA3 ?hg (t:=3) (p:=102) (v:=.tmp 100) (w1:=w5.setCell ⟨g,2,none⟩ (.int .i64 (l - 1 - r1))) ?ho ?hN ?hr ?_);(case ho=>rfl);(case hN=>rfl);(case hg=>rfl);(case hr=>first | (go_simp;done) | (go_simp;rfl));intro w6 ex;have L6:=qAA.mk (L5.out.fr (ex▸mb.Fr.set _ _ _ _) (ex▸L5.out.blk.set2 _));have HX6:=qAA.mk ex;clear ex;clear h0 h1 h2 f1 f2 hx0 fr_;have h0:=L6.out.blk.c0;have h1:=L6.out.blk.c1;have h2:=L6.out.blk.c2;have f1:=L6.out.blk.fz 1;have f2:=L6.out.blk.fz 2;have hx0:=L6.out.byt;have fr_:=qAC L6.out.res 0) | (go_at_call 101;refine (mb.cutN HUU.out (HX6.out▸HX5.out.bel.setCell HGG.out _) HGG.out L6.out.blk (mb.qBD HC.out HB.out (HX6.out▸(HFW.out.1.trans HX5.out.fr).trans (mb.Fr.set _ _ _ _):mb.Fr g w w6)) HCC.out r1 ((a:Int)+1) HR2.out.1 HR2.out.2 HLL.out HQ.out).mono ?_;rintro e_ w7 ⟨rfl,hx⟩;have HX7:=qAA.mk hx;clear hx;unfold mb.flt))
 exact ⟨rfl,rfl,(HX6.out▸(HFW.out.1.trans HX5.out.fr).trans (mb.Fr.set _ _ _ _):mb.Fr g w w6).trans HX7.out.fr,HX7.out.bel⟩
theorem mb.val_t4E {bs:List Int} {u i:Int→Int × Int × Int} (hU:mb.Uin bs u i) {w0 w:World} {g:Nat} {A:Option Addr} {c:Nat} {a l:Int} (hb:Below w0.heap.size w0 w) (hg:w0.heap.size≤g) (hB:mb.Blk w g A bs.length c a l) (hC:(Kd.int .u8).C w A bs.length bs) (hc:bs.length≤c) (within:Int) (hw:(within == 8)=false) (ha0:0≤a) (ha1:a < (bs.length:Int)) (hl0:1≤l) (hl1:l≤2048) (ht:rd bs a=4) (he:(u (a+1)).2.2 ≠ 0) :
  Calls Try.prog 89 #[.pointer (some ⟨g,0,none⟩),.int .i64 within] w (mb.GotV (.bad 41 (a+1)) w0 w g A bs.length c):=by
 have HB:=qAA.mk hB
 have HC:=qAA.mk hC
 have HCC:=qAA.mk hc
 have HBB:=qAA.mk hb
 have HGG:=qAA.mk hg
 have HLL:=qAA.mk hU.L
 have HUU:=qAA.mk hU
 have hgl:g < w.heap.size:=qAX hB
 have hu25:=Try.underlying48
 obtain ⟨a,rfl⟩:=Int.eq_ofNat_of_zero_le ha0
 have t0:((a:Int) == (bs.length:Int))=false:=beq_eq_false_iff_ne.2 (by omega)
 have t1:(a=bs.length)=False:=eq_false (by omega)
 have t2:decide (a=bs.length)=false:=decide_eq_false (by omega)
 have t3:(a:Int) < (bs.length:Int):=ha1
 have t4:a < bs.length:=by omega
 have t5:decide (a < bs.length)=true:=decide_eq_true t4
 have hwr:=qAA.mk (show wrap64 ((a:Int)+1)=(a:Int)+1 by have:=hU.L;unfold wrap64;omega)
 have HL0:=qAA.mk hl0
 have HL1:=qAA.mk hl1
 obtain ⟨ad,hA,hx0⟩:=Kd.qB7 hC (a:Int) (by omega) ha1
 subst hA
 rw [Int.toNat_natCast,ht] at hx0
 have HBW:=qAA.mk ((Below.refl w.heap.size w).alloc (Nat.le_refl _) (.cells #[.int .i64 0,.int .i64 0,.string ⟨#[]⟩,.slice none 0 0,.slice none 0 0] 48))
 have L1:=qAA.mk (show mb.Ly (w.alloc (.cells #[.int .i64 0,.int .i64 0,.string ⟨#[]⟩,.slice none 0 0,.slice none 0 0] 48)) g (some ad) bs.length c (a:Int) l (ad.add a) 4 w.heap.size #[.int .i64 0,.int .i64 0,.string ⟨#[]⟩,.slice none 0 0,.slice none 0 0] from ⟨HB.out.below HBW.out,(HBW.out.cell (qs4 w _ hx0)).trans hx0,by simpa using heap_alloc_new w _⟩)
 clear hx0
 have h0:=L1.out.blk.c0;have h1:=L1.out.blk.c1;have h2:=L1.out.blk.c2;have f1:=L1.out.blk.fz 1;have f2:=L1.out.blk.fz 2;have hx0:=L1.out.byt;have fr_:=qAC L1.out.res 0
 have HF4:∀ W4,W4=((w.alloc (.cells #[.int .i64 0,.int .i64 0,.string ⟨#[]⟩,.slice none 0 0,.slice none 0 0] 48)).setCell ⟨g,2,none⟩ (.int .i64 (l - 1))).setCell ⟨g,1,none⟩ (.int .i64 ((a:Int)+1))→mb.Fr g w W4∧Below w0.heap.size w0 W4:=by
  rintro _ rfl
  exact ⟨((mb.Fr.of_below HBW.out).trans (mb.Fr.set _ _ _ _)).trans (mb.Fr.set _ _ _ _),((HBB.out.alloc HBB.out.size _).setCell hg _).setCell hg _⟩
 have HF4:=qAA.mk HF4
 have hs0:wrap64 ((a:Int)+1)=(a:Int)+1:=hwr.out
 have HCN:=qAA.mk (fun (W:World) (x1:Below w0.heap.size w0 W) (x2:mb.Blk W g (some ad) bs.length c ((a:Int)+1) (l - 1)) (x3:(Kd.int .u8).C W (some ad) bs.length bs)=>mb.countE hU x1 hg x2 x3 hc (a:Int) 1 he)
 clear hU hb hg hB hC hc ha1 hl0 hl1 ha0 hgl
 go_enter Try.func89,Try.ntmps89
 go_wp2_with (first | (go_at_call 98;refine (mb.qBr L1.out.blk 1 (a:Int) HL0.out HL1.out (by omega)).mono ?_;rintro e_ w3 ⟨rfl,hx⟩;have L3:=qAA.mk (L1.out.fr (hx▸mb.Fr.set _ _ _ _) (hx▸L1.out.blk.set2 _));have HX3:=qAA.mk hx;clear hx;clear h0 h1 h2 f1 f2 hx0 fr_;have h0:=L3.out.blk.c0;have h1:=L3.out.blk.c1;have h2:=L3.out.blk.c2;have f1:=L3.out.blk.fz 1;have f2:=L3.out.blk.fz 2;have hx0:=L3.out.byt;have fr_:=qAC L3.out.res 0) | ((with_reducible refine qAh (p:=48) rfl ?_);go_must (refine qA3 ?hg (t:=3) (p:=48) (v:=.tmp 46) (w1:=w3.setCell ⟨g,1,none⟩ (.int .i64 (wrap64 ((a:Int)+1)))) ?ho ?hN ?hr ?_);(case ho=>rfl);(case hN=>rfl);(case hg=>rfl);(case hr=>first | (go_simp;done) | (go_simp;rfl));intro w4 e4;rw [hwr.out] at e4;have L4:=qAA.mk (L3.out.fr (e4▸mb.Fr.set _ _ _ _) (e4▸L3.out.blk.set1 _));have HX4:=qAA.mk e4;clear e4;have HFW:=qAA.mk (HF4.out _ (HX4.out.trans (by rw [HX3.out])));clear h0 h1 h2 f1 f2 hx0 fr_;have h0:=L4.out.blk.c0;have h1:=L4.out.blk.c1;have h2:=L4.out.blk.c2;have f1:=L4.out.blk.fz 1;have f2:=L4.out.blk.fz 2;have hx0:=L4.out.byt;have fr_:=qAC L4.out.res 0) | (go_at_call 100;refine (HCN.out _ HFW.out.2 L4.out.blk (mb.qBD HC.out HB.out HFW.out.1)).mono ?_;rintro e_ w5 ⟨rfl,hx⟩;have HX5:=qAA.mk hx;clear hx;unfold mb.flt))
 exact ⟨rfl,rfl,HFW.out.1.trans HX5.out.fr,HX5.out.bel⟩
theorem mb.val_t4S {bs:List Int} {u i:Int→Int × Int × Int} (hU:mb.Uin bs u i) {w0 w:World} {g:Nat} {A:Option Addr} {c:Nat} {a l:Int} (hb:Below w0.heap.size w0 w) (hg:w0.heap.size≤g) (hB:mb.Blk w g A bs.length c a l) (hC:(Kd.int .u8).C w A bs.length bs) (hc:bs.length≤c) (within:Int) (hw:(within == 8)=false) (ha0:0≤a) (ha1:a < (bs.length:Int)) (hl0:1≤l) (hl1:l≤2048) (ht:rd bs a=4) (he:(u (a+1)).2.2=0) (hn:(l - 1) / 1 < (u (a+1)).1) :
  Calls Try.prog 89 #[.pointer (some ⟨g,0,none⟩),.int .i64 within] w (mb.GotV (.bad 42 a) w0 w g A bs.length c):=by
 have HB:=qAA.mk hB
 have HC:=qAA.mk hC
 have HCC:=qAA.mk hc
 have HBB:=qAA.mk hb
 have HGG:=qAA.mk hg
 have HLL:=qAA.mk hU.L
 have HUU:=qAA.mk hU
 have hgl:g < w.heap.size:=qAX hB
 have hu25:=Try.underlying48
 obtain ⟨a,rfl⟩:=Int.eq_ofNat_of_zero_le ha0
 have t0:((a:Int) == (bs.length:Int))=false:=beq_eq_false_iff_ne.2 (by omega)
 have t1:(a=bs.length)=False:=eq_false (by omega)
 have t2:decide (a=bs.length)=false:=decide_eq_false (by omega)
 have t3:(a:Int) < (bs.length:Int):=ha1
 have t4:a < bs.length:=by omega
 have t5:decide (a < bs.length)=true:=decide_eq_true t4
 have hwr:=qAA.mk (show wrap64 ((a:Int)+1)=(a:Int)+1 by have:=hU.L;unfold wrap64;omega)
 have HL0:=qAA.mk hl0
 have HL1:=qAA.mk hl1
 obtain ⟨ad,hA,hx0⟩:=Kd.qB7 hC (a:Int) (by omega) ha1
 subst hA
 rw [Int.toNat_natCast,ht] at hx0
 have HBW:=qAA.mk ((Below.refl w.heap.size w).alloc (Nat.le_refl _) (.cells #[.int .i64 0,.int .i64 0,.string ⟨#[]⟩,.slice none 0 0,.slice none 0 0] 48))
 have L1:=qAA.mk (show mb.Ly (w.alloc (.cells #[.int .i64 0,.int .i64 0,.string ⟨#[]⟩,.slice none 0 0,.slice none 0 0] 48)) g (some ad) bs.length c (a:Int) l (ad.add a) 4 w.heap.size #[.int .i64 0,.int .i64 0,.string ⟨#[]⟩,.slice none 0 0,.slice none 0 0] from ⟨HB.out.below HBW.out,(HBW.out.cell (qs4 w _ hx0)).trans hx0,by simpa using heap_alloc_new w _⟩)
 clear hx0
 have h0:=L1.out.blk.c0;have h1:=L1.out.blk.c1;have h2:=L1.out.blk.c2;have f1:=L1.out.blk.fz 1;have f2:=L1.out.blk.fz 2;have hx0:=L1.out.byt;have fr_:=qAC L1.out.res 0
 have HF4:∀ W4,W4=((w.alloc (.cells #[.int .i64 0,.int .i64 0,.string ⟨#[]⟩,.slice none 0 0,.slice none 0 0] 48)).setCell ⟨g,2,none⟩ (.int .i64 (l - 1))).setCell ⟨g,1,none⟩ (.int .i64 ((a:Int)+1))→mb.Fr g w W4∧Below w0.heap.size w0 W4:=by
  rintro _ rfl
  exact ⟨((mb.Fr.of_below HBW.out).trans (mb.Fr.set _ _ _ _)).trans (mb.Fr.set _ _ _ _),((HBB.out.alloc HBB.out.size _).setCell hg _).setCell hg _⟩
 have HF4:=qAA.mk HF4
 have hs0:wrap64 ((a:Int)+1)=(a:Int)+1:=hwr.out
 have HCN:=qAA.mk (fun (W:World) (x1:Below w0.heap.size w0 W) (x2:mb.Blk W g (some ad) bs.length c ((a:Int)+1) (l - 1)) (x3:(Kd.int .u8).C W (some ad) bs.length bs)=>mb.countN hU x1 hg x2 x3 hc (a:Int) 1 he (by omega) (by omega) (by omega) (by omega) hn)
 clear hU hb hg hB hC hc ha1 hl0 hl1 ha0 hgl
 go_enter Try.func89,Try.ntmps89
 go_wp2_with (first | (go_at_call 98;refine (mb.qBr L1.out.blk 1 (a:Int) HL0.out HL1.out (by omega)).mono ?_;rintro e_ w3 ⟨rfl,hx⟩;have L3:=qAA.mk (L1.out.fr (hx▸mb.Fr.set _ _ _ _) (hx▸L1.out.blk.set2 _));have HX3:=qAA.mk hx;clear hx;clear h0 h1 h2 f1 f2 hx0 fr_;have h0:=L3.out.blk.c0;have h1:=L3.out.blk.c1;have h2:=L3.out.blk.c2;have f1:=L3.out.blk.fz 1;have f2:=L3.out.blk.fz 2;have hx0:=L3.out.byt;have fr_:=qAC L3.out.res 0) | ((with_reducible refine qAh (p:=48) rfl ?_);go_must (refine qA3 ?hg (t:=3) (p:=48) (v:=.tmp 46) (w1:=w3.setCell ⟨g,1,none⟩ (.int .i64 (wrap64 ((a:Int)+1)))) ?ho ?hN ?hr ?_);(case ho=>rfl);(case hN=>rfl);(case hg=>rfl);(case hr=>first | (go_simp;done) | (go_simp;rfl));intro w4 e4;rw [hwr.out] at e4;have L4:=qAA.mk (L3.out.fr (e4▸mb.Fr.set _ _ _ _) (e4▸L3.out.blk.set1 _));have HX4:=qAA.mk e4;clear e4;have HFW:=qAA.mk (HF4.out _ (HX4.out.trans (by rw [HX3.out])));clear h0 h1 h2 f1 f2 hx0 fr_;have h0:=L4.out.blk.c0;have h1:=L4.out.blk.c1;have h2:=L4.out.blk.c2;have f1:=L4.out.blk.fz 1;have f2:=L4.out.blk.fz 2;have hx0:=L4.out.byt;have fr_:=qAC L4.out.res 0) | (go_at_call 100;refine (HCN.out _ HFW.out.2 L4.out.blk (mb.qBD HC.out HB.out HFW.out.1)).mono ?_;rintro e_ w5 ⟨rfl,hx⟩;have HX5:=qAA.mk hx;clear hx;unfold mb.flt))
 exact ⟨rfl,rfl,HFW.out.1.trans HX5.out.fr,HX5.out.bel⟩
theorem mb.val_b1 {bs:List Int} {u i:Int→Int × Int × Int} (hU:mb.Uin bs u i) {w0 w:World} {g:Nat} {A:Option Addr} {c:Nat} {a l:Int} (hb:Below w0.heap.size w0 w) (hg:w0.heap.size≤g) (hB:mb.Blk w g A bs.length c a l) (hC:(Kd.int .u8).C w A bs.length bs) (hc:bs.length≤c) (within:Int) (ha1:a=(bs.length:Int)) :
  Calls Try.prog 89 #[.pointer (some ⟨g,0,none⟩),.int .i64 within] w (mb.GotV (.bad 41 a) w0 w g A bs.length c):=by
 have HB:=qAA.mk hB
 have HBB:=qAA.mk hb
 have hgl:g < w.heap.size:=qAX hB
 have HBW:=qAA.mk ((Below.refl w.heap.size w).alloc (Nat.le_refl _) (.cells #[.int .i64 0,.int .i64 0,.string ⟨#[]⟩,.slice none 0 0,.slice none 0 0] 48))
 have L1:=qAA.mk (HB.out.below HBW.out)
 have h0:=L1.out.c0;have h1:=L1.out.c1;have h2:=L1.out.c2;have f1:=L1.out.fz 1;have f2:=L1.out.fz 2
 have t0:(a == (bs.length:Int))=true:=beq_iff_eq.2 ha1
 have t1:(a=(bs.length:Int))=True:=eq_true ha1
 clear ha1
 clear hU hb hg hB hC hc hgl
 generalize bs.length=m at *
 go_enter Try.func89,Try.ntmps89
 go_wp2_with (go_at_call 97;refine (mb.fails1 41 a _).mono ?_;rintro e_ w_ ⟨rfl,rfl⟩;unfold mb.flt)
 exact ⟨rfl,rfl,mb.Fr.of_below HBW.out,HBB.out.alloc HBB.out.size _⟩
theorem mb.val_b2 {bs:List Int} {u i:Int→Int × Int × Int} (hU:mb.Uin bs u i) {w0 w:World} {g:Nat} {A:Option Addr} {c:Nat} {a l:Int} (hb:Below w0.heap.size w0 w) (hg:w0.heap.size≤g) (hB:mb.Blk w g A bs.length c a l) (hC:(Kd.int .u8).C w A bs.length bs) (hc:bs.length≤c) (within:Int) (ha0:0≤a) (ha1:a < (bs.length:Int)) (hx:rd bs a > 6) :
  Calls Try.prog 89 #[.pointer (some ⟨g,0,none⟩),.int .i64 within] w (mb.GotV (.bad 41 a) w0 w g A bs.length c):=by
 have HB:=qAA.mk hB
 have HBB:=qAA.mk hb
 have hgl:g < w.heap.size:=qAX hB
 have HBW:=qAA.mk ((Below.refl w.heap.size w).alloc (Nat.le_refl _) (.cells #[.int .i64 0,.int .i64 0,.string ⟨#[]⟩,.slice none 0 0,.slice none 0 0] 48))
 have L1:=qAA.mk (HB.out.below HBW.out)
 have h0:=L1.out.c0;have h1:=L1.out.c1;have h2:=L1.out.c2;have f1:=L1.out.fz 1;have f2:=L1.out.fz 2
 obtain ⟨a,rfl⟩:=Int.eq_ofNat_of_zero_le ha0
 have t0:((a:Int) == (bs.length:Int))=false:=beq_eq_false_iff_ne.2 (by omega)
 have t1:(a=bs.length)=False:=eq_false (by omega)
 have t2:decide (a=bs.length)=false:=decide_eq_false (by omega)
 have t3:(a:Int) < (bs.length:Int):=ha1
 have t4:a < bs.length:=by omega
 have t5:decide (a < bs.length)=true:=decide_eq_true t4
 obtain ⟨ad,hA,hx0_⟩:=Kd.qB7 hC (a:Int) (by omega) ha1
 subst hA
 rw [Int.toNat_natCast] at hx0_
 have hx0:=(HBW.out.cell (qs4 w _ hx0_)).trans hx0_
 generalize rd bs (a:Int)=x at *
 clear hx0_
 have t6:decide (x > 6)=true:=decide_eq_true (by omega)
 have t7:decide (6 < x)=true:=decide_eq_true (by omega)
 clear ha1 hx ha0
 clear hU hb hg hB hC hc hgl
 generalize bs.length=m at *
 go_enter Try.func89,Try.ntmps89
 go_wp2_with (go_at_call 97;refine (mb.fails1 41 (a:Int) _).mono ?_;rintro e_ w_ ⟨rfl,rfl⟩;unfold mb.flt)
 exact ⟨rfl,rfl,mb.Fr.of_below HBW.out,HBB.out.alloc HBB.out.size _⟩
theorem mb.val_bd {bs:List Int} {u i:Int→Int × Int × Int} (hU:mb.Uin bs u i) {w0 w:World} {g:Nat} {A:Option Addr} {c:Nat} {a l:Int} (hb:Below w0.heap.size w0 w) (hg:w0.heap.size≤g) (hB:mb.Blk w g A bs.length c a l) (hC:(Kd.int .u8).C w A bs.length bs) (hc:bs.length≤c) (within:Int) (hw:(within == 8)=true) (ha0:0≤a) (ha1:a < (bs.length:Int)) (hx:rd bs a≤6) :
  Calls Try.prog 89 #[.pointer (some ⟨g,0,none⟩),.int .i64 within] w (mb.GotV (.bad 42 a) w0 w g A bs.length c):=by
 have HB:=qAA.mk hB
 have HBB:=qAA.mk hb
 have hgl:g < w.heap.size:=qAX hB
 have HBW:=qAA.mk ((Below.refl w.heap.size w).alloc (Nat.le_refl _) (.cells #[.int .i64 0,.int .i64 0,.string ⟨#[]⟩,.slice none 0 0,.slice none 0 0] 48))
 have L1:=qAA.mk (HB.out.below HBW.out)
 have h0:=L1.out.c0;have h1:=L1.out.c1;have h2:=L1.out.c2;have f1:=L1.out.fz 1;have f2:=L1.out.fz 2
 obtain ⟨a,rfl⟩:=Int.eq_ofNat_of_zero_le ha0
 have t0:((a:Int) == (bs.length:Int))=false:=beq_eq_false_iff_ne.2 (by omega)
 have t1:(a=bs.length)=False:=eq_false (by omega)
 have t2:decide (a=bs.length)=false:=decide_eq_false (by omega)
 have t3:(a:Int) < (bs.length:Int):=ha1
 have t4:a < bs.length:=by omega
 have t5:decide (a < bs.length)=true:=decide_eq_true t4
 obtain ⟨ad,hA,hx0_⟩:=Kd.qB7 hC (a:Int) (by omega) ha1
 subst hA
 rw [Int.toNat_natCast] at hx0_
 have hx0:=(HBW.out.cell (qs4 w _ hx0_)).trans hx0_
 generalize rd bs (a:Int)=x at *
 clear hx0_
 have t6:decide (x > 6)=false:=decide_eq_false (by omega)
 have t7:decide (6 < x)=false:=decide_eq_false (by omega)
 clear ha1 hx ha0
 clear hU hb hg hB hC hc hgl
 generalize bs.length=m at *
 go_enter Try.func89,Try.ntmps89
 go_wp2_with (go_at_call 97;refine (mb.fails1 42 (a:Int) _).mono ?_;rintro e_ w_ ⟨rfl,rfl⟩;unfold mb.flt)
 exact ⟨rfl,rfl,mb.Fr.of_below HBW.out,HBB.out.alloc HBB.out.size _⟩
theorem mb.val_bw {bs:List Int} {u i:Int→Int × Int × Int} (hU:mb.Uin bs u i) {w0 w:World} {g:Nat} {A:Option Addr} {c:Nat} {a l:Int} (hb:Below w0.heap.size w0 w) (hg:w0.heap.size≤g) (hB:mb.Blk w g A bs.length c a l) (hC:(Kd.int .u8).C w A bs.length bs) (hc:bs.length≤c) (within:Int) (hw:(within == 8)=false) (ha0:0≤a) (ha1:a < (bs.length:Int)) (hx:rd bs a≤6) (hl:l < 1) :
  Calls Try.prog 89 #[.pointer (some ⟨g,0,none⟩),.int .i64 within] w (mb.GotV (.bad 42 a) w0 w g A bs.length c):=by
 have HB:=qAA.mk hB
 have HBB:=qAA.mk hb
 have hgl:g < w.heap.size:=qAX hB
 have HBW:=qAA.mk ((Below.refl w.heap.size w).alloc (Nat.le_refl _) (.cells #[.int .i64 0,.int .i64 0,.string ⟨#[]⟩,.slice none 0 0,.slice none 0 0] 48))
 have L1:=qAA.mk (HB.out.below HBW.out)
 have h0:=L1.out.c0;have h1:=L1.out.c1;have h2:=L1.out.c2;have f1:=L1.out.fz 1;have f2:=L1.out.fz 2
 obtain ⟨a,rfl⟩:=Int.eq_ofNat_of_zero_le ha0
 have t0:((a:Int) == (bs.length:Int))=false:=beq_eq_false_iff_ne.2 (by omega)
 have t1:(a=bs.length)=False:=eq_false (by omega)
 have t2:decide (a=bs.length)=false:=decide_eq_false (by omega)
 have t3:(a:Int) < (bs.length:Int):=ha1
 have t4:a < bs.length:=by omega
 have t5:decide (a < bs.length)=true:=decide_eq_true t4
 obtain ⟨ad,hA,hx0_⟩:=Kd.qB7 hC (a:Int) (by omega) ha1
 subst hA
 rw [Int.toNat_natCast] at hx0_
 have hx0:=(HBW.out.cell (qs4 w _ hx0_)).trans hx0_
 generalize rd bs (a:Int)=x at *
 clear hx0_
 have t6:decide (x > 6)=false:=decide_eq_false (by omega)
 have t7:decide (6 < x)=false:=decide_eq_false (by omega)
 have HLX:=qAA.mk hl
 clear ha1 hx ha0 hl
 clear hU hb hg hB hC hc hgl
 generalize bs.length=m at *
 go_enter Try.func89,Try.ntmps89
 go_wp2_with (go_at_call 98;refine (mb.weighsN L1.out 1 (a:Int) HLX.out).mono ?_;rintro e_ w3 ⟨rfl,hx⟩;have HX3:=qAA.mk hx;clear hx;unfold mb.flt)
 exact ⟨rfl,rfl,HX3.out▸mb.Fr.of_below HBW.out,HX3.out▸HBB.out.alloc HBB.out.size _⟩
end
end Go.Proofs.Ytmehfnikecmiiaa.X
namespace Go.Proofs.Ytmehfnikecmiiaa.X
open Go.RowKit Go.Proofs.YtmehfnikecmiiaaW.PrintWords Go.Proofs.YtmehfnikecmiiaaW.PrintLast Go.Proofs.YtmehfnikecmiiaaW.PrintMore Go.Proofs.YtmehfnikecmiiaaW
section
set_option maxHeartbeats 4000000
set_option maxRecDepth 100000
theorem mb.own_res {W W5:World} {O:Obj} (hG:(W.alloc O).grownBy W5 (some W.heap.size)):Below W.heap.size W W5 :=
 ⟨hG.os,hG.tape,hG.output,Nat.le_trans (by rw [Deep.nblk_alloc];omega) hG.size,fun k hk=>(hG.block k (by rw [Deep.nblk_alloc];omega) (fun e=>absurd (Option.some.inj e) (by omega))).trans (Deep.blk_alloc_lt _ _ _ hk)⟩
structure mb.LQ (w0 w W:World) (g:Nat) (A:Option Addr) (m c:Nat) (vb:Nat) (a l kd:Int) (v3 v4:Value) (acc:List S48) (ks:List ByteArray):Prop where
 blk:mb.Blk W g A m c a l
 fr:mb.Fr g w W
 bel:Below w0.heap.size w0 W
 box:W.heap[vb]?=some (.cells #[.int .i64 kd,.int .i64 0,.string ⟨#[]⟩,v3,v4] 48 (0,0))
 res:W.heap[w.heap.size]?=some (.cells #[.int .i64 0,.int .i64 0,.string ⟨#[]⟩,.slice none 0 0,.slice none 0 0] 48 (0,0))
 row:k48.R 48 W w0.heap.size (fun k=>vb < k∧some k ≠ v4.ownBlock) v3 acc
 keys:Kd.string.R 9 W w0.heap.size (fun k=>vb < k) v4 ks
 hvb:w.heap.size < vb
 hgl:g < w.heap.size
 hg:w0.heap.size≤g
section
variable {w0 w W W1:World} {g:Nat} {A:Option Addr} {m c:Nat} {vb:Nat} {a l a1 l1 kd:Int} {v3 v4:Value} {acc:List S48} {ks:List ByteArray}
theorem mb.LQ.lt (h:mb.LQ w0 w W g A m c vb a l kd v3 v4 acc ks):vb < W.heap.size:=qAX h.box
theorem mb.LQ.below (h:mb.LQ w0 w W g A m c vb a l kd v3 v4 acc ks) (hb:Below W.heap.size W W1):mb.LQ w0 w W1 g A m c vb a l kd v3 v4 acc ks :=
 ⟨h.blk.below hb,h.fr.trans (mb.Fr.of_below hb),qAU h.bel h.bel.size hb,qAL h.box hb,qAL h.res hb,Kd.qBZ h.row hb,Kd.qBZ h.keys hb,h.hvb,h.hgl,h.hg⟩
theorem mb.LQ.step (h:mb.LQ w0 w W g A m c vb a l kd v3 v4 acc ks) (hn:mb.Nx w0 W W1 g A m c a1 l1):mb.LQ w0 w W1 g A m c vb a1 l1 kd v3 v4 acc ks :=
 have h1:=h.hgl
 have h2:=h.hvb
 ⟨hn.blk,h.fr.trans hn.fr,hn.bel,(hn.fr.2 vb h.lt (by omega)).trans h.box,(hn.fr.2 _ (qAX h.res) (by omega)).trans h.res,Kd.R_step h.row (fun k hk hlt=>hn.fr.2 k hlt (by have:=hk.1;omega)),Kd.R_step h.keys (fun k hk hlt=>hn.fr.2 k hlt (by omega)),h2,h1,h.hg⟩
theorem mb.LQ.app3 {v5:Value} {acc2:List S48} (h:mb.LQ w0 w W g A m c vb a l kd v3 v4 acc ks) (ho:k48.R 48 W1 w0.heap.size (fun k=>vb < k∧some k ≠ v4.ownBlock) v5 acc2) (hb:Below w0.heap.size w0 W1) (hg:W.grownBy W1 v3.ownBlock):mb.LQ w0 w (W1.setCell ⟨vb,3,none⟩ v5) g A m c vb a l kd v5 v4 acc2 ks:=by
 have h1:=h.hgl
 have h2:=h.hvb
 have h3:=h.hg
 have hne:∀ b,b≤vb→some b ≠ v3.ownBlock:=fun b hb2 e=>by have:=(h.row.1 b e.symm).1;omega
 have hsz:w.heap.size≤W.heap.size:=h.fr.1
 have fr1:mb.Fr g w W1:=⟨Nat.le_trans hsz hg.size,fun k hk hkg=>(hg.block k (by omega) (hne k (by omega))).trans (h.fr.2 k hk hkg)⟩
 have box1:=qAg h.box hg (hne vb (Nat.le_refl _))
 exact ⟨(Below.heap_setCell W1 ⟨vb,3,none⟩ v5 g (show g ≠ vb by omega)).trans (qAg h.blk hg (hne g (by omega))),
  ⟨Nat.le_trans fr1.1 (by simp [World.setCell]),fun k hk hkg=>(Below.heap_setCell W1 ⟨vb,3,none⟩ v5 k (show k ≠ vb by omega)).trans (fr1.2 k hk hkg)⟩,
  hb.setCell (show w0.heap.size≤vb by omega) v5,
  qAx box1 3 v5 rfl,
  (Below.heap_setCell W1 ⟨vb,3,none⟩ v5 _ (show w.heap.size ≠ vb by omega)).trans (qAg h.res hg (hne _ (by omega))),
  Kd.qBL ho (fun k hk=>by show k ≠ vb;have:=hk.1;omega) v5,
  Kd.qBL (Kd.R_over' h.keys (Kd.R_typed h.row) (by decide) hg) (fun k hk=>by show k ≠ vb;omega) v5,h2,h1,h3⟩
theorem mb.LQ.app4 {v5:Value} {ks2:List ByteArray} (h:mb.LQ w0 w W g A m c vb a l kd v3 v4 acc ks) (ho:Kd.string.R 9 W1 w0.heap.size (fun k=>vb < k) v5 ks2) (hb:Below w0.heap.size w0 W1) (hg:W.grownBy W1 v4.ownBlock) (hat:v5.ownBlock=v4.ownBlock ∨ ∃ b,v5.ownBlock=some b∧W.heap.size≤b):mb.LQ w0 w (W1.setCell ⟨vb,4,none⟩ v5) g A m c vb a l kd v3 v5 acc ks2:=by
 have h1:=h.hgl
 have h2:=h.hvb
 have h3:=h.hg
 have hne:∀ b,b≤vb→some b ≠ v4.ownBlock:=fun b hb2 e=>by have:=h.keys.1 b e.symm;omega
 have hsz:w.heap.size≤W.heap.size:=h.fr.1
 have fr1:mb.Fr g w W1:=⟨Nat.le_trans hsz hg.size,fun k hk hkg=>(hg.block k (by omega) (hne k (by omega))).trans (h.fr.2 k hk hkg)⟩
 have box1:=qAg h.box hg (hne vb (Nat.le_refl _))
 exact ⟨(Below.heap_setCell W1 ⟨vb,4,none⟩ v5 g (show g ≠ vb by omega)).trans (qAg h.blk hg (hne g (by omega))),
  ⟨Nat.le_trans fr1.1 (by simp [World.setCell]),fun k hk hkg=>(Below.heap_setCell W1 ⟨vb,4,none⟩ v5 k (show k ≠ vb by omega)).trans (fr1.2 k hk hkg)⟩,
  hb.setCell (show w0.heap.size≤vb by omega) v5,
  qAx box1 4 v5 rfl,
  (Below.heap_setCell W1 ⟨vb,4,none⟩ v5 _ (show w.heap.size ≠ vb by omega)).trans (qAg h.res hg (hne _ (by omega))),
  Kd.qBL (Kd.R_after h.row hg hat) (fun k hk=>by show k ≠ vb;have:=hk.1;omega) v5,
  Kd.qBL ho (fun k hk=>by show k ≠ vb;omega) v5,h2,h1,h3⟩
end
theorem mb.meas (k n:Nat) (hlt:k < n) (hw:wrap64 ((k:Int)+1)=(k:Int)+1):n - (intOf (.int .i64 (wrap64 ((k:Int)+1)))).toNat < n - (intOf (.int .i64 (k:Int))).toNat:=by
 rw [hw]
 show n - ((k:Int)+1).toNat < n - ((k:Int)).toNat
 omega
theorem mb.keyS_b {bs:List Int} {u i:Int→Int × Int × Int} (hU:mb.Uin bs u i) {ks:List ByteArray} {a l a2 l2:Int} {k:ByteArray} (hl:0≤l∧l≤2048) (h:mb.keyS bs u ks a l=.ok k a2 l2):0≤a2∧a2≤(bs.length:Int)∧0≤l2∧l2≤2048:=by
 unfold mb.keyS at h
 by_cases h1:(u a).2.2 ≠ 0
 ·rw [if_pos h1] at h;cases h
 rw [if_neg h1] at h
 by_cases h2:(u a).1 > 32
 ·rw [if_pos h2] at h;cases h
 rw [if_neg h2] at h
 by_cases h3:(u a).1 > (bs.length:Int) - (u a).2.1
 ·rw [if_pos h3] at h;cases h
 rw [if_neg h3] at h
 dsimp only at h
 split at h
 ·cases h
 split at h
 ·cases h
 next h4 =>
  injection h with e1 e2 e3
  have hN:=hU.N a (Classical.byContradiction h1)
  have hR:=hU.R a
  subst e2
  subst e3
  exact ⟨by omega,by omega,by omega,by omega⟩
theorem mb.val_t5 {bs:List Int} {u i:Int→Int × Int × Int} (hU:mb.Uin bs u i) {w0 w:World} {g:Nat} {A:Option Addr} {c:Nat} {a l:Int} (hb:Below w0.heap.size w0 w) (hg:w0.heap.size≤g) (hB:mb.Blk w g A bs.length c a l) (hC:(Kd.int .u8).C w A bs.length bs) (hc:bs.length≤c) (within:Int) (hw:(within == 8)=false) (ha0:0≤a) (ha1:a < (bs.length:Int)) (hl0:1≤l) (hl1:l≤2048) (ht:rd bs a=5) (he:(u (a+1)).2.2=0) (hn:(u (a+1)).1≤(l - 1) / 1) (hwi:0≤within∧within≤8) (f:Int→Int→mb.R3 S48) (hfb:∀ (a l:Int) (x:S48) (a2 l2:Int),0≤a→a≤(bs.length:Int)→0≤l→l≤2048→f a l=.ok x a2 l2→0≤a2∧a2≤(bs.length:Int)∧0≤l2∧l2≤2048) (IH:∀ (W:World) (a l:Int),Below w0.heap.size w0 W→mb.Blk W g A bs.length c a l→(Kd.int .u8).C W A bs.length bs→0≤a→a≤bs.length→0≤l→l≤2048→Calls Try.prog 89 #[.pointer (some ⟨g,0,none⟩),.int .i64 (within+1)] W (mb.GotV (f a l) w0 W g A bs.length c)) :
  Calls Try.prog 89 #[.pointer (some ⟨g,0,none⟩),.int .i64 within] w (mb.GotV (mb.arrV (mb.arrL f (u (a+1)).1.toNat [] (u (a+1)).2.1 (l - 1))) w0 w g A bs.length c):=by
 have HB:=qAA.mk hB
 have HC:=qAA.mk hC
 have HCC:=qAA.mk hc
 have HBB:=qAA.mk hb
 have HGG:=qAA.mk hg
 have HLL:=qAA.mk hU.L
 have HUU:=qAA.mk hU
 have hgl:g < w.heap.size:=qAX hB
 have hu25:=Try.underlying48
 obtain ⟨a,rfl⟩:=Int.eq_ofNat_of_zero_le ha0
 have t0:((a:Int) == (bs.length:Int))=false:=beq_eq_false_iff_ne.2 (by omega)
 have t1:(a=bs.length)=False:=eq_false (by omega)
 have t2:decide (a=bs.length)=false:=decide_eq_false (by omega)
 have t3:(a:Int) < (bs.length:Int):=ha1
 have t4:a < bs.length:=by omega
 have t5:decide (a < bs.length)=true:=decide_eq_true t4
 have hwr:=qAA.mk (show wrap64 ((a:Int)+1)=(a:Int)+1 by have:=hU.L;unfold wrap64;omega)
 have HL0:=qAA.mk hl0
 have HL1:=qAA.mk hl1
 obtain ⟨ad,hA,hx0⟩:=Kd.qB7 hC (a:Int) (by omega) ha1
 subst hA
 rw [Int.toNat_natCast,ht] at hx0
 have HBW:=qAA.mk ((Below.refl w.heap.size w).alloc (Nat.le_refl _) (.cells #[.int .i64 0,.int .i64 0,.string ⟨#[]⟩,.slice none 0 0,.slice none 0 0] 48))
 have L1:=qAA.mk (show mb.Ly (w.alloc (.cells #[.int .i64 0,.int .i64 0,.string ⟨#[]⟩,.slice none 0 0,.slice none 0 0] 48)) g (some ad) bs.length c (a:Int) l (ad.add a) 5 w.heap.size #[.int .i64 0,.int .i64 0,.string ⟨#[]⟩,.slice none 0 0,.slice none 0 0] from ⟨HB.out.below HBW.out,(HBW.out.cell (qs4 w _ hx0)).trans hx0,by simpa using heap_alloc_new w _⟩)
 clear hx0
 have h0:=L1.out.blk.c0;have h1:=L1.out.blk.c1;have h2:=L1.out.blk.c2;have f1:=L1.out.blk.fz 1;have f2:=L1.out.blk.fz 2;have hx0:=L1.out.byt;have fr_:=qAC L1.out.res 0
 have HF4:∀ W4,W4=((w.alloc (.cells #[.int .i64 0,.int .i64 0,.string ⟨#[]⟩,.slice none 0 0,.slice none 0 0] 48)).setCell ⟨g,2,none⟩ (.int .i64 (l - 1))).setCell ⟨g,1,none⟩ (.int .i64 ((a:Int)+1))→mb.Fr g w W4∧Below w0.heap.size w0 W4:=by
  rintro _ rfl
  exact ⟨((mb.Fr.of_below HBW.out).trans (mb.Fr.set _ _ _ _)).trans (mb.Fr.set _ _ _ _),((HBB.out.alloc HBB.out.size _).setCell hg _).setCell hg _⟩
 have HF4:=qAA.mk HF4
 have hs0:wrap64 ((a:Int)+1)=(a:Int)+1:=hwr.out
 have HCN:=qAA.mk (fun (W:World) (x1:Below w0.heap.size w0 W) (x2:mb.Blk W g (some ad) bs.length c ((a:Int)+1) (l - 1)) (x3:(Kd.int .u8).C W (some ad) bs.length bs)=>mb.countY hU x1 hg x2 x3 hc (a:Int) 1 he (by omega) (by omega) (by omega) (by omega) hn)
 have hrR:=hU.R ((a:Int)+1)
 have hrN:=hU.N ((a:Int)+1) he
 obtain ⟨r1,r2,r3,hr⟩:∃ r1 r2 r3,u ((a:Int)+1)=(r1,r2,r3):=⟨_,_,_,rfl⟩
 rw [hr] at HCN hn hrR hrN ⊢
 dsimp only at HCN hn hrR hrN ⊢
 have HGL:=qAA.mk hgl
 have hr2:0≤r2∧r2≤bs.length:=⟨Int.le_of_lt (Int.lt_of_le_of_lt hrN.1 hrN.2.1),hrN.2.2⟩
 have hr1:0≤r1:=hrR.1
 obtain ⟨n,rfl⟩:=Int.eq_ofNat_of_zero_le hr1
 have hn2:n≤2048:=by rw [Int.ediv_one] at hn;omega
 have HN2:=qAA.mk hn2
 have hwi2:wrap64 (within+1)=within+1:=by unfold wrap64;omega
 rw [← hwi2] at IH
 clear hwi2
 have HIH:=qAA.mk IH
 have HFB:=qAA.mk hfb
 rw [Int.toNat_natCast]
 obtain ⟨T,hT⟩:∃ T,mb.arrL f n [] r2 (l - 1)=T:=⟨_,rfl⟩
 rw [hT]
 have HP0:=qAA.mk (show mb.arrL f (n - 0) [] r2 (l - 1)=T∧([]:List S48).length=0∧0≤n∧(0≤r2∧r2≤bs.length∧0≤l - 1∧l - 1≤2048) from ⟨hT,rfl,Nat.zero_le _,by omega⟩)
 clear hn hrR hrN he hr hr2 hr1 hT hn2 IH hfb hwi
 clear hU hb hg hB hC hc ha1 hl0 hl1 ha0 hgl
 go_enter Try.func89,Try.ntmps89
 go_wp2_with (first | (go_at_call 98;refine (mb.qBr L1.out.blk 1 (a:Int) HL0.out HL1.out (by omega)).mono ?_;rintro e_ w3 ⟨rfl,hx⟩;have L3:=qAA.mk (L1.out.fr (hx▸mb.Fr.set _ _ _ _) (hx▸L1.out.blk.set2 _));have HX3:=qAA.mk hx;clear hx;clear h0 h1 h2 f1 f2 hx0 fr_;have h0:=L3.out.blk.c0;have h1:=L3.out.blk.c1;have h2:=L3.out.blk.c2;have f1:=L3.out.blk.fz 1;have f2:=L3.out.blk.fz 2;have hx0:=L3.out.byt;have fr_:=qAC L3.out.res 0) | ((with_reducible refine qAh (p:=48) rfl ?_);go_must (refine qA3 ?hg (t:=3) (p:=48) (v:=.tmp 46) (w1:=w3.setCell ⟨g,1,none⟩ (.int .i64 (wrap64 ((a:Int)+1)))) ?ho ?hN ?hr ?_);(case ho=>rfl);(case hN=>rfl);(case hg=>rfl);(case hr=>first | (go_simp;done) | (go_simp;rfl));intro w4 e4;rw [hwr.out] at e4;have L4:=qAA.mk (L3.out.fr (e4▸mb.Fr.set _ _ _ _) (e4▸L3.out.blk.set1 _));have HX4:=qAA.mk e4;clear e4;have HFW:=qAA.mk (HF4.out _ (HX4.out.trans (by rw [HX3.out])));clear h0 h1 h2 f1 f2 hx0 fr_;have h0:=L4.out.blk.c0;have h1:=L4.out.blk.c1;have h2:=L4.out.blk.c2;have f1:=L4.out.blk.fz 1;have f2:=L4.out.blk.fz 2;have hx0:=L4.out.byt;have fr_:=qAC L4.out.res 0) | ((with_reducible refine qAh (p:=10) rfl ?_);refine mb.qBV rfl rfl 10 _ rfl w4.heap.size rfl (.int .i64 4) (.int .i64 0) (.string ⟨#[]⟩) (.slice none 0 0) (.slice none 0 0) rfl (fun q hq=>by simp at hq;rcases hq with rfl | rfl | rfl | rfl | rfl <;> rfl) _ rfl (by simpa using heap_alloc_new w4 _) ?_;intro w5 hres hgr;have HB5:=qAA.mk (mb.own_res hgr);have L5:=qAA.mk (L4.out.below HB5.out);have hv:w.heap.size < w4.heap.size:=by { rw [HX4.out,HX3.out,Deep.nblk_setCell,Deep.nblk_setCell,Deep.nblk_alloc];exact Nat.lt_succ_self _ };have Q5:=qAA.mk (show mb.LQ w0 w w5 g (some ad) bs.length c w4.heap.size ((a:Int)+1) (l - 1) 4 (.slice none 0 0) (.slice none 0 0) [] [] from ⟨L5.out.blk,HFW.out.1.trans (mb.Fr.of_below HB5.out),qAU HFW.out.2 HFW.out.2.size HB5.out,hres,L5.out.res,Kd.qBx _ _ _ _ _,Kd.qBx _ _ _ _ _,hv,HGL.out,HGG.out⟩);clear hres hgr hv;clear h0 h1 h2 f1 f2 hx0 fr_;have h0:=L5.out.blk.c0;have h1:=L5.out.blk.c1;have h2:=L5.out.blk.c2;have f1:=L5.out.blk.fz 1;have f2:=L5.out.blk.fz 2;have hx0:=L5.out.byt;have fr_:=qAC L5.out.res 0) | (go_at_call 100;refine (HCN.out _ Q5.out.bel Q5.out.blk (mb.qBD HC.out HB.out Q5.out.fr)).mono ?_;rintro e_ w6 ⟨rfl,hx⟩;have Q6:=qAA.mk (Q5.out.step hx);clear hx;clear h0 h1 h2 f1 f2 hx0 fr_))
 generalize w4.heap.size=vb at *
 go_loopw [115] (fun v115 wr=>∃ (j:Nat) (acc:List S48) (v3:Value) (a' l':Int),v115=.int .i64 (j:Int)∧qAA (mb.arrL f (n - j) acc a' l'=T∧acc.length=j∧j≤n∧(0≤a'∧a'≤bs.length∧0≤l'∧l'≤2048))∧qAA (mb.LQ w0 w wr g (some ad) bs.length c vb a' l' 4 v3 (.slice none 0 0) acc [])) (fun v115 _=>n - (intOf v115).toNat)
 case atStart=>exact ⟨0,[],_,_,_,rfl,HP0,Q6⟩
 case round =>
  clear Q6 Q5 HP0 HB5 L5
  obtain ⟨j,acc,v3,a',l',rfl,HP,HL⟩:=hrel
  by_cases hlt:j < n
  ·have i1:decide ((j:Int) < (n:Int))=true:=decide_eq_true (by omega)
   have i2:decide (j < n)=true:=decide_eq_true hlt
   have i3:(j < n)=True:=eq_true hlt
   have HWR:=qAA.mk (show wrap64 ((j:Int)+1)=(j:Int)+1 by have:=HN2.out;unfold wrap64;omega)
   have HM:=qAA.mk (mb.meas j n hlt HWR.out)
   have hq:n - j=(n - (j+1))+1:=by omega
   have HQ:=qAA.mk hq
   have HJ:=qAA.mk (show j+1≤n by omega)
   clear hlt hq
   go_wp2
   refine qAn (n:=10) (S:=fun w'=>w'.cell? ⟨vb,3,none⟩=some v3) (ds:=[9]) #[qF,qF,qF,qF,qF,qF,qF,qF,qF,qF] (by kernel_rfl) rfl rfl ((qAB (HL.out.below (qAM (Below.refl _ _))).box 3).trans rfl) (fun hHeld => ?_)
   generalize hwd:wr.drew=wd at hHeld ⊢
   have QD:=qAA.mk (hwd▸HL.out.below (qAM (Below.refl _ _)))
   clear hwd
   refine pU 0 117 ?_
   refine pU 2 119 ?_
   refine pU 3 120 ?_
   refine pU 4 121 ?_
   refine tK 1 118 hHeld ?_
   refine one_ (i:=5) (N:=some 122) #[qT,qT,qT,qT,qT,qT,qF,qF,qF,qF] rfl rfl (by kernel_rfl) (by decide) (fun K hK => ?_)
   refine mb.goesT Try.func89 (by kernel_rfl) rfl #[.pointer (some ⟨g,0,none⟩),.int .i64 (wrap64 (within+1))] (by rfl) rfl rfl (by (try simp only [List.map_toArray,List.map_cons,List.map_nil]);first | done | rfl) ?_
   refine (HIH.out _ _ _ QD.out.bel QD.out.blk (mb.qBD HC.out HB.out QD.out.fr) HP.out.2.2.2.1 HP.out.2.2.2.2.1 HP.out.2.2.2.2.2.1 HP.out.2.2.2.2.2.2).mono ?_
   rintro e w7 hgot
   have hrem:=HP.out.1
   rw [HQ.out] at hrem
   unfold mb.arrL at hrem
   rcases hfa:f a' l' with ⟨x,a2,l2⟩ | ⟨ee,pp⟩
   rotate_left
   ·rw [hfa] at hgot hrem
    subst hrem
    exact Or.inr ⟨_,hgot.1,rfl,rfl,QD.out.fr.trans hgot.2.fr,hgot.2.bel⟩
   rw [hfa] at hgot hrem
   obtain ⟨⟨u3,u4,rfl,hr3,hr4⟩,hnx⟩:=hgot
   refine Or.inl ⟨_,rfl, ?_⟩
   have HREM:=qAA.mk hrem
   have HFA:=qAA.mk hfa
   have Q7:=qAA.mk (QD.out.step hnx)
   have R3_:=qAA.mk hr3
   have R4_:=qAA.mk hr4
   have HSZ:=qAA.mk (show wd.heap.size≤w7.heap.size from hnx.fr.1)
   clear hrem hfa hnx hr3 hr4
   refine hK.out _ _ ((qAB Q7.out.box 3).trans rfl) (fun hHeld => ?_)
   clear hK K
   refine qAi (a' := ?_) ?_ ?_
   rotate_left
   ·show Act.put _ (some 122) _=_
    simp only [Act.put,qs1,qs2,qs3,qAR,qAT]
    rfl
   refine one_ (i:=6) (N:=some 123) #[qT,qT,qT,qT,qT,qT,qT,qF,qF,qF] rfl rfl (by kernel_rfl) (by decide) (fun K hK => ?_)
   refine qBO (w1 := ?_) (v := ?_) (by rfl) rfl ?_ ?_
   rotate_left 2
   ·go_simp
    constructor
    ·rfl
    ·rfl
   refine hK.out _ _ ((qAB (qAK Q7.out.box _) 3).trans rfl) (fun hHeld => ?_)
   clear hK K
   refine qAi (a' := ?_) ?_ ?_
   rotate_left
   ·show Act.put _ (some 123) _=_
    simp only [Act.put,qs1,qs2,qs3,qAR,qAT]
    rfl
   refine one_ (i:=7) (N:=some 124) #[qT,qT,qT,qT,qT,qT,qT,qT,qF,qF] rfl rfl (by kernel_rfl) (by decide) (fun K hK => ?_)
   refine Kd.qAq k48 (w0:=w0) w0.heap.size (by rfl) (.tmp 118) (.tmp 123) 23 48 (.agg #[(.int .i64 0),(.int .i64 0),(.string ⟨#[]⟩),(.slice none 0 0),(.slice none 0 0)]) 80 rfl Try.underlying23 info48 rfl (by decide) (by omega) v3 acc x [.int .i64 x.f0,.int .i64 x.f1,.string x.f2,u3,u4] (fun k=>vb < k∧some k ≠ (.slice none 0 0:Value).ownBlock) (fun k=>wd.heap.size≤k) rfl rfl ?aP ?aK ?aF ?aO ?aB ?aS ?aL ?_
   (case aP=>exact k48_mkM _ _ _ x R3_.out R4_.out)
   (case aK=>exact fun k hk=>⟨⟨Nat.lt_of_lt_of_le QD.out.lt hk,fun e=>absurd (Kd.R_lt QD.out.keys k e.symm) (by omega)⟩,fun e=>absurd (Kd.R_lt QD.out.row k e.symm) (by omega)⟩)
   (case aF=>exact fun k hk=>⟨Nat.lt_of_lt_of_le Q7.out.lt hk,fun e=>absurd (Kd.R_lt Q7.out.keys k e.symm) (by omega)⟩)
   (case aO=>exact Q7.out.row)
   (case aB=>exact Q7.out.bel)
   (case aS=>exact Q7.out.bel.size)
   (case aL=>have e1:=HP.out.2.1;have e2:=HJ.out;have e3:=HN2.out;omega)
   intro v5 w8_ ho hb hg2 hat
   obtain ⟨A5,c5,e5⟩:=Kd.qAZ ho
   subst e5
   have Q9:=qAA.mk (Q7.out.app3 ho hb hg2)
   have B8:=qAA.mk (qAg Q7.out.box hg2 (fun e=>absurd (Q7.out.row.1 vb e.symm).1 (Nat.lt_irrefl _)))
   have fv8:=qAC B8.out 3
   clear ho hb hg2 hat
   refine hK.out _ _ ((qAB B8.out 3).trans rfl) (fun hHeld => ?_)
   clear hK K
   refine qAi (a' := ?_) ?_ ?_
   rotate_left
   ·show Act.put _ (some 124) _=_
    simp only [Act.put,qs1,qs2,qs3,qAR,qAT]
    rfl
   refine pU 8 125 ?_
   refine qCD (i:=9) (N:=none) #[qT,qT,qT,qT,qT,qT,qT,qT,qT,qT] rfl rfl (by kernel_rfl) (by decide) (fun K hK => ?_)
   refine qCH (w1 := ?_) (by rfl) rfl ?_ ?_
   rotate_left
   ·go_simp
    rfl
   refine hK.out _ _ ?_
   clear hK K
   refine qA6 (by kernel_rfl) ?_
   go_wp2
   rw [show (acc ++ [x]).length=acc.length+1 from by simp] at Q9
   go_roundw
   case rel=>exact ⟨j+1,acc ++ [x],_,a2,l2,by rw [HWR.out];rfl,⟨HREM.out,by rw [List.length_append,HP.out.2.1];rfl,HJ.out,HFB.out _ _ _ _ _ HP.out.2.2.2.1 HP.out.2.2.2.2.1 HP.out.2.2.2.2.2.1 HP.out.2.2.2.2.2.2 HFA.out⟩,Q9⟩
   case measure=>exact HM.out
  ·have i1:decide ((j:Int) < (n:Int))=false:=decide_eq_false (by omega)
   have i2:decide (j < n)=false:=decide_eq_false hlt
   have i3:(j < n)=False:=eq_false hlt
   have hjn:n - j=0:=by omega
   have hT:=HP.out.1
   rw [hjn] at hT
   have hT2:T=.ok acc a' l':=hT.symm
   subst hT2
   clear hT hjn hlt
   have hz0:wr.cell? ⟨vb,0,none⟩=some (.int .i64 4):=(qAB HL.out.box 0).trans rfl
   have hz1:wr.cell? ⟨vb,1,none⟩=some (.int .i64 0):=(qAB HL.out.box 1).trans rfl
   have hz2:wr.cell? ⟨vb,2,none⟩=some (.string ⟨#[]⟩):=(qAB HL.out.box 2).trans rfl
   have hz3:wr.cell? ⟨vb,3,none⟩=some v3:=(qAB HL.out.box 3).trans rfl
   have hz4:wr.cell? ⟨vb,4,none⟩=some (.slice none 0 0):=(qAB HL.out.box 4).trans rfl
   have hv1:v3.oneCell'=true:=by obtain ⟨A_,c_,e_⟩:=Kd.qAZ HL.out.row;subst e_;rfl
   go_wp2_with (first | ((with_reducible refine qAh (p:=4) rfl ?_);refine mb.qBV rfl rfl 4 _ rfl w.heap.size rfl (.int .i64 4) (.int .i64 0) (.string ⟨#[]⟩) v3 (.slice none 0 0) rfl (fun q hq=>by simp at hq;rcases hq with rfl | rfl | rfl | rfl | rfl <;> first | rfl | exact hv1) _ rfl HL.out.res ?_;intro w5 hres hgr;have HRES:=qAA.mk hres;have HGR:=qAA.mk hgr;clear hgr hres))
   go_wp2
   refine bodyPost_ret (results_cell_row rfl _ _ w.heap.size 48 _ (0,0) _ rfl HRES.out Try.underlying48 rfl (by kernel_rfl)) rfl ?_
   have e1:=HL.out.hgl;have e2:=HL.out.hvb
   exact ⟨⟨_,_,rfl,Kd.qBd (Kd.qCh HL.out.row HGR.out (fun k hk e=>by have:=Option.some.inj e;have:=hk.1;omega)) (fun k hk=>by have:=hk.1;omega),Kd.qBx _ _ _ _ _⟩,mb.fin_nx HL.out.fr HL.out.blk (by omega) HGR.out (Nat.le_refl _) HBB.out.size HL.out.bel⟩
theorem mb.val_t6 {bs:List Int} {u i:Int→Int × Int × Int} (hU:mb.Uin bs u i) {w0 w:World} {g:Nat} {A:Option Addr} {c:Nat} {a l:Int} (hb:Below w0.heap.size w0 w) (hg:w0.heap.size≤g) (hB:mb.Blk w g A bs.length c a l) (hC:(Kd.int .u8).C w A bs.length bs) (hc:bs.length≤c) (within:Int) (hw:(within == 8)=false) (ha0:0≤a) (ha1:a < (bs.length:Int)) (hl0:1≤l) (hl1:l≤2048) (ht:rd bs a=6) (he:(u (a+1)).2.2=0) (hn:(u (a+1)).1≤(l - 1) / 2) (hwi:0≤within∧within≤8) (f:Int→Int→mb.R3 S48) (hfb:∀ (a l:Int) (x:S48) (a2 l2:Int),0≤a→a≤(bs.length:Int)→0≤l→l≤2048→f a l=.ok x a2 l2→0≤a2∧a2≤(bs.length:Int)∧0≤l2∧l2≤2048) (IH:∀ (W:World) (a l:Int),Below w0.heap.size w0 W→mb.Blk W g A bs.length c a l→(Kd.int .u8).C W A bs.length bs→0≤a→a≤bs.length→0≤l→l≤2048→Calls Try.prog 89 #[.pointer (some ⟨g,0,none⟩),.int .i64 (within+1)] W (mb.GotV (f a l) w0 W g A bs.length c)) :
  Calls Try.prog 89 #[.pointer (some ⟨g,0,none⟩),.int .i64 within] w (mb.GotV (mb.recV (mb.recL bs u f (u (a+1)).1.toNat [] [] (u (a+1)).2.1 (l - 1))) w0 w g A bs.length c):=by
 have HB:=qAA.mk hB
 have HC:=qAA.mk hC
 have HCC:=qAA.mk hc
 have HBB:=qAA.mk hb
 have HGG:=qAA.mk hg
 have HLL:=qAA.mk hU.L
 have HUU:=qAA.mk hU
 have hgl:g < w.heap.size:=qAX hB
 have hu25:=Try.underlying48
 obtain ⟨a,rfl⟩:=Int.eq_ofNat_of_zero_le ha0
 have t0:((a:Int) == (bs.length:Int))=false:=beq_eq_false_iff_ne.2 (by omega)
 have t1:(a=bs.length)=False:=eq_false (by omega)
 have t2:decide (a=bs.length)=false:=decide_eq_false (by omega)
 have t3:(a:Int) < (bs.length:Int):=ha1
 have t4:a < bs.length:=by omega
 have t5:decide (a < bs.length)=true:=decide_eq_true t4
 have hwr:=qAA.mk (show wrap64 ((a:Int)+1)=(a:Int)+1 by have:=hU.L;unfold wrap64;omega)
 have HL0:=qAA.mk hl0
 have HL1:=qAA.mk hl1
 obtain ⟨ad,hA,hx0⟩:=Kd.qB7 hC (a:Int) (by omega) ha1
 subst hA
 rw [Int.toNat_natCast,ht] at hx0
 have HBW:=qAA.mk ((Below.refl w.heap.size w).alloc (Nat.le_refl _) (.cells #[.int .i64 0,.int .i64 0,.string ⟨#[]⟩,.slice none 0 0,.slice none 0 0] 48))
 have L1:=qAA.mk (show mb.Ly (w.alloc (.cells #[.int .i64 0,.int .i64 0,.string ⟨#[]⟩,.slice none 0 0,.slice none 0 0] 48)) g (some ad) bs.length c (a:Int) l (ad.add a) 6 w.heap.size #[.int .i64 0,.int .i64 0,.string ⟨#[]⟩,.slice none 0 0,.slice none 0 0] from ⟨HB.out.below HBW.out,(HBW.out.cell (qs4 w _ hx0)).trans hx0,by simpa using heap_alloc_new w _⟩)
 clear hx0
 have h0:=L1.out.blk.c0;have h1:=L1.out.blk.c1;have h2:=L1.out.blk.c2;have f1:=L1.out.blk.fz 1;have f2:=L1.out.blk.fz 2;have hx0:=L1.out.byt;have fr_:=qAC L1.out.res 0
 have HF4:∀ W4,W4=((w.alloc (.cells #[.int .i64 0,.int .i64 0,.string ⟨#[]⟩,.slice none 0 0,.slice none 0 0] 48)).setCell ⟨g,2,none⟩ (.int .i64 (l - 1))).setCell ⟨g,1,none⟩ (.int .i64 ((a:Int)+1))→mb.Fr g w W4∧Below w0.heap.size w0 W4:=by
  rintro _ rfl
  exact ⟨((mb.Fr.of_below HBW.out).trans (mb.Fr.set _ _ _ _)).trans (mb.Fr.set _ _ _ _),((HBB.out.alloc HBB.out.size _).setCell hg _).setCell hg _⟩
 have HF4:=qAA.mk HF4
 have hs0:wrap64 ((a:Int)+1)=(a:Int)+1:=hwr.out
 have HCN:=qAA.mk (fun (W:World) (x1:Below w0.heap.size w0 W) (x2:mb.Blk W g (some ad) bs.length c ((a:Int)+1) (l - 1)) (x3:(Kd.int .u8).C W (some ad) bs.length bs)=>mb.countY hU x1 hg x2 x3 hc (a:Int) 2 he (by omega) (by omega) (by omega) (by omega) hn)
 have hrR:=hU.R ((a:Int)+1)
 have hrN:=hU.N ((a:Int)+1) he
 obtain ⟨r1,r2,r3,hr⟩:∃ r1 r2 r3,u ((a:Int)+1)=(r1,r2,r3):=⟨_,_,_,rfl⟩
 rw [hr] at HCN hn hrR hrN ⊢
 dsimp only at HCN hn hrR hrN ⊢
 have HGL:=qAA.mk hgl
 have hr2:0≤r2∧r2≤bs.length:=⟨Int.le_of_lt (Int.lt_of_le_of_lt hrN.1 hrN.2.1),hrN.2.2⟩
 have hr1:0≤r1:=hrR.1
 obtain ⟨n,rfl⟩:=Int.eq_ofNat_of_zero_le hr1
 have hn2:n≤2048:=by have:=Int.ediv_mul_le (l - 1) (show (2:Int) ≠ 0 by omega);omega
 have HN2:=qAA.mk hn2
 have hwi2:wrap64 (within+1)=within+1:=by unfold wrap64;omega
 rw [← hwi2] at IH
 clear hwi2
 have HIH:=qAA.mk IH
 have HFB:=qAA.mk hfb
 rw [Int.toNat_natCast]
 obtain ⟨T,hT⟩:∃ T,mb.recL bs u f n [] [] r2 (l - 1)=T:=⟨_,rfl⟩
 rw [hT]
 have HP0:=qAA.mk (show mb.recL bs u f (n - 0) [] [] r2 (l - 1)=T∧(([]:List S48).length=0∧([]:List ByteArray).length=0)∧0≤n∧(0≤r2∧r2≤bs.length∧0≤l - 1∧l - 1≤2048) from ⟨hT,⟨rfl,rfl⟩,Nat.zero_le _,by omega⟩)
 clear hn hrR hrN he hr hr2 hr1 hT hn2 IH hfb hwi
 clear hU hb hg hB hC hc ha1 hl0 hl1 ha0 hgl
 go_enter Try.func89,Try.ntmps89
 go_wp2_with (first | (go_at_call 98;refine (mb.qBr L1.out.blk 1 (a:Int) HL0.out HL1.out (by omega)).mono ?_;rintro e_ w3 ⟨rfl,hx⟩;have L3:=qAA.mk (L1.out.fr (hx▸mb.Fr.set _ _ _ _) (hx▸L1.out.blk.set2 _));have HX3:=qAA.mk hx;clear hx;clear h0 h1 h2 f1 f2 hx0 fr_;have h0:=L3.out.blk.c0;have h1:=L3.out.blk.c1;have h2:=L3.out.blk.c2;have f1:=L3.out.blk.fz 1;have f2:=L3.out.blk.fz 2;have hx0:=L3.out.byt;have fr_:=qAC L3.out.res 0) | ((with_reducible refine qAh (p:=48) rfl ?_);go_must (refine qA3 ?hg (t:=3) (p:=48) (v:=.tmp 46) (w1:=w3.setCell ⟨g,1,none⟩ (.int .i64 (wrap64 ((a:Int)+1)))) ?ho ?hN ?hr ?_);(case ho=>rfl);(case hN=>rfl);(case hg=>rfl);(case hr=>first | (go_simp;done) | (go_simp;rfl));intro w4 e4;rw [hwr.out] at e4;have L4:=qAA.mk (L3.out.fr (e4▸mb.Fr.set _ _ _ _) (e4▸L3.out.blk.set1 _));have HX4:=qAA.mk e4;clear e4;have HFW:=qAA.mk (HF4.out _ (HX4.out.trans (by rw [HX3.out])));clear h0 h1 h2 f1 f2 hx0 fr_;have h0:=L4.out.blk.c0;have h1:=L4.out.blk.c1;have h2:=L4.out.blk.c2;have f1:=L4.out.blk.fz 1;have f2:=L4.out.blk.fz 2;have hx0:=L4.out.byt;have fr_:=qAC L4.out.res 0) | ((with_reducible refine qAh (p:=11) rfl ?_);refine mb.qBV rfl rfl 11 _ rfl w4.heap.size rfl (.int .i64 5) (.int .i64 0) (.string ⟨#[]⟩) (.slice none 0 0) (.slice none 0 0) rfl (fun q hq=>by simp at hq;rcases hq with rfl | rfl | rfl | rfl | rfl <;> rfl) _ rfl (by simpa using heap_alloc_new w4 _) ?_;intro w5 hres hgr;have HB5:=qAA.mk (mb.own_res hgr);have L5:=qAA.mk (L4.out.below HB5.out);have hv:w.heap.size < w4.heap.size:=by { rw [HX4.out,HX3.out,Deep.nblk_setCell,Deep.nblk_setCell,Deep.nblk_alloc];exact Nat.lt_succ_self _ };have Q5:=qAA.mk (show mb.LQ w0 w w5 g (some ad) bs.length c w4.heap.size ((a:Int)+1) (l - 1) 5 (.slice none 0 0) (.slice none 0 0) [] [] from ⟨L5.out.blk,HFW.out.1.trans (mb.Fr.of_below HB5.out),qAU HFW.out.2 HFW.out.2.size HB5.out,hres,L5.out.res,Kd.qBx _ _ _ _ _,Kd.qBx _ _ _ _ _,hv,HGL.out,HGG.out⟩);clear hres hgr hv;clear h0 h1 h2 f1 f2 hx0 fr_;have h0:=L5.out.blk.c0;have h1:=L5.out.blk.c1;have h2:=L5.out.blk.c2;have f1:=L5.out.blk.fz 1;have f2:=L5.out.blk.fz 2;have hx0:=L5.out.byt;have fr_:=qAC L5.out.res 0) | (go_at_call 100;refine (HCN.out _ Q5.out.bel Q5.out.blk (mb.qBD HC.out HB.out Q5.out.fr)).mono ?_;rintro e_ w6 ⟨rfl,hx⟩;have Q6:=qAA.mk (Q5.out.step hx);clear hx;clear h0 h1 h2 f1 f2 hx0 fr_))
 generalize w4.heap.size=vb at *
 go_loopw [134] (fun v134 wr=>∃ (j:Nat) (acc:List S48) (ks:List ByteArray) (v3 v4:Value) (a' l':Int),v134=.int .i64 (j:Int)∧qAA (mb.recL bs u f (n - j) ks acc a' l'=T∧(acc.length=j∧ks.length=j)∧j≤n∧(0≤a'∧a'≤bs.length∧0≤l'∧l'≤2048))∧qAA (mb.LQ w0 w wr g (some ad) bs.length c vb a' l' 5 v3 v4 acc ks)) (fun v134 _=>n - (intOf v134).toNat)
 case atStart=>exact ⟨0,[],[],_,_,_,_,rfl,HP0,Q6⟩
 case round =>
  clear Q6 Q5 HP0 HB5 L5
  obtain ⟨j,acc,ks,v3,v4,a',l',rfl,HP,HL⟩:=hrel
  obtain ⟨A4,c4,e4⟩:=Kd.qAZ HL.out.keys
  subst e4
  by_cases hlt:j < n
  ·have i1:decide ((j:Int) < (n:Int))=true:=decide_eq_true (by omega)
   have i2:decide (j < n)=true:=decide_eq_true hlt
   have i3:(j < n)=True:=eq_true hlt
   have HWR:=qAA.mk (show wrap64 ((j:Int)+1)=(j:Int)+1 by have:=HN2.out;unfold wrap64;omega)
   have HM:=qAA.mk (mb.meas j n hlt HWR.out)
   have hq:n - j=(n - (j+1))+1:=by omega
   have HQ:=qAA.mk hq
   have HJ:=qAA.mk (show j+1≤n by omega)
   clear hlt hq
   go_wp2
   refine qAn (n:=10) (S:=fun w'=>w'.cell? ⟨vb,4,none⟩=some (.slice A4 ks.length c4)) (ds:=[9]) #[qF,qF,qF,qF,qF,qF,qF,qF,qF,qF] (by kernel_rfl) rfl rfl ((qAB (HL.out.below (qAM (Below.refl _ _))).box 4).trans rfl) (fun hHeld => ?_)
   generalize hwd:wr.drew=wd at hHeld ⊢
   have QD:=qAA.mk (hwd▸HL.out.below (qAM (Below.refl _ _)))
   clear hwd
   refine pU 0 136 ?_
   refine pU 2 138 ?_
   refine pU 3 139 ?_
   refine tK 1 137 hHeld ?_
   refine tK 4 140 hHeld ?_
   refine one_ (i:=5) (N:=some 141) #[qT,qT,qT,qT,qT,qT,qF,qF,qF,qF] rfl rfl (by kernel_rfl) (by decide) (fun K hK => ?_)
   refine mb.goesT Try.func102 (by kernel_rfl) rfl #[.pointer (some ⟨g,0,none⟩),.slice A4 ks.length c4] (by rfl) rfl rfl (by (try simp only [List.map_toArray,List.map_cons,List.map_nil]);first | done | rfl) ?_
   refine (mb.key1 HUU.out QD.out.bel HGG.out QD.out.blk (mb.qBD HC.out HB.out QD.out.fr) HCC.out A4 c4 ks (Kd.R_reads' QD.out.keys).2.2 HP.out.2.2.2.2.2.1 HP.out.2.2.2.2.2.2 (Kd.R_reads' QD.out.keys).2.1 (by have e1:=HP.out.2.1.2;have e2:=HP.out.2.2.1;have e3:=HN2.out;omega)).mono ?_
   rintro e w7 hgot
   have hrem:=HP.out.1
   rw [HQ.out] at hrem
   unfold mb.recL at hrem
   rcases hka:mb.keyS bs u ks a' l' with ⟨kk,ak,lk⟩ | ⟨ee,pp⟩
   rotate_left
   ·rw [hka] at hgot hrem
    subst hrem
    exact Or.inr ⟨_,hgot.1,rfl,rfl,QD.out.fr.trans hgot.2.fr,hgot.2.bel⟩
   rw [hka] at hgot hrem
   obtain ⟨rfl,hnx⟩:=hgot
   refine Or.inl ⟨_,rfl, ?_⟩
   have HREM1:=qAA.mk hrem
   have HBK:=qAA.mk (mb.keyS_b HUU.out HP.out.2.2.2.2.2 hka)
   have Q7:=qAA.mk (QD.out.step hnx)
   clear hrem hka hnx
   refine hK.out _ _ ((qAB Q7.out.box 4).trans rfl) (fun hHeld => ?_)
   clear hK K
   refine qAi (a' := ?_) ?_ ?_
   rotate_left
   ·show Act.put _ (some 141) _=_
    simp only [Act.put,qs1,qs2,qs3,qAR,qAT]
    rfl
   refine one_ (i:=6) (N:=some 142) #[qT,qT,qT,qT,qT,qT,qT,qF,qF,qF] rfl rfl (by kernel_rfl) (by decide) (fun K hK => ?_)
   refine qBO (w1 := ?_) (v := ?_) (by rfl) rfl ?_ ?_
   rotate_left 2
   ·go_simp
    constructor
    ·rfl
    ·rfl
   refine hK.out _ _ ((qAB (qAK Q7.out.box _) 4).trans rfl) (fun hHeld => ?_)
   clear hK K
   refine qAi (a' := ?_) ?_ ?_
   rotate_left
   ·show Act.put _ (some 142) _=_
    simp only [Act.put,qs1,qs2,qs3,qAR,qAT]
    rfl
   refine one_ (i:=7) (N:=some 143) #[qT,qT,qT,qT,qT,qT,qT,qT,qF,qF] rfl rfl (by kernel_rfl) (by decide) (fun K hK => ?_)
   refine Kd.qAq Kd.string (w0:=w0) w0.heap.size (by rfl) (.tmp 137) (.tmp 142) 46 9 (.string ⟨#[]⟩) 16 rfl Try.underlying46 info9 rfl (by decide) (by omega) (.slice A4 ks.length c4) ks kk [.string kk] (fun k=>vb < k) (fun _=>False) rfl rfl rfl (fun _ h=>h.elim) ?aF ?aO ?aB ?aS ?aL ?_
   (case aF=>exact fun k hk=>Nat.lt_of_lt_of_le Q7.out.lt hk)
   (case aO=>exact Q7.out.keys)
   (case aB=>exact Q7.out.bel)
   (case aS=>exact Q7.out.bel.size)
   (case aL=>have e1:=HP.out.2.1;have e2:=HJ.out;have e3:=HN2.out;omega)
   intro v6 w8 ho hb hg2 hat
   obtain ⟨A6,c6,e6⟩:=Kd.qAZ ho
   subst e6
   have Q8:=qAA.mk (Q7.out.app4 ho hb hg2 hat)
   have B8_:=qAA.mk (qAg Q7.out.box hg2 (fun e=>absurd (Q7.out.keys.1 vb e.symm) (Nat.lt_irrefl _)))
   have fv8_:=qAC B8_.out 4
   clear ho hb hg2 hat Q7 QD
   refine hK.out _ _ ((qAB B8_.out 4).trans rfl) (fun hHeld => ?_)
   clear hK K
   refine qAi (a' := ?_) ?_ ?_
   rotate_left
   ·show Act.put _ (some 143) _=_
    simp only [Act.put,qs1,qs2,qs3,qAR,qAT]
    rfl
   refine pU 8 144 ?_
   refine qCD (i:=9) (N:=none) #[qT,qT,qT,qT,qT,qT,qT,qT,qT,qT] rfl rfl (by kernel_rfl) (by decide) (fun K hK => ?_)
   refine qCH (w1 := ?_) (by rfl) rfl ?_ ?_
   rotate_left
   ·go_simp
    rfl
   refine hK.out _ _ ?_
   clear hK K
   refine qA6 (by kernel_rfl) ?_
   rw [show (ks ++ [kk]).length=ks.length+1 from by simp] at Q8
   generalize hw9:w8.setCell ⟨vb,4,none⟩ (.slice A6 (ks.length+1) c6)=w9 at Q8 ⊢
   clear hw9
   go_wp2
   refine qAn (n:=10) (S:=fun w'=>w'.cell? ⟨vb,3,none⟩=some v3) (ds:=[9]) #[qF,qF,qF,qF,qF,qF,qF,qF,qF,qF] (by kernel_rfl) rfl rfl ((qAB (Q8.out.below (qAM (Below.refl _ _))).box 3).trans rfl) (fun hHeld => ?_)
   generalize hwd:w9.drew=wd at hHeld ⊢
   have QD:=qAA.mk (hwd▸Q8.out.below (qAM (Below.refl _ _)))
   clear hwd
   refine pU 0 145 ?_
   refine pU 2 147 ?_
   refine pU 3 148 ?_
   refine pU 4 149 ?_
   refine tK 1 146 hHeld ?_
   refine one_ (i:=5) (N:=some 150) #[qT,qT,qT,qT,qT,qT,qF,qF,qF,qF] rfl rfl (by kernel_rfl) (by decide) (fun K hK => ?_)
   refine mb.goesT Try.func89 (by kernel_rfl) rfl #[.pointer (some ⟨g,0,none⟩),.int .i64 (wrap64 (within+1))] (by rfl) rfl rfl (by (try simp only [List.map_toArray,List.map_cons,List.map_nil]);first | done | rfl) ?_
   refine (HIH.out _ _ _ QD.out.bel QD.out.blk (mb.qBD HC.out HB.out QD.out.fr) HBK.out.1 HBK.out.2.1 HBK.out.2.2.1 HBK.out.2.2.2).mono ?_
   rintro e w7 hgot
   have hrem:=HREM1.out
   rcases hfa:f ak lk with ⟨x,a2,l2⟩ | ⟨ee,pp⟩
   rotate_left
   ·rw [hfa] at hgot hrem
    subst hrem
    exact Or.inr ⟨_,hgot.1,rfl,rfl,QD.out.fr.trans hgot.2.fr,hgot.2.bel⟩
   rw [hfa] at hgot hrem
   obtain ⟨⟨u3,u4,rfl,hr3,hr4⟩,hnx⟩:=hgot
   refine Or.inl ⟨_,rfl, ?_⟩
   have HREM:=qAA.mk hrem
   have HFA:=qAA.mk hfa
   have Q7:=qAA.mk (QD.out.step hnx)
   have R3_:=qAA.mk hr3
   have R4_:=qAA.mk hr4
   have HSZ:=qAA.mk (show wd.heap.size≤w7.heap.size from hnx.fr.1)
   clear hrem hfa hnx hr3 hr4
   refine hK.out _ _ ((qAB Q7.out.box 3).trans rfl) (fun hHeld => ?_)
   clear hK K
   refine qAi (a' := ?_) ?_ ?_
   rotate_left
   ·show Act.put _ (some 150) _=_
    simp only [Act.put,qs1,qs2,qs3,qAR,qAT]
    rfl
   refine one_ (i:=6) (N:=some 151) #[qT,qT,qT,qT,qT,qT,qT,qF,qF,qF] rfl rfl (by kernel_rfl) (by decide) (fun K hK => ?_)
   refine qBO (w1 := ?_) (v := ?_) (by rfl) rfl ?_ ?_
   rotate_left 2
   ·go_simp
    constructor
    ·rfl
    ·rfl
   refine hK.out _ _ ((qAB (qAK Q7.out.box _) 3).trans rfl) (fun hHeld => ?_)
   clear hK K
   refine qAi (a' := ?_) ?_ ?_
   rotate_left
   ·show Act.put _ (some 151) _=_
    simp only [Act.put,qs1,qs2,qs3,qAR,qAT]
    rfl
   refine one_ (i:=7) (N:=some 152) #[qT,qT,qT,qT,qT,qT,qT,qT,qF,qF] rfl rfl (by kernel_rfl) (by decide) (fun K hK => ?_)
   refine Kd.qAq k48 (w0:=w0) w0.heap.size (by rfl) (.tmp 146) (.tmp 151) 23 48 (.agg #[(.int .i64 0),(.int .i64 0),(.string ⟨#[]⟩),(.slice none 0 0),(.slice none 0 0)]) 80 rfl Try.underlying23 info48 rfl (by decide) (by omega) v3 acc x [.int .i64 x.f0,.int .i64 x.f1,.string x.f2,u3,u4] (fun k=>vb < k∧some k ≠ (.slice A6 (ks.length+1) c6:Value).ownBlock) (fun k=>wd.heap.size≤k) rfl rfl ?aP ?aK ?aF ?aO ?aB ?aS ?aL ?_
   (case aP=>exact k48_mkM _ _ _ x R3_.out R4_.out)
   (case aK=>exact fun k hk=>⟨⟨Nat.lt_of_lt_of_le QD.out.lt hk,fun e=>absurd (Kd.R_lt QD.out.keys k e.symm) (by omega)⟩,fun e=>absurd (Kd.R_lt QD.out.row k e.symm) (by omega)⟩)
   (case aF=>exact fun k hk=>⟨Nat.lt_of_lt_of_le Q7.out.lt hk,fun e=>absurd (Kd.R_lt Q7.out.keys k e.symm) (by omega)⟩)
   (case aO=>exact Q7.out.row)
   (case aB=>exact Q7.out.bel)
   (case aS=>exact Q7.out.bel.size)
   (case aL=>have e1:=HP.out.2.1;have e2:=HJ.out;have e3:=HN2.out;omega)
   intro v5 w8_ ho hb hg2 hat
   obtain ⟨A5,c5,e5⟩:=Kd.qAZ ho
   subst e5
   have Q9:=qAA.mk (Q7.out.app3 ho hb hg2)
   have B8:=qAA.mk (qAg Q7.out.box hg2 (fun e=>absurd (Q7.out.row.1 vb e.symm).1 (Nat.lt_irrefl _)))
   have fv8:=qAC B8.out 3
   clear ho hb hg2 hat
   refine hK.out _ _ ((qAB B8.out 3).trans rfl) (fun hHeld => ?_)
   clear hK K
   refine qAi (a' := ?_) ?_ ?_
   rotate_left
   ·show Act.put _ (some 152) _=_
    simp only [Act.put,qs1,qs2,qs3,qAR,qAT]
    rfl
   refine pU 8 153 ?_
   refine qCD (i:=9) (N:=none) #[qT,qT,qT,qT,qT,qT,qT,qT,qT,qT] rfl rfl (by kernel_rfl) (by decide) (fun K hK => ?_)
   refine qCH (w1 := ?_) (by rfl) rfl ?_ ?_
   rotate_left
   ·go_simp
    rfl
   refine hK.out _ _ ?_
   clear hK K
   refine qA6 (by kernel_rfl) ?_
   go_wp2
   rw [show (acc ++ [x]).length=acc.length+1 from by simp] at Q9
   go_roundw
   case rel=>exact ⟨j+1,acc ++ [x],ks ++ [kk],_,_,a2,l2,by rw [HWR.out];rfl,⟨HREM.out,⟨by rw [List.length_append,HP.out.2.1.1];rfl,by rw [List.length_append,HP.out.2.1.2];rfl⟩,HJ.out,HFB.out _ _ _ _ _ HBK.out.1 HBK.out.2.1 HBK.out.2.2.1 HBK.out.2.2.2 HFA.out⟩,Q9⟩
   case measure=>exact HM.out
  ·have i1:decide ((j:Int) < (n:Int))=false:=decide_eq_false (by omega)
   have i2:decide (j < n)=false:=decide_eq_false hlt
   have i3:(j < n)=False:=eq_false hlt
   have hjn:n - j=0:=by omega
   have hT:=HP.out.1
   rw [hjn] at hT
   have hT2:T=.ok (ks,acc) a' l':=hT.symm
   subst hT2
   clear hT hjn hlt
   have hz0:wr.cell? ⟨vb,0,none⟩=some (.int .i64 5):=(qAB HL.out.box 0).trans rfl
   have hz1:wr.cell? ⟨vb,1,none⟩=some (.int .i64 0):=(qAB HL.out.box 1).trans rfl
   have hz2:wr.cell? ⟨vb,2,none⟩=some (.string ⟨#[]⟩):=(qAB HL.out.box 2).trans rfl
   have hz3:wr.cell? ⟨vb,3,none⟩=some v3:=(qAB HL.out.box 3).trans rfl
   have hz4:wr.cell? ⟨vb,4,none⟩=some (.slice A4 ks.length c4):=(qAB HL.out.box 4).trans rfl
   have hv1:v3.oneCell'=true:=by obtain ⟨A_,c_,e_⟩:=Kd.qAZ HL.out.row;subst e_;rfl
   go_wp2_with (first | ((with_reducible refine qAh (p:=4) rfl ?_);refine mb.qBV rfl rfl 4 _ rfl w.heap.size rfl (.int .i64 5) (.int .i64 0) (.string ⟨#[]⟩) v3 (.slice A4 ks.length c4) rfl (fun q hq=>by simp at hq;rcases hq with rfl | rfl | rfl | rfl | rfl <;> first | rfl | exact hv1) _ rfl HL.out.res ?_;intro w5 hres hgr;have HRES:=qAA.mk hres;have HGR:=qAA.mk hgr;clear hgr hres))
   go_wp2
   refine bodyPost_ret (results_cell_row rfl _ _ w.heap.size 48 _ (0,0) _ rfl HRES.out Try.underlying48 rfl (by kernel_rfl)) rfl ?_
   have e1:=HL.out.hgl;have e2:=HL.out.hvb
   exact ⟨⟨_,_,rfl,Kd.qBd (Kd.qCh HL.out.row HGR.out (fun k hk e=>by have:=Option.some.inj e;have:=hk.1;omega)) (fun k hk=>by have:=hk.1;omega),Kd.qBd (Kd.qCh HL.out.keys HGR.out (fun k hk e=>by have:=Option.some.inj e;omega)) (fun k hk=>by omega)⟩,mb.fin_nx HL.out.fr HL.out.blk (by omega) HGR.out (Nat.le_refl _) HBB.out.size HL.out.bel⟩
theorem mb.val_t5E {bs:List Int} {u i:Int→Int × Int × Int} (hU:mb.Uin bs u i) {w0 w:World} {g:Nat} {A:Option Addr} {c:Nat} {a l:Int} (hb:Below w0.heap.size w0 w) (hg:w0.heap.size≤g) (hB:mb.Blk w g A bs.length c a l) (hC:(Kd.int .u8).C w A bs.length bs) (hc:bs.length≤c) (within:Int) (hw:(within == 8)=false) (ha0:0≤a) (ha1:a < (bs.length:Int)) (hl0:1≤l) (hl1:l≤2048) (ht:rd bs a=5) (he:(u (a+1)).2.2 ≠ 0) :
  Calls Try.prog 89 #[.pointer (some ⟨g,0,none⟩),.int .i64 within] w (mb.GotV (.bad 41 (a+1)) w0 w g A bs.length c):=by
 have HB:=qAA.mk hB
 have HC:=qAA.mk hC
 have HCC:=qAA.mk hc
 have HBB:=qAA.mk hb
 have HGG:=qAA.mk hg
 have HLL:=qAA.mk hU.L
 have HUU:=qAA.mk hU
 have hgl:g < w.heap.size:=qAX hB
 have hu25:=Try.underlying48
 obtain ⟨a,rfl⟩:=Int.eq_ofNat_of_zero_le ha0
 have t0:((a:Int) == (bs.length:Int))=false:=beq_eq_false_iff_ne.2 (by omega)
 have t1:(a=bs.length)=False:=eq_false (by omega)
 have t2:decide (a=bs.length)=false:=decide_eq_false (by omega)
 have t3:(a:Int) < (bs.length:Int):=ha1
 have t4:a < bs.length:=by omega
 have t5:decide (a < bs.length)=true:=decide_eq_true t4
 have hwr:=qAA.mk (show wrap64 ((a:Int)+1)=(a:Int)+1 by have:=hU.L;unfold wrap64;omega)
 have HL0:=qAA.mk hl0
 have HL1:=qAA.mk hl1
 obtain ⟨ad,hA,hx0⟩:=Kd.qB7 hC (a:Int) (by omega) ha1
 subst hA
 rw [Int.toNat_natCast,ht] at hx0
 have HBW:=qAA.mk ((Below.refl w.heap.size w).alloc (Nat.le_refl _) (.cells #[.int .i64 0,.int .i64 0,.string ⟨#[]⟩,.slice none 0 0,.slice none 0 0] 48))
 have L1:=qAA.mk (show mb.Ly (w.alloc (.cells #[.int .i64 0,.int .i64 0,.string ⟨#[]⟩,.slice none 0 0,.slice none 0 0] 48)) g (some ad) bs.length c (a:Int) l (ad.add a) 5 w.heap.size #[.int .i64 0,.int .i64 0,.string ⟨#[]⟩,.slice none 0 0,.slice none 0 0] from ⟨HB.out.below HBW.out,(HBW.out.cell (qs4 w _ hx0)).trans hx0,by simpa using heap_alloc_new w _⟩)
 clear hx0
 have h0:=L1.out.blk.c0;have h1:=L1.out.blk.c1;have h2:=L1.out.blk.c2;have f1:=L1.out.blk.fz 1;have f2:=L1.out.blk.fz 2;have hx0:=L1.out.byt;have fr_:=qAC L1.out.res 0
 have HF4:∀ W4,W4=((w.alloc (.cells #[.int .i64 0,.int .i64 0,.string ⟨#[]⟩,.slice none 0 0,.slice none 0 0] 48)).setCell ⟨g,2,none⟩ (.int .i64 (l - 1))).setCell ⟨g,1,none⟩ (.int .i64 ((a:Int)+1))→mb.Fr g w W4∧Below w0.heap.size w0 W4:=by
  rintro _ rfl
  exact ⟨((mb.Fr.of_below HBW.out).trans (mb.Fr.set _ _ _ _)).trans (mb.Fr.set _ _ _ _),((HBB.out.alloc HBB.out.size _).setCell hg _).setCell hg _⟩
 have HF4:=qAA.mk HF4
 have hs0:wrap64 ((a:Int)+1)=(a:Int)+1:=hwr.out
 have HCN:=qAA.mk (fun (W:World) (x1:Below w0.heap.size w0 W) (x2:mb.Blk W g (some ad) bs.length c ((a:Int)+1) (l - 1)) (x3:(Kd.int .u8).C W (some ad) bs.length bs)=>mb.countE hU x1 hg x2 x3 hc (a:Int) 1 he)
 have HGL:=qAA.mk hgl
 clear hU hb hg hB hC hc ha1 hl0 hl1 ha0 hgl
 go_enter Try.func89,Try.ntmps89
 go_wp2_with (first | (go_at_call 98;refine (mb.qBr L1.out.blk 1 (a:Int) HL0.out HL1.out (by omega)).mono ?_;rintro e_ w3 ⟨rfl,hx⟩;have L3:=qAA.mk (L1.out.fr (hx▸mb.Fr.set _ _ _ _) (hx▸L1.out.blk.set2 _));have HX3:=qAA.mk hx;clear hx;clear h0 h1 h2 f1 f2 hx0 fr_;have h0:=L3.out.blk.c0;have h1:=L3.out.blk.c1;have h2:=L3.out.blk.c2;have f1:=L3.out.blk.fz 1;have f2:=L3.out.blk.fz 2;have hx0:=L3.out.byt;have fr_:=qAC L3.out.res 0) | ((with_reducible refine qAh (p:=48) rfl ?_);go_must (refine qA3 ?hg (t:=3) (p:=48) (v:=.tmp 46) (w1:=w3.setCell ⟨g,1,none⟩ (.int .i64 (wrap64 ((a:Int)+1)))) ?ho ?hN ?hr ?_);(case ho=>rfl);(case hN=>rfl);(case hg=>rfl);(case hr=>first | (go_simp;done) | (go_simp;rfl));intro w4 e4;rw [hwr.out] at e4;have L4:=qAA.mk (L3.out.fr (e4▸mb.Fr.set _ _ _ _) (e4▸L3.out.blk.set1 _));have HX4:=qAA.mk e4;clear e4;have HFW:=qAA.mk (HF4.out _ (HX4.out.trans (by rw [HX3.out])));clear h0 h1 h2 f1 f2 hx0 fr_;have h0:=L4.out.blk.c0;have h1:=L4.out.blk.c1;have h2:=L4.out.blk.c2;have f1:=L4.out.blk.fz 1;have f2:=L4.out.blk.fz 2;have hx0:=L4.out.byt;have fr_:=qAC L4.out.res 0) | ((with_reducible refine qAh (p:=10) rfl ?_);refine mb.qBV rfl rfl 10 _ rfl w4.heap.size rfl (.int .i64 4) (.int .i64 0) (.string ⟨#[]⟩) (.slice none 0 0) (.slice none 0 0) rfl (fun q hq=>by simp at hq;rcases hq with rfl | rfl | rfl | rfl | rfl <;> rfl) _ rfl (by simpa using heap_alloc_new w4 _) ?_;intro w5 hres hgr;have HB5:=qAA.mk (mb.own_res hgr);have L5:=qAA.mk (L4.out.below HB5.out);have hv:w.heap.size < w4.heap.size:=by { rw [HX4.out,HX3.out,Deep.nblk_setCell,Deep.nblk_setCell,Deep.nblk_alloc];exact Nat.lt_succ_self _ };have Q5:=qAA.mk (show mb.LQ w0 w w5 g (some ad) bs.length c w4.heap.size ((a:Int)+1) (l - 1) 4 (.slice none 0 0) (.slice none 0 0) [] [] from ⟨L5.out.blk,HFW.out.1.trans (mb.Fr.of_below HB5.out),qAU HFW.out.2 HFW.out.2.size HB5.out,hres,L5.out.res,Kd.qBx _ _ _ _ _,Kd.qBx _ _ _ _ _,hv,HGL.out,HGG.out⟩);clear hres hgr hv;clear h0 h1 h2 f1 f2 hx0 fr_;have h0:=L5.out.blk.c0;have h1:=L5.out.blk.c1;have h2:=L5.out.blk.c2;have f1:=L5.out.blk.fz 1;have f2:=L5.out.blk.fz 2;have hx0:=L5.out.byt;have fr_:=qAC L5.out.res 0) | (go_at_call 100;refine (HCN.out _ Q5.out.bel Q5.out.blk (mb.qBD HC.out HB.out Q5.out.fr)).mono ?_;rintro e_ w5 ⟨rfl,hx⟩;have HX5:=qAA.mk hx;clear hx;unfold mb.flt))
 exact ⟨rfl,rfl,Q5.out.fr.trans HX5.out.fr,HX5.out.bel⟩
theorem mb.val_t5S {bs:List Int} {u i:Int→Int × Int × Int} (hU:mb.Uin bs u i) {w0 w:World} {g:Nat} {A:Option Addr} {c:Nat} {a l:Int} (hb:Below w0.heap.size w0 w) (hg:w0.heap.size≤g) (hB:mb.Blk w g A bs.length c a l) (hC:(Kd.int .u8).C w A bs.length bs) (hc:bs.length≤c) (within:Int) (hw:(within == 8)=false) (ha0:0≤a) (ha1:a < (bs.length:Int)) (hl0:1≤l) (hl1:l≤2048) (ht:rd bs a=5) (he:(u (a+1)).2.2=0) (hn:(l - 1) / 1 < (u (a+1)).1) :
  Calls Try.prog 89 #[.pointer (some ⟨g,0,none⟩),.int .i64 within] w (mb.GotV (.bad 42 a) w0 w g A bs.length c):=by
 have HB:=qAA.mk hB
 have HC:=qAA.mk hC
 have HCC:=qAA.mk hc
 have HBB:=qAA.mk hb
 have HGG:=qAA.mk hg
 have HLL:=qAA.mk hU.L
 have HUU:=qAA.mk hU
 have hgl:g < w.heap.size:=qAX hB
 have hu25:=Try.underlying48
 obtain ⟨a,rfl⟩:=Int.eq_ofNat_of_zero_le ha0
 have t0:((a:Int) == (bs.length:Int))=false:=beq_eq_false_iff_ne.2 (by omega)
 have t1:(a=bs.length)=False:=eq_false (by omega)
 have t2:decide (a=bs.length)=false:=decide_eq_false (by omega)
 have t3:(a:Int) < (bs.length:Int):=ha1
 have t4:a < bs.length:=by omega
 have t5:decide (a < bs.length)=true:=decide_eq_true t4
 have hwr:=qAA.mk (show wrap64 ((a:Int)+1)=(a:Int)+1 by have:=hU.L;unfold wrap64;omega)
 have HL0:=qAA.mk hl0
 have HL1:=qAA.mk hl1
 obtain ⟨ad,hA,hx0⟩:=Kd.qB7 hC (a:Int) (by omega) ha1
 subst hA
 rw [Int.toNat_natCast,ht] at hx0
 have HBW:=qAA.mk ((Below.refl w.heap.size w).alloc (Nat.le_refl _) (.cells #[.int .i64 0,.int .i64 0,.string ⟨#[]⟩,.slice none 0 0,.slice none 0 0] 48))
 have L1:=qAA.mk (show mb.Ly (w.alloc (.cells #[.int .i64 0,.int .i64 0,.string ⟨#[]⟩,.slice none 0 0,.slice none 0 0] 48)) g (some ad) bs.length c (a:Int) l (ad.add a) 5 w.heap.size #[.int .i64 0,.int .i64 0,.string ⟨#[]⟩,.slice none 0 0,.slice none 0 0] from ⟨HB.out.below HBW.out,(HBW.out.cell (qs4 w _ hx0)).trans hx0,by simpa using heap_alloc_new w _⟩)
 clear hx0
 have h0:=L1.out.blk.c0;have h1:=L1.out.blk.c1;have h2:=L1.out.blk.c2;have f1:=L1.out.blk.fz 1;have f2:=L1.out.blk.fz 2;have hx0:=L1.out.byt;have fr_:=qAC L1.out.res 0
 have HF4:∀ W4,W4=((w.alloc (.cells #[.int .i64 0,.int .i64 0,.string ⟨#[]⟩,.slice none 0 0,.slice none 0 0] 48)).setCell ⟨g,2,none⟩ (.int .i64 (l - 1))).setCell ⟨g,1,none⟩ (.int .i64 ((a:Int)+1))→mb.Fr g w W4∧Below w0.heap.size w0 W4:=by
  rintro _ rfl
  exact ⟨((mb.Fr.of_below HBW.out).trans (mb.Fr.set _ _ _ _)).trans (mb.Fr.set _ _ _ _),((HBB.out.alloc HBB.out.size _).setCell hg _).setCell hg _⟩
 have HF4:=qAA.mk HF4
 have hs0:wrap64 ((a:Int)+1)=(a:Int)+1:=hwr.out
 have HCN:=qAA.mk (fun (W:World) (x1:Below w0.heap.size w0 W) (x2:mb.Blk W g (some ad) bs.length c ((a:Int)+1) (l - 1)) (x3:(Kd.int .u8).C W (some ad) bs.length bs)=>mb.countN hU x1 hg x2 x3 hc (a:Int) 1 he (by omega) (by omega) (by omega) (by omega) hn)
 have HGL:=qAA.mk hgl
 clear hU hb hg hB hC hc ha1 hl0 hl1 ha0 hgl
 go_enter Try.func89,Try.ntmps89
 go_wp2_with (first | (go_at_call 98;refine (mb.qBr L1.out.blk 1 (a:Int) HL0.out HL1.out (by omega)).mono ?_;rintro e_ w3 ⟨rfl,hx⟩;have L3:=qAA.mk (L1.out.fr (hx▸mb.Fr.set _ _ _ _) (hx▸L1.out.blk.set2 _));have HX3:=qAA.mk hx;clear hx;clear h0 h1 h2 f1 f2 hx0 fr_;have h0:=L3.out.blk.c0;have h1:=L3.out.blk.c1;have h2:=L3.out.blk.c2;have f1:=L3.out.blk.fz 1;have f2:=L3.out.blk.fz 2;have hx0:=L3.out.byt;have fr_:=qAC L3.out.res 0) | ((with_reducible refine qAh (p:=48) rfl ?_);go_must (refine qA3 ?hg (t:=3) (p:=48) (v:=.tmp 46) (w1:=w3.setCell ⟨g,1,none⟩ (.int .i64 (wrap64 ((a:Int)+1)))) ?ho ?hN ?hr ?_);(case ho=>rfl);(case hN=>rfl);(case hg=>rfl);(case hr=>first | (go_simp;done) | (go_simp;rfl));intro w4 e4;rw [hwr.out] at e4;have L4:=qAA.mk (L3.out.fr (e4▸mb.Fr.set _ _ _ _) (e4▸L3.out.blk.set1 _));have HX4:=qAA.mk e4;clear e4;have HFW:=qAA.mk (HF4.out _ (HX4.out.trans (by rw [HX3.out])));clear h0 h1 h2 f1 f2 hx0 fr_;have h0:=L4.out.blk.c0;have h1:=L4.out.blk.c1;have h2:=L4.out.blk.c2;have f1:=L4.out.blk.fz 1;have f2:=L4.out.blk.fz 2;have hx0:=L4.out.byt;have fr_:=qAC L4.out.res 0) | ((with_reducible refine qAh (p:=10) rfl ?_);refine mb.qBV rfl rfl 10 _ rfl w4.heap.size rfl (.int .i64 4) (.int .i64 0) (.string ⟨#[]⟩) (.slice none 0 0) (.slice none 0 0) rfl (fun q hq=>by simp at hq;rcases hq with rfl | rfl | rfl | rfl | rfl <;> rfl) _ rfl (by simpa using heap_alloc_new w4 _) ?_;intro w5 hres hgr;have HB5:=qAA.mk (mb.own_res hgr);have L5:=qAA.mk (L4.out.below HB5.out);have hv:w.heap.size < w4.heap.size:=by { rw [HX4.out,HX3.out,Deep.nblk_setCell,Deep.nblk_setCell,Deep.nblk_alloc];exact Nat.lt_succ_self _ };have Q5:=qAA.mk (show mb.LQ w0 w w5 g (some ad) bs.length c w4.heap.size ((a:Int)+1) (l - 1) 4 (.slice none 0 0) (.slice none 0 0) [] [] from ⟨L5.out.blk,HFW.out.1.trans (mb.Fr.of_below HB5.out),qAU HFW.out.2 HFW.out.2.size HB5.out,hres,L5.out.res,Kd.qBx _ _ _ _ _,Kd.qBx _ _ _ _ _,hv,HGL.out,HGG.out⟩);clear hres hgr hv;clear h0 h1 h2 f1 f2 hx0 fr_;have h0:=L5.out.blk.c0;have h1:=L5.out.blk.c1;have h2:=L5.out.blk.c2;have f1:=L5.out.blk.fz 1;have f2:=L5.out.blk.fz 2;have hx0:=L5.out.byt;have fr_:=qAC L5.out.res 0) | (go_at_call 100;refine (HCN.out _ Q5.out.bel Q5.out.blk (mb.qBD HC.out HB.out Q5.out.fr)).mono ?_;rintro e_ w5 ⟨rfl,hx⟩;have HX5:=qAA.mk hx;clear hx;unfold mb.flt))
 exact ⟨rfl,rfl,Q5.out.fr.trans HX5.out.fr,HX5.out.bel⟩
theorem mb.val_t6E {bs:List Int} {u i:Int→Int × Int × Int} (hU:mb.Uin bs u i) {w0 w:World} {g:Nat} {A:Option Addr} {c:Nat} {a l:Int} (hb:Below w0.heap.size w0 w) (hg:w0.heap.size≤g) (hB:mb.Blk w g A bs.length c a l) (hC:(Kd.int .u8).C w A bs.length bs) (hc:bs.length≤c) (within:Int) (hw:(within == 8)=false) (ha0:0≤a) (ha1:a < (bs.length:Int)) (hl0:1≤l) (hl1:l≤2048) (ht:rd bs a=6) (he:(u (a+1)).2.2 ≠ 0) :
  Calls Try.prog 89 #[.pointer (some ⟨g,0,none⟩),.int .i64 within] w (mb.GotV (.bad 41 (a+1)) w0 w g A bs.length c):=by
 have HB:=qAA.mk hB
 have HC:=qAA.mk hC
 have HCC:=qAA.mk hc
 have HBB:=qAA.mk hb
 have HGG:=qAA.mk hg
 have HLL:=qAA.mk hU.L
 have HUU:=qAA.mk hU
 have hgl:g < w.heap.size:=qAX hB
 have hu25:=Try.underlying48
 obtain ⟨a,rfl⟩:=Int.eq_ofNat_of_zero_le ha0
 have t0:((a:Int) == (bs.length:Int))=false:=beq_eq_false_iff_ne.2 (by omega)
 have t1:(a=bs.length)=False:=eq_false (by omega)
 have t2:decide (a=bs.length)=false:=decide_eq_false (by omega)
 have t3:(a:Int) < (bs.length:Int):=ha1
 have t4:a < bs.length:=by omega
 have t5:decide (a < bs.length)=true:=decide_eq_true t4
 have hwr:=qAA.mk (show wrap64 ((a:Int)+1)=(a:Int)+1 by have:=hU.L;unfold wrap64;omega)
 have HL0:=qAA.mk hl0
 have HL1:=qAA.mk hl1
 obtain ⟨ad,hA,hx0⟩:=Kd.qB7 hC (a:Int) (by omega) ha1
 subst hA
 rw [Int.toNat_natCast,ht] at hx0
 have HBW:=qAA.mk ((Below.refl w.heap.size w).alloc (Nat.le_refl _) (.cells #[.int .i64 0,.int .i64 0,.string ⟨#[]⟩,.slice none 0 0,.slice none 0 0] 48))
 have L1:=qAA.mk (show mb.Ly (w.alloc (.cells #[.int .i64 0,.int .i64 0,.string ⟨#[]⟩,.slice none 0 0,.slice none 0 0] 48)) g (some ad) bs.length c (a:Int) l (ad.add a) 6 w.heap.size #[.int .i64 0,.int .i64 0,.string ⟨#[]⟩,.slice none 0 0,.slice none 0 0] from ⟨HB.out.below HBW.out,(HBW.out.cell (qs4 w _ hx0)).trans hx0,by simpa using heap_alloc_new w _⟩)
 clear hx0
 have h0:=L1.out.blk.c0;have h1:=L1.out.blk.c1;have h2:=L1.out.blk.c2;have f1:=L1.out.blk.fz 1;have f2:=L1.out.blk.fz 2;have hx0:=L1.out.byt;have fr_:=qAC L1.out.res 0
 have HF4:∀ W4,W4=((w.alloc (.cells #[.int .i64 0,.int .i64 0,.string ⟨#[]⟩,.slice none 0 0,.slice none 0 0] 48)).setCell ⟨g,2,none⟩ (.int .i64 (l - 1))).setCell ⟨g,1,none⟩ (.int .i64 ((a:Int)+1))→mb.Fr g w W4∧Below w0.heap.size w0 W4:=by
  rintro _ rfl
  exact ⟨((mb.Fr.of_below HBW.out).trans (mb.Fr.set _ _ _ _)).trans (mb.Fr.set _ _ _ _),((HBB.out.alloc HBB.out.size _).setCell hg _).setCell hg _⟩
 have HF4:=qAA.mk HF4
 have hs0:wrap64 ((a:Int)+1)=(a:Int)+1:=hwr.out
 have HCN:=qAA.mk (fun (W:World) (x1:Below w0.heap.size w0 W) (x2:mb.Blk W g (some ad) bs.length c ((a:Int)+1) (l - 1)) (x3:(Kd.int .u8).C W (some ad) bs.length bs)=>mb.countE hU x1 hg x2 x3 hc (a:Int) 2 he)
 have HGL:=qAA.mk hgl
 clear hU hb hg hB hC hc ha1 hl0 hl1 ha0 hgl
 go_enter Try.func89,Try.ntmps89
 go_wp2_with (first | (go_at_call 98;refine (mb.qBr L1.out.blk 1 (a:Int) HL0.out HL1.out (by omega)).mono ?_;rintro e_ w3 ⟨rfl,hx⟩;have L3:=qAA.mk (L1.out.fr (hx▸mb.Fr.set _ _ _ _) (hx▸L1.out.blk.set2 _));have HX3:=qAA.mk hx;clear hx;clear h0 h1 h2 f1 f2 hx0 fr_;have h0:=L3.out.blk.c0;have h1:=L3.out.blk.c1;have h2:=L3.out.blk.c2;have f1:=L3.out.blk.fz 1;have f2:=L3.out.blk.fz 2;have hx0:=L3.out.byt;have fr_:=qAC L3.out.res 0) | ((with_reducible refine qAh (p:=48) rfl ?_);go_must (refine qA3 ?hg (t:=3) (p:=48) (v:=.tmp 46) (w1:=w3.setCell ⟨g,1,none⟩ (.int .i64 (wrap64 ((a:Int)+1)))) ?ho ?hN ?hr ?_);(case ho=>rfl);(case hN=>rfl);(case hg=>rfl);(case hr=>first | (go_simp;done) | (go_simp;rfl));intro w4 e4;rw [hwr.out] at e4;have L4:=qAA.mk (L3.out.fr (e4▸mb.Fr.set _ _ _ _) (e4▸L3.out.blk.set1 _));have HX4:=qAA.mk e4;clear e4;have HFW:=qAA.mk (HF4.out _ (HX4.out.trans (by rw [HX3.out])));clear h0 h1 h2 f1 f2 hx0 fr_;have h0:=L4.out.blk.c0;have h1:=L4.out.blk.c1;have h2:=L4.out.blk.c2;have f1:=L4.out.blk.fz 1;have f2:=L4.out.blk.fz 2;have hx0:=L4.out.byt;have fr_:=qAC L4.out.res 0) | ((with_reducible refine qAh (p:=11) rfl ?_);refine mb.qBV rfl rfl 11 _ rfl w4.heap.size rfl (.int .i64 5) (.int .i64 0) (.string ⟨#[]⟩) (.slice none 0 0) (.slice none 0 0) rfl (fun q hq=>by simp at hq;rcases hq with rfl | rfl | rfl | rfl | rfl <;> rfl) _ rfl (by simpa using heap_alloc_new w4 _) ?_;intro w5 hres hgr;have HB5:=qAA.mk (mb.own_res hgr);have L5:=qAA.mk (L4.out.below HB5.out);have hv:w.heap.size < w4.heap.size:=by { rw [HX4.out,HX3.out,Deep.nblk_setCell,Deep.nblk_setCell,Deep.nblk_alloc];exact Nat.lt_succ_self _ };have Q5:=qAA.mk (show mb.LQ w0 w w5 g (some ad) bs.length c w4.heap.size ((a:Int)+1) (l - 1) 5 (.slice none 0 0) (.slice none 0 0) [] [] from ⟨L5.out.blk,HFW.out.1.trans (mb.Fr.of_below HB5.out),qAU HFW.out.2 HFW.out.2.size HB5.out,hres,L5.out.res,Kd.qBx _ _ _ _ _,Kd.qBx _ _ _ _ _,hv,HGL.out,HGG.out⟩);clear hres hgr hv;clear h0 h1 h2 f1 f2 hx0 fr_;have h0:=L5.out.blk.c0;have h1:=L5.out.blk.c1;have h2:=L5.out.blk.c2;have f1:=L5.out.blk.fz 1;have f2:=L5.out.blk.fz 2;have hx0:=L5.out.byt;have fr_:=qAC L5.out.res 0) | (go_at_call 100;refine (HCN.out _ Q5.out.bel Q5.out.blk (mb.qBD HC.out HB.out Q5.out.fr)).mono ?_;rintro e_ w5 ⟨rfl,hx⟩;have HX5:=qAA.mk hx;clear hx;unfold mb.flt))
 exact ⟨rfl,rfl,Q5.out.fr.trans HX5.out.fr,HX5.out.bel⟩
theorem mb.val_t6S {bs:List Int} {u i:Int→Int × Int × Int} (hU:mb.Uin bs u i) {w0 w:World} {g:Nat} {A:Option Addr} {c:Nat} {a l:Int} (hb:Below w0.heap.size w0 w) (hg:w0.heap.size≤g) (hB:mb.Blk w g A bs.length c a l) (hC:(Kd.int .u8).C w A bs.length bs) (hc:bs.length≤c) (within:Int) (hw:(within == 8)=false) (ha0:0≤a) (ha1:a < (bs.length:Int)) (hl0:1≤l) (hl1:l≤2048) (ht:rd bs a=6) (he:(u (a+1)).2.2=0) (hn:(l - 1) / 2 < (u (a+1)).1) :
  Calls Try.prog 89 #[.pointer (some ⟨g,0,none⟩),.int .i64 within] w (mb.GotV (.bad 42 a) w0 w g A bs.length c):=by
 have HB:=qAA.mk hB
 have HC:=qAA.mk hC
 have HCC:=qAA.mk hc
 have HBB:=qAA.mk hb
 have HGG:=qAA.mk hg
 have HLL:=qAA.mk hU.L
 have HUU:=qAA.mk hU
 have hgl:g < w.heap.size:=qAX hB
 have hu25:=Try.underlying48
 obtain ⟨a,rfl⟩:=Int.eq_ofNat_of_zero_le ha0
 have t0:((a:Int) == (bs.length:Int))=false:=beq_eq_false_iff_ne.2 (by omega)
 have t1:(a=bs.length)=False:=eq_false (by omega)
 have t2:decide (a=bs.length)=false:=decide_eq_false (by omega)
 have t3:(a:Int) < (bs.length:Int):=ha1
 have t4:a < bs.length:=by omega
 have t5:decide (a < bs.length)=true:=decide_eq_true t4
 have hwr:=qAA.mk (show wrap64 ((a:Int)+1)=(a:Int)+1 by have:=hU.L;unfold wrap64;omega)
 have HL0:=qAA.mk hl0
 have HL1:=qAA.mk hl1
 obtain ⟨ad,hA,hx0⟩:=Kd.qB7 hC (a:Int) (by omega) ha1
 subst hA
 rw [Int.toNat_natCast,ht] at hx0
 have HBW:=qAA.mk ((Below.refl w.heap.size w).alloc (Nat.le_refl _) (.cells #[.int .i64 0,.int .i64 0,.string ⟨#[]⟩,.slice none 0 0,.slice none 0 0] 48))
 have L1:=qAA.mk (show mb.Ly (w.alloc (.cells #[.int .i64 0,.int .i64 0,.string ⟨#[]⟩,.slice none 0 0,.slice none 0 0] 48)) g (some ad) bs.length c (a:Int) l (ad.add a) 6 w.heap.size #[.int .i64 0,.int .i64 0,.string ⟨#[]⟩,.slice none 0 0,.slice none 0 0] from ⟨HB.out.below HBW.out,(HBW.out.cell (qs4 w _ hx0)).trans hx0,by simpa using heap_alloc_new w _⟩)
 clear hx0
 have h0:=L1.out.blk.c0;have h1:=L1.out.blk.c1;have h2:=L1.out.blk.c2;have f1:=L1.out.blk.fz 1;have f2:=L1.out.blk.fz 2;have hx0:=L1.out.byt;have fr_:=qAC L1.out.res 0
 have HF4:∀ W4,W4=((w.alloc (.cells #[.int .i64 0,.int .i64 0,.string ⟨#[]⟩,.slice none 0 0,.slice none 0 0] 48)).setCell ⟨g,2,none⟩ (.int .i64 (l - 1))).setCell ⟨g,1,none⟩ (.int .i64 ((a:Int)+1))→mb.Fr g w W4∧Below w0.heap.size w0 W4:=by
  rintro _ rfl
  exact ⟨((mb.Fr.of_below HBW.out).trans (mb.Fr.set _ _ _ _)).trans (mb.Fr.set _ _ _ _),((HBB.out.alloc HBB.out.size _).setCell hg _).setCell hg _⟩
 have HF4:=qAA.mk HF4
 have hs0:wrap64 ((a:Int)+1)=(a:Int)+1:=hwr.out
 have HCN:=qAA.mk (fun (W:World) (x1:Below w0.heap.size w0 W) (x2:mb.Blk W g (some ad) bs.length c ((a:Int)+1) (l - 1)) (x3:(Kd.int .u8).C W (some ad) bs.length bs)=>mb.countN hU x1 hg x2 x3 hc (a:Int) 2 he (by omega) (by omega) (by omega) (by omega) hn)
 have HGL:=qAA.mk hgl
 clear hU hb hg hB hC hc ha1 hl0 hl1 ha0 hgl
 go_enter Try.func89,Try.ntmps89
 go_wp2_with (first | (go_at_call 98;refine (mb.qBr L1.out.blk 1 (a:Int) HL0.out HL1.out (by omega)).mono ?_;rintro e_ w3 ⟨rfl,hx⟩;have L3:=qAA.mk (L1.out.fr (hx▸mb.Fr.set _ _ _ _) (hx▸L1.out.blk.set2 _));have HX3:=qAA.mk hx;clear hx;clear h0 h1 h2 f1 f2 hx0 fr_;have h0:=L3.out.blk.c0;have h1:=L3.out.blk.c1;have h2:=L3.out.blk.c2;have f1:=L3.out.blk.fz 1;have f2:=L3.out.blk.fz 2;have hx0:=L3.out.byt;have fr_:=qAC L3.out.res 0) | ((with_reducible refine qAh (p:=48) rfl ?_);go_must (refine qA3 ?hg (t:=3) (p:=48) (v:=.tmp 46) (w1:=w3.setCell ⟨g,1,none⟩ (.int .i64 (wrap64 ((a:Int)+1)))) ?ho ?hN ?hr ?_);(case ho=>rfl);(case hN=>rfl);(case hg=>rfl);(case hr=>first | (go_simp;done) | (go_simp;rfl));intro w4 e4;rw [hwr.out] at e4;have L4:=qAA.mk (L3.out.fr (e4▸mb.Fr.set _ _ _ _) (e4▸L3.out.blk.set1 _));have HX4:=qAA.mk e4;clear e4;have HFW:=qAA.mk (HF4.out _ (HX4.out.trans (by rw [HX3.out])));clear h0 h1 h2 f1 f2 hx0 fr_;have h0:=L4.out.blk.c0;have h1:=L4.out.blk.c1;have h2:=L4.out.blk.c2;have f1:=L4.out.blk.fz 1;have f2:=L4.out.blk.fz 2;have hx0:=L4.out.byt;have fr_:=qAC L4.out.res 0) | ((with_reducible refine qAh (p:=11) rfl ?_);refine mb.qBV rfl rfl 11 _ rfl w4.heap.size rfl (.int .i64 5) (.int .i64 0) (.string ⟨#[]⟩) (.slice none 0 0) (.slice none 0 0) rfl (fun q hq=>by simp at hq;rcases hq with rfl | rfl | rfl | rfl | rfl <;> rfl) _ rfl (by simpa using heap_alloc_new w4 _) ?_;intro w5 hres hgr;have HB5:=qAA.mk (mb.own_res hgr);have L5:=qAA.mk (L4.out.below HB5.out);have hv:w.heap.size < w4.heap.size:=by { rw [HX4.out,HX3.out,Deep.nblk_setCell,Deep.nblk_setCell,Deep.nblk_alloc];exact Nat.lt_succ_self _ };have Q5:=qAA.mk (show mb.LQ w0 w w5 g (some ad) bs.length c w4.heap.size ((a:Int)+1) (l - 1) 5 (.slice none 0 0) (.slice none 0 0) [] [] from ⟨L5.out.blk,HFW.out.1.trans (mb.Fr.of_below HB5.out),qAU HFW.out.2 HFW.out.2.size HB5.out,hres,L5.out.res,Kd.qBx _ _ _ _ _,Kd.qBx _ _ _ _ _,hv,HGL.out,HGG.out⟩);clear hres hgr hv;clear h0 h1 h2 f1 f2 hx0 fr_;have h0:=L5.out.blk.c0;have h1:=L5.out.blk.c1;have h2:=L5.out.blk.c2;have f1:=L5.out.blk.fz 1;have f2:=L5.out.blk.fz 2;have hx0:=L5.out.byt;have fr_:=qAC L5.out.res 0) | (go_at_call 100;refine (HCN.out _ Q5.out.bel Q5.out.blk (mb.qBD HC.out HB.out Q5.out.fr)).mono ?_;rintro e_ w5 ⟨rfl,hx⟩;have HX5:=qAA.mk hx;clear hx;unfold mb.flt))
 exact ⟨rfl,rfl,Q5.out.fr.trans HX5.out.fr,HX5.out.bel⟩
end
end Go.Proofs.Ytmehfnikecmiiaa.X
namespace Go.Proofs.Ytmehfnikecmiiaa.X
open Go.RowKit Go.Proofs.YtmehfnikecmiiaaW.PrintWords Go.Proofs.YtmehfnikecmiiaaW.PrintLast Go.Proofs.YtmehfnikecmiiaaW.PrintMore Go.Proofs.YtmehfnikecmiiaaW
section
set_option maxHeartbeats 4000000
set_option maxRecDepth 100000
def mb.Bd (n:Nat) (a l:Int):Prop:=0≤a∧a≤(n:Int)∧0≤l∧l≤2048
theorem mb.arrL_b {n:Nat} {f:Int→Int→mb.R3 S48} (hf:∀ (a l:Int) (x:S48) (a2 l2:Int),mb.Bd n a l→f a l=.ok x a2 l2→mb.Bd n a2 l2):∀ (k:Nat) (acc:List S48) (a l:Int) (vs:List S48) (a2 l2:Int),mb.Bd n a l→mb.arrL f k acc a l=.ok vs a2 l2→mb.Bd n a2 l2
 | 0,acc,a,l,vs,a2,l2,hb,h=>by
  unfold mb.arrL at h
  injection h with _ e2 e3
  subst e2;subst e3;exact hb
 | k+1,acc,a,l,vs,a2,l2,hb,h=>by
  unfold mb.arrL at h
  rcases hfa:f a l with ⟨x,a1,l1⟩ | ⟨e,p⟩
  ·rw [hfa] at h
   exact mb.arrL_b hf k _ a1 l1 vs a2 l2 (hf a l x a1 l1 hb hfa) h
  ·rw [hfa] at h;cases h
theorem mb.recL_b {bs:List Int} {u i:Int→Int × Int × Int} (hU:mb.Uin bs u i) {f:Int→Int→mb.R3 S48} (hf:∀ (a l:Int) (x:S48) (a2 l2:Int),mb.Bd bs.length a l→f a l=.ok x a2 l2→mb.Bd bs.length a2 l2):∀ (k:Nat) (ks:List ByteArray) (acc:List S48) (a l:Int) (vs:List ByteArray × List S48) (a2 l2:Int),mb.Bd bs.length a l→mb.recL bs u f k ks acc a l=.ok vs a2 l2→mb.Bd bs.length a2 l2
 | 0,ks,acc,a,l,vs,a2,l2,hb,h=>by
  unfold mb.recL at h
  injection h with _ e2 e3
  subst e2;subst e3;exact hb
 | k+1,ks,acc,a,l,vs,a2,l2,hb,h=>by
  unfold mb.recL at h
  rcases hka:mb.keyS bs u ks a l with ⟨kk,a1,l1⟩ | ⟨e,p⟩
  ·rw [hka] at h
   have hb1:mb.Bd bs.length a1 l1:=mb.keyS_b hU ⟨hb.2.2.1,hb.2.2.2⟩ hka
   dsimp only at h
   rcases hfa:f a1 l1 with ⟨x,a3,l3⟩ | ⟨e,p⟩
   ·rw [hfa] at h
    exact mb.recL_b hU hf k _ _ a3 l3 vs a2 l2 (hf a1 l1 x a3 l3 hb1 hfa) h
   ·rw [hfa] at h;cases h
  ·rw [hka] at h;cases h
theorem mb.valS_s (bs:List Int) (u i:Int→Int × Int × Int) (d:Nat) (a l:Int):mb.valS bs u i (d+1) a l =
  if a=(bs.length:Int) ∨ rd bs a > 6 then .bad 41 a
  else if 1 > l then .bad 42 a
  else if rd bs a=1 then .ok ⟨1,0,⟨#[]⟩,[],[]⟩ (a+1) (l - 1)
  else if rd bs a=2 then .ok ⟨1,1,⟨#[]⟩,[],[]⟩ (a+1) (l - 1)
  else if rd bs a=3 then (if (i (a+1)).2.2 ≠ 0 then .bad 41 (a+1) else .ok ⟨2,(i (a+1)).1,⟨#[]⟩,[],[]⟩ (i (a+1)).2.1 (l - 1))
  else if rd bs a=4 then (if (u (a+1)).2.2 ≠ 0 then .bad 41 (a+1) else if (l - 1) / 1 < (u (a+1)).1 then .bad 42 a else if (bs.length:Int) - (u (a+1)).2.1 < (u (a+1)).1 then .bad 41 (a+1) else .ok ⟨3,0,strOfNums ((bs.drop (u (a+1)).2.1.toNat).take (u (a+1)).1.toNat),[],[]⟩ ((u (a+1)).2.1+(u (a+1)).1) (l - 1 - (u (a+1)).1))
  else if rd bs a=5 then (if (u (a+1)).2.2 ≠ 0 then .bad 41 (a+1) else if (l - 1) / 1 < (u (a+1)).1 then .bad 42 a else mb.arrV (mb.arrL (mb.valS bs u i d) (u (a+1)).1.toNat [] (u (a+1)).2.1 (l - 1)))
  else if rd bs a=6 then (if (u (a+1)).2.2 ≠ 0 then .bad 41 (a+1) else if (l - 1) / 2 < (u (a+1)).1 then .bad 42 a else mb.recV (mb.recL bs u (mb.valS bs u i d) (u (a+1)).1.toNat [] [] (u (a+1)).2.1 (l - 1)))
  else .ok ⟨0,0,⟨#[]⟩,[],[]⟩ (a+1) (l - 1):=by
 rw [mb.valS]
 by_cases h0:a=(bs.length:Int) ∨ rd bs a > 6
 ·rw [if_pos h0,if_pos h0]
 rw [if_neg h0,if_neg h0]
 by_cases h1:1 > l
 ·rw [if_pos h1,if_pos h1]
 rw [if_neg h1,if_neg h1]
 by_cases k1:rd bs a=1
 ·rw [if_pos k1,if_pos k1]
 rw [if_neg k1,if_neg k1]
 by_cases k2:rd bs a=2
 ·rw [if_pos k2,if_pos k2]
 rw [if_neg k2,if_neg k2]
 by_cases k3:rd bs a=3
 ·rw [if_pos k3,if_pos k3]
 rw [if_neg k3,if_neg k3]
 by_cases k4:rd bs a=4
 ·rw [if_pos k4,if_pos k4]
  unfold mb.qCY
  by_cases e1:(u (a+1)).2.2 ≠ 0
  ·rw [if_pos e1,if_pos e1]
  rw [if_neg e1,if_neg e1]
  by_cases e2:(l - 1) / 1 < (u (a+1)).1
  ·rw [if_pos e2,if_pos e2]
  rw [if_neg e2,if_neg e2]
 rw [if_neg k4,if_neg k4]
 by_cases k5:rd bs a=5
 ·rw [if_pos k5,if_pos k5]
  unfold mb.qCY
  by_cases e1:(u (a+1)).2.2 ≠ 0
  ·rw [if_pos e1,if_pos e1]
  rw [if_neg e1,if_neg e1]
  by_cases e2:(l - 1) / 1 < (u (a+1)).1
  ·rw [if_pos e2,if_pos e2]
  rw [if_neg e2,if_neg e2]
  dsimp only
  rcases mb.arrL (mb.valS bs u i d) (u (a+1)).1.toNat [] (u (a+1)).2.1 (l - 1) with ⟨x,a3,l3⟩ | ⟨e,p⟩ <;> rfl
 rw [if_neg k5,if_neg k5]
 by_cases k6:rd bs a=6
 ·rw [if_pos k6,if_pos k6]
  unfold mb.qCY
  by_cases e1:(u (a+1)).2.2 ≠ 0
  ·rw [if_pos e1,if_pos e1]
  rw [if_neg e1,if_neg e1]
  by_cases e2:(l - 1) / 2 < (u (a+1)).1
  ·rw [if_pos e2,if_pos e2]
  rw [if_neg e2,if_neg e2]
  dsimp only
  rcases mb.recL bs u (mb.valS bs u i d) (u (a+1)).1.toNat [] [] (u (a+1)).2.1 (l - 1) with ⟨⟨x,y⟩,a3,l3⟩ | ⟨e,p⟩ <;> rfl
 rw [if_neg k6,if_neg k6]
theorem mb.valS_b {bs:List Int} {u i:Int→Int × Int × Int} (hU:mb.Uin bs u i):∀ (d:Nat) (a l:Int) (x:S48) (a2 l2:Int),mb.Bd bs.length a l→mb.valS bs u i d a l=.ok x a2 l2→mb.Bd bs.length a2 l2
 | 0,a,l,x,a2,l2,hb,h=>by
  rw [mb.valS] at h
  split at h <;> cases h
 | d+1,a,l,x,a2,l2,hb,h=>by
  rw [mb.valS_s] at h
  obtain ⟨b1,b2,b3,b4⟩:=hb
  by_cases h0:a=(bs.length:Int) ∨ rd bs a > 6
  ·rw [if_pos h0] at h;cases h
  rw [if_neg h0] at h
  have h0':a ≠ (bs.length:Int):=fun e=>h0 (Or.inl e)
  by_cases h1:1 > l
  ·rw [if_pos h1] at h;cases h
  rw [if_neg h1] at h
  have hone:mb.Bd bs.length (a+1) (l - 1):=⟨by omega,by omega,by omega,by omega⟩
  by_cases k1:rd bs a=1
  ·rw [if_pos k1] at h;injection h with _ e2 e3;subst e2;subst e3;exact hone
  rw [if_neg k1] at h
  by_cases k2:rd bs a=2
  ·rw [if_pos k2] at h;injection h with _ e2 e3;subst e2;subst e3;exact hone
  rw [if_neg k2] at h
  by_cases k3:rd bs a=3
  ·rw [if_pos k3] at h
   by_cases e1:(i (a+1)).2.2 ≠ 0
   ·rw [if_pos e1] at h;cases h
   rw [if_neg e1] at h
   have hN:=hU.M (a+1) (Classical.byContradiction e1)
   injection h with _ e2 e3;subst e2;subst e3;exact ⟨by omega,by omega,by omega,by omega⟩
  rw [if_neg k3] at h
  by_cases k4:rd bs a=4
  ·rw [if_pos k4] at h
   by_cases e1:(u (a+1)).2.2 ≠ 0
   ·rw [if_pos e1] at h;cases h
   rw [if_neg e1] at h
   have hN:=hU.N (a+1) (Classical.byContradiction e1)
   have hR:=hU.R (a+1)
   by_cases e2:(l - 1) / 1 < (u (a+1)).1
   ·rw [if_pos e2] at h;cases h
   rw [if_neg e2] at h
   rw [Int.ediv_one] at e2
   by_cases e3:(bs.length:Int) - (u (a+1)).2.1 < (u (a+1)).1
   ·rw [if_pos e3] at h;cases h
   rw [if_neg e3] at h
   injection h with _ e2 e3;subst e2;subst e3;exact ⟨by omega,by omega,by omega,by omega⟩
  rw [if_neg k4] at h
  by_cases k5:rd bs a=5
  ·rw [if_pos k5] at h
   by_cases e1:(u (a+1)).2.2 ≠ 0
   ·rw [if_pos e1] at h;cases h
   rw [if_neg e1] at h
   have hN:=hU.N (a+1) (Classical.byContradiction e1)
   by_cases e2:(l - 1) / 1 < (u (a+1)).1
   ·rw [if_pos e2] at h;cases h
   rw [if_neg e2] at h
   rcases hL:mb.arrL (mb.valS bs u i d) (u (a+1)).1.toNat [] (u (a+1)).2.1 (l - 1) with ⟨x,a3,l3⟩ | ⟨e,p⟩
   ·rw [hL] at h
    have:=mb.arrL_b (mb.valS_b hU d) _ _ _ _ _ _ _ ⟨by omega,by omega,by omega,by omega⟩ hL
    injection h with _ e2 e3;subst e2;subst e3;exact this
   ·rw [hL] at h;cases h
  rw [if_neg k5] at h
  by_cases k6:rd bs a=6
  ·rw [if_pos k6] at h
   by_cases e1:(u (a+1)).2.2 ≠ 0
   ·rw [if_pos e1] at h;cases h
   rw [if_neg e1] at h
   have hN:=hU.N (a+1) (Classical.byContradiction e1)
   by_cases e2:(l - 1) / 2 < (u (a+1)).1
   ·rw [if_pos e2] at h;cases h
   rw [if_neg e2] at h
   rcases hL:mb.recL bs u (mb.valS bs u i d) (u (a+1)).1.toNat [] [] (u (a+1)).2.1 (l - 1) with ⟨⟨x,y⟩,a3,l3⟩ | ⟨e,p⟩
   ·rw [hL] at h
    have:=mb.recL_b hU (mb.valS_b hU d) _ _ _ _ _ _ _ _ ⟨by omega,by omega,by omega,by omega⟩ hL
    injection h with _ e2 e3;subst e2;subst e3;exact this
   ·rw [hL] at h;cases h
  rw [if_neg k6] at h
  injection h with _ e2 e3;subst e2;subst e3;exact hone
theorem mb.value1 {bs:List Int} {u i:Int→Int × Int × Int} (hU:mb.Uin bs u i) {w0:World} {g:Nat} {A:Option Addr} {c:Nat} (hg:w0.heap.size≤g) (hc:bs.length≤c):∀ (d:Nat),d≤8→∀ (within:Int),within=8 - (d:Int)→∀ (w:World) (a l:Int),Below w0.heap.size w0 w→mb.Blk w g A bs.length c a l→(Kd.int .u8).C w A bs.length bs→0≤a→a≤(bs.length:Int)→0≤l→l≤2048 →
  Calls Try.prog 89 #[.pointer (some ⟨g,0,none⟩),.int .i64 within] w (mb.GotV (mb.valS bs u i d a l) w0 w g A bs.length c):=by
 intro d
 induction d with
 | zero =>
  intro _ within hw w a l hb hB hC ha0 ha1 hl0 hl1
  rw [mb.valS]
  by_cases h0:a=(bs.length:Int) ∨ rd bs a > 6
  ·rw [if_pos h0]
   rcases h0 with h0 | h0
   ·exact mb.val_b1 hU hb hg hB hC hc within h0
   ·by_cases h00:a=(bs.length:Int)
    ·exact mb.val_b1 hU hb hg hB hC hc within h00
    ·exact mb.val_b2 hU hb hg hB hC hc within ha0 (by omega) h0
  rw [if_neg h0]
  exact mb.val_bd hU hb hg hB hC hc within (by subst hw;rfl) ha0 (by have:a ≠ (bs.length:Int):=fun e=>h0 (Or.inl e);omega) (by have:¬ rd bs a > 6:=fun e=>h0 (Or.inr e);omega)
 | succ d ih =>
  intro hd within hw w a l hb hB hC ha0 ha1 hl0 hl1
  rw [mb.valS_s]
  by_cases h0:a=(bs.length:Int) ∨ rd bs a > 6
  ·rw [if_pos h0]
   rcases h0 with h0 | h0
   ·exact mb.val_b1 hU hb hg hB hC hc within h0
   ·by_cases h00:a=(bs.length:Int)
    ·exact mb.val_b1 hU hb hg hB hC hc within h00
    ·exact mb.val_b2 hU hb hg hB hC hc within ha0 (by omega) h0
  rw [if_neg h0]
  have ha2:a < (bs.length:Int):=by
   have:a ≠ (bs.length:Int):=fun e=>h0 (Or.inl e)
   omega
  have hx:rd bs a≤6:=by
   have:¬ rd bs a > 6:=fun e=>h0 (Or.inr e)
   omega
  have hw8:(within == 8)=false:=beq_eq_false_iff_ne.2 (by omega)
  by_cases h1:1 > l
  ·rw [if_pos h1]
   exact mb.val_bw hU hb hg hB hC hc within hw8 ha0 ha2 hx h1
  rw [if_neg h1]
  have hl:1≤l:=by omega
  by_cases k1:rd bs a=1
  ·rw [if_pos k1];exact mb.val_t1 hU hb hg hB hC hc within hw8 ha0 ha2 hl hl1 k1
  rw [if_neg k1]
  by_cases k2:rd bs a=2
  ·rw [if_pos k2];exact mb.val_t2 hU hb hg hB hC hc within hw8 ha0 ha2 hl hl1 k2
  rw [if_neg k2]
  by_cases k3:rd bs a=3
  ·rw [if_pos k3]
   by_cases e1:(i (a+1)).2.2 ≠ 0
   ·rw [if_pos e1];exact mb.val_t3N hU hb hg hB hC hc within hw8 ha0 ha2 hl hl1 k3 e1
   ·rw [if_neg e1];exact mb.val_t3 hU hb hg hB hC hc within hw8 ha0 ha2 hl hl1 k3 (Classical.byContradiction e1)
  rw [if_neg k3]
  have hIH:∀ (W:World) (a l:Int),Below w0.heap.size w0 W→mb.Blk W g A bs.length c a l→(Kd.int .u8).C W A bs.length bs→0≤a→a≤(bs.length:Int)→0≤l→l≤2048→Calls Try.prog 89 #[.pointer (some ⟨g,0,none⟩),.int .i64 (within+1)] W (mb.GotV (mb.valS bs u i d a l) w0 W g A bs.length c):=ih (by omega) (within+1) (by omega)
  have hFB:∀ (a l:Int) (x:S48) (a2 l2:Int),0≤a→a≤(bs.length:Int)→0≤l→l≤2048→mb.valS bs u i d a l=.ok x a2 l2→0≤a2∧a2≤(bs.length:Int)∧0≤l2∧l2≤2048:=fun a l x a2 l2 q1 q2 q3 q4 q=>mb.valS_b hU d a l x a2 l2 ⟨q1,q2,q3,q4⟩ q
  have hwi:0≤within∧within≤8:=by omega
  by_cases k4:rd bs a=4
  ·rw [if_pos k4]
   by_cases e1:(u (a+1)).2.2 ≠ 0
   ·rw [if_pos e1];exact mb.val_t4E hU hb hg hB hC hc within hw8 ha0 ha2 hl hl1 k4 e1
   rw [if_neg e1]
   have e1':(u (a+1)).2.2=0:=Classical.byContradiction e1
   by_cases e2:(l - 1) / 1 < (u (a+1)).1
   ·rw [if_pos e2];exact mb.val_t4S hU hb hg hB hC hc within hw8 ha0 ha2 hl hl1 k4 e1' e2
   rw [if_neg e2]
   by_cases e3:(bs.length:Int) - (u (a+1)).2.1 < (u (a+1)).1
   ·rw [if_pos e3];exact mb.val_t4C hU hb hg hB hC hc within hw8 ha0 ha2 hl hl1 k4 e1' (Int.not_lt.1 e2) e3
   ·rw [if_neg e3];exact mb.val_t4 hU hb hg hB hC hc within hw8 ha0 ha2 hl hl1 k4 e1' (Int.not_lt.1 e2) (Int.not_lt.1 e3)
  rw [if_neg k4]
  by_cases k5:rd bs a=5
  ·rw [if_pos k5]
   by_cases e1:(u (a+1)).2.2 ≠ 0
   ·rw [if_pos e1];exact mb.val_t5E hU hb hg hB hC hc within hw8 ha0 ha2 hl hl1 k5 e1
   rw [if_neg e1]
   have e1':(u (a+1)).2.2=0:=Classical.byContradiction e1
   by_cases e2:(l - 1) / 1 < (u (a+1)).1
   ·rw [if_pos e2];exact mb.val_t5S hU hb hg hB hC hc within hw8 ha0 ha2 hl hl1 k5 e1' e2
   ·rw [if_neg e2];exact mb.val_t5 hU hb hg hB hC hc within hw8 ha0 ha2 hl hl1 k5 e1' (Int.not_lt.1 e2) hwi _ hFB hIH
  rw [if_neg k5]
  by_cases k6:rd bs a=6
  ·rw [if_pos k6]
   by_cases e1:(u (a+1)).2.2 ≠ 0
   ·rw [if_pos e1];exact mb.val_t6E hU hb hg hB hC hc within hw8 ha0 ha2 hl hl1 k6 e1
   rw [if_neg e1]
   have e1':(u (a+1)).2.2=0:=Classical.byContradiction e1
   by_cases e2:(l - 1) / 2 < (u (a+1)).1
   ·rw [if_pos e2];exact mb.val_t6S hU hb hg hB hC hc within hw8 ha0 ha2 hl hl1 k6 e1' e2
   ·rw [if_neg e2];exact mb.val_t6 hU hb hg hB hC hc within hw8 ha0 ha2 hl hl1 k6 e1' (Int.not_lt.1 e2) hwi _ hFB hIH
  rw [if_neg k6]
  have hbx:0≤rd bs a:=by
   have hlt:a.toNat < bs.length:=by omega
   have:rd bs a=bs[a.toNat]:=by unfold rd;rw [List.getD_eq_getElem?_getD,List.getElem?_eq_getElem hlt];rfl
   rw [this]
   exact (hU.B _ (List.getElem_mem hlt)).1
  exact mb.val_t0 hU hb hg hB hC hc within hw8 ha0 ha2 hl hl1 (by omega)
end
end Go.Proofs.Ytmehfnikecmiiaa.X
namespace Go.Proofs.Ytmehfnikecmiiaa.X
open Go.RowKit Go.Proofs.YtmehfnikecmiiaaW.PrintWords Go.Proofs.YtmehfnikecmiiaaW.PrintLast Go.Proofs.YtmehfnikecmiiaaW.PrintMore Go.Proofs.YtmehfnikecmiiaaW
section
set_option maxHeartbeats 4000000
set_option maxRecDepth 100000
def mb.KRow (w:World) (Y:Nat→Prop) (v:Value) (ks:List ByteArray):Prop :=
 (v=.slice none 0 0∧ks=[]) ∨ ∃ b c cs,v=.slice (some ⟨b,0,none⟩) ks.length c∧Y b∧w.heap[b]?=some (.cells cs 9 (0,0))∧ks.length≤c∧c≤cs.size∧c≤9223372036854775807∧∀ (i:Nat) k,ks[i]?=some k→cs[i]?=some (.string k)
def mb.grp (cs:Array Value) (o:Nat) (v0 v1 v2 v3 v4:Value):Prop:=cs[o]?=some v0∧cs[o+1]?=some v1∧cs[o+2]?=some v2∧cs[o+3]?=some v3∧cs[o+4]?=some v4
def mb.VRow (w:World) (Y:Nat→Prop):Nat→Value→List S48→Prop
 | 0,_,_=>False
 | d+1,v,xs=>(v=.slice none 0 0∧xs=[]) ∨ ∃ b c cs,v=.slice (some ⟨b,0,none⟩) xs.length c∧Y b∧w.heap[b]?=some (.cells cs 48 (0,0))∧xs.length≤c∧c * 5≤cs.size∧c≤9223372036854775807∧∀ (i:Nat) x,xs[i]?=some x→∃ u3 u4,mb.grp cs (i * 5) (.int .i64 x.f0) (.int .i64 x.f1) (.string x.f2) u3 u4∧mb.VRow w Y d u3 x.f3∧mb.KRow w Y u4 x.f4
def mb.deepL:Nat→List S48→Prop
 | 0,_=>False
 | d+1,xs=>∀ x ∈ xs,mb.deepL d x.f3
theorem mb.deepL_nil (d:Nat):mb.deepL (d+1) []:=fun x hx=>by cases hx
theorem mb.VRow.nil (w:World) (Y:Nat→Prop) (d:Nat):mb.VRow w Y (d+1) (.slice none 0 0) []:=Or.inl ⟨rfl,rfl⟩
theorem mb.seg_at {inner L:List Value} {o n j:Nat} {q:Value} (h:(inner.drop o).take n=L) (hq:L[j]?=some q):inner[o+j]?=some q:=by
 rw [← h,List.getElem?_take] at hq
 split at hq
 ·rwa [List.getElem?_drop] at hq
 ·cases hq
theorem mb.take_at {cur:Array Value} {m j:Nat} {q:Value} {inner:List Value} (h:cur.toList.take m=inner) (hq:inner[j]?=some q):cur[j]?=some q:=by
 rw [← h,List.getElem?_take] at hq
 split at hq
 ·rwa [Array.getElem?_toList] at hq
 ·cases hq
theorem mb.KRow.of_R {w:World} {Y ok:Nat→Prop} {base:Nat} {v:Value} {ks:List ByteArray} (h:Kd.string.R 9 w base ok v ks) (hY:∀ k,ok k→Y k):mb.KRow w Y v ks:=by
 obtain ⟨h0,inner,ho,hr⟩:=h
 rcases ho.2 with ⟨rfl,hn⟩ | ⟨g,cap,cur,rfl,hb,hh,hl,hm,hsz,hi⟩
 ·exact Or.inl ⟨rfl,List.length_eq_zero_iff.1 hn⟩
 ·refine Or.inr ⟨g,cap,cur,rfl,hY g (h0 g rfl),hh,hl, ?_,hm,fun i k hk => ?_⟩
  ·have:cur.size=cap * 1:=hsz
   omega
  ·have h1:(inner.drop (i * 1)).take 1=[.string k]:=hr.2 i k hk
   have h2:=mb.seg_at h1 (j:=0) rfl
   have h3:=mb.take_at hi h2
   rwa [Nat.mul_one,Nat.add_zero] at h3
theorem mb.VRow.of_R {w:World} {Y:Nat→Prop} {base:Nat}:∀ (d:Nat) {ok:Nat→Prop} {v:Value} {xs:List S48},k48.R 48 w base ok v xs→(∀ k,ok k→Y k)→mb.deepL d xs→mb.VRow w Y d v xs
 | 0,ok,v,xs,h,hY,hd=>hd.elim
 | d+1,ok,v,xs,h,hY,hd=>by
  obtain ⟨h0,inner,ho,hr⟩:=h
  rcases ho.2 with ⟨rfl,hn⟩ | ⟨g,cap,cur,rfl,hb,hh,hl,hm,hsz,hi⟩
  ·exact Or.inl ⟨rfl,List.length_eq_zero_iff.1 hn⟩
  ·refine Or.inr ⟨g,cap,cur,rfl,hY g (h0 g rfl),hh,hl, ?_,hm,fun i x hx => ?_⟩
   ·have:cur.size=cap * 5:=hsz
    omega
   ·have hM:=hr.2 i x hx
    obtain ⟨v3,v4,hcs,g3,g4⟩:=k48_openM hM
    have hcs':(inner.drop (i * 5)).take 5=[.int .i64 x.f0,.int .i64 x.f1,.string x.f2,v3,v4]:=hcs
    have hx2:x ∈ xs:=List.mem_of_getElem? hx
    exact ⟨v3,v4,⟨mb.take_at hi (mb.seg_at hcs' (j:=0) rfl),mb.take_at hi (mb.seg_at hcs' (j:=1) rfl),mb.take_at hi (mb.seg_at hcs' (j:=2) rfl),mb.take_at hi (mb.seg_at hcs' (j:=3) rfl),mb.take_at hi (mb.seg_at hcs' (j:=4) rfl)⟩,mb.VRow.of_R d g3 (fun k hk=>hY k hk.1) (hd x hx2),mb.KRow.of_R g4 (fun k hk=>hY k hk.1)⟩
theorem mb.cell_of {w:World} {b i t:Nat} {cs:Array Value} {q:Value} (h:w.heap[b]?=some (.cells cs t (0,0))) (hi:cs[i]?=some q):w.cell? ⟨b,i,none⟩=some q:=by
 have h2:=qAB h i
 rw [h2];exact hi
theorem mb.KRow.C {w:World} {Y:Nat→Prop} {v:Value} {ks:List ByteArray} (h:mb.KRow w Y v ks):∃ A c,v=.slice A ks.length c∧ks.length≤c∧Kd.string.C w A ks.length ks:=by
 rcases h with ⟨rfl,rfl⟩ | ⟨b,c,cs,rfl,_,hh,hl,hsz,hm,hc⟩
 ·exact ⟨none,0,rfl,Nat.le_refl _,rfl,by simp,fun hp=>absurd hp (by decide)⟩
 ·refine ⟨_,c,rfl,hl,rfl,by omega,fun hp=>⟨_,rfl,fun j p hj=>⟨[.string p],rfl,rfl,fun i u hu => ?_⟩⟩⟩
  cases i with
  | succ i=>simp at hu
  | zero =>
   have:u=.string p:=by simpa using hu.symm
   subst this
   have h1:=mb.cell_of hh (hc j p hj)
   have e:(⟨b,0,none⟩:Addr).add (j * Kd.string.sz+0)=⟨b,j,none⟩:=by
    rw [Addr.add_lit]
    show (⟨b,0+(j * 1+0),none⟩:Addr)=_
    rw [show 0+(j * 1+0)=j from by omega]
   rw [e];exact h1
theorem mb.VRow.C {w:World} {Y:Nat→Prop}:∀ (d:Nat) {v:Value} {xs:List S48},mb.VRow w Y d v xs→∃ A c,v=.slice A xs.length c∧xs.length≤c∧k48.C w A xs.length xs
 | 0,v,xs,h=>h.elim
 | d+1,v,xs,h=>by
  rcases h with ⟨rfl,rfl⟩ | ⟨b,c,cs,rfl,_,hh,hl,hsz,hm,hc⟩
  ·exact ⟨none,0,rfl,Nat.le_refl _,rfl,by simp,fun hp=>absurd hp (by decide)⟩
  ·refine ⟨_,c,rfl,hl,rfl,by omega,fun hp=>⟨_,rfl,fun j p hj => ?_⟩⟩
   obtain ⟨u3,u4,⟨q0,q1,q2,q3,q4⟩,r3,r4⟩:=hc j p hj
   obtain ⟨A3,c3,e3,l3,g3⟩:=mb.VRow.C d r3
   obtain ⟨A4,c4,e4,l4,g4⟩:=r4.C
   subst e3;subst e4
   refine ⟨[.int .i64 p.f0,.int .i64 p.f1,.string p.f2,.slice A3 p.f3.length c3,.slice A4 p.f4.length c4],rfl,k48_mk w p l3 g3 l4 g4,fun i u hu => ?_⟩
   have e:∀ i,(⟨b,0,none⟩:Addr).add (j * k48.sz+i)=⟨b,j * 5+i,none⟩:=fun i=>by
    rw [Addr.add_lit]
    show (⟨b,0+(j * 5+i),none⟩:Addr)=_
    rw [Nat.zero_add]
   rw [e]
   match i,hu with
   | 0,hu =>
     have:u=.int .i64 p.f0:=by simpa using hu.symm
     subst this;exact mb.cell_of hh q0
   | 1,hu =>
     have:u=.int .i64 p.f1:=by simpa using hu.symm
     subst this;exact mb.cell_of hh q1
   | 2,hu =>
     have:u=.string p.f2:=by simpa using hu.symm
     subst this;exact mb.cell_of hh q2
   | 3,hu =>
     have:u=.slice A3 p.f3.length c3:=by simpa using hu.symm
     subst this;exact mb.cell_of hh q3
   | 4,hu =>
     have:u=.slice A4 p.f4.length c4:=by simpa using hu.symm
     subst this;exact mb.cell_of hh q4
   | i+5,hu=>simp at hu
theorem mb.KRow.move {w w1:World} {Y Y1:Nat→Prop} {v:Value} {ks:List ByteArray} (h:mb.KRow w Y v ks) (hY:∀ k,Y k→Y1 k) (hm:∀ k,Y k→k < w.heap.size→w1.heap[k]?=w.heap[k]?):mb.KRow w1 Y1 v ks:=by
 rcases h with ⟨rfl,rfl⟩ | ⟨b,c,cs,rfl,hy,hh,hl,hsz,hmx,hc⟩
 ·exact Or.inl ⟨rfl,rfl⟩
 ·exact Or.inr ⟨b,c,cs,rfl,hY b hy,(hm b hy (qAX hh)).trans hh,hl,hsz,hmx,hc⟩
theorem mb.VRow.move {w w1:World} {Y Y1:Nat→Prop} (hY:∀ k,Y k→Y1 k) (hm:∀ k,Y k→k < w.heap.size→w1.heap[k]?=w.heap[k]?):∀ (d:Nat) {v:Value} {xs:List S48},mb.VRow w Y d v xs→mb.VRow w1 Y1 d v xs
 | 0,v,xs,h=>h.elim
 | d+1,v,xs,h=>by
  rcases h with ⟨rfl,rfl⟩ | ⟨b,c,cs,rfl,hy,hh,hl,hsz,hmx,hc⟩
  ·exact Or.inl ⟨rfl,rfl⟩
  ·refine Or.inr ⟨b,c,cs,rfl,hY b hy,(hm b hy (qAX hh)).trans hh,hl,hsz,hmx,fun j p hj => ?_⟩
   obtain ⟨u3,u4,hg,r3,r4⟩:=hc j p hj
   exact ⟨u3,u4,hg,mb.VRow.move hY hm d r3,r4.move hY hm⟩
def mb.qCO:Value→Value
 | .slice A n _=>.slice A n n
 | v=>v
theorem mb.clip2 (v:Value):mb.qCO (mb.qCO v)=mb.qCO v:=by
 cases v <;> rfl
structure mb.SimT (Y:Nat→Prop) (w w1:World):Prop where
 os:w1.os=w.os
 tape:w1.tape=w.tape
 output:w1.output=w.output
 size:w.heap.size≤w1.heap.size
 out:∀ k,k < w.heap.size→¬ Y k→w1.heap[k]?=w.heap[k]?
 ins:∀ k,Y k→k < w.heap.size→w1.heap[k]?=w.heap[k]? ∨ ∃ cs cs':Array Value,w.heap[k]?=some (.cells cs 48 (0,0))∧w1.heap[k]?=some (.cells cs' 48 (0,0))∧cs'.size=cs.size∧∀ i:Nat,cs'[i]?=cs[i]? ∨ cs'[i]?=(cs[i]?).map mb.qCO
theorem mb.SimT.of_below {Y:Nat→Prop} {w w1:World} (h:Below w.heap.size w w1):mb.SimT Y w w1:=⟨h.os,h.tape,h.output,h.size,fun k hk _=>h.block k hk,fun k _ hk=>Or.inl (h.block k hk)⟩
theorem mb.SimT.refl (Y:Nat→Prop) (w:World):mb.SimT Y w w:=mb.SimT.of_below (Below.refl _ _)
theorem mb.SimT.trans {Y:Nat→Prop} {w w1 w2:World} (h:mb.SimT Y w w1) (k:mb.SimT Y w1 w2):mb.SimT Y w w2:=by
 refine ⟨k.os.trans h.os,k.tape.trans h.tape,k.output.trans h.output,Nat.le_trans h.size k.size,fun i hi hy=>(k.out i (Nat.lt_of_lt_of_le hi h.size) hy).trans (h.out i hi hy),fun i hy hi => ?_⟩
 rcases k.ins i hy (Nat.lt_of_lt_of_le hi h.size) with e | ⟨cs1,cs2,e1,e2,e3,e4⟩
 ·rw [e];exact h.ins i hy hi
 ·rcases h.ins i hy hi with f | ⟨ds1,ds2,f1,f2,f3,f4⟩
  ·exact Or.inr ⟨cs1,cs2,f▸e1,e2,e3,e4⟩
  ·rw [f2] at e1
   injection e1 with e1
   injection e1 with e1
   subst e1
   refine Or.inr ⟨ds1,cs2,f1,e2,e3.trans f3,fun j => ?_⟩
   rcases e4 j with q | q <;> rcases f4 j with r | r
   ·exact Or.inl (q.trans r)
   ·exact Or.inr (q.trans r)
   ·exact Or.inr (by rw [q,r])
   ·refine Or.inr ?_
    rw [q,r]
    cases ds1[j]? with
    | none=>rfl
    | some x=>simp [mb.clip2]
theorem mb.SimT.far {Y:Nat→Prop} {w w1 w2:World} (h:mb.SimT Y w w1) {g:Nat} (hgr:w1.grownBy w2 (some g)) (hg:w.heap.size≤g):mb.SimT Y w w2:=by
 have hb:∀ i,i < w.heap.size→w2.heap[i]?=w1.heap[i]?:=fun i hi=>hgr.block i (Nat.lt_of_lt_of_le hi h.size) (fun e=>absurd (Option.some.inj e) (by omega))
 refine ⟨hgr.os.trans h.os,hgr.tape.trans h.tape,hgr.output.trans h.output,Nat.le_trans h.size hgr.size,fun i hi hy=>(hb i hi).trans (h.out i hi hy),fun i hy hi => ?_⟩
 rw [hb i hi]
 exact h.ins i hy hi
theorem mb.SimT.set {Y:Nat→Prop} {w w1:World} (h:mb.SimT Y w w1) {a:Addr} (hg:w.heap.size≤a.block) (v:Value):mb.SimT Y w (w1.setCell a v):=by
 have hb:∀ i,i < w.heap.size→(w1.setCell a v).heap[i]?=w1.heap[i]?:=fun i hi=>Below.heap_setCell w1 a v i (by omega)
 refine ⟨h.os,h.tape,h.output,by rw [Deep.nblk_setCell];exact h.size,fun i hi hy=>(hb i hi).trans (h.out i hi hy),fun i hy hi => ?_⟩
 rw [hb i hi]
 exact h.ins i hy hi
theorem mb.SimT.below {Y:Nat→Prop} {w w1:World} (h:mb.SimT Y w w1) {n:Nat} (hY:∀ k,Y k→n≤k) (hn:n≤w.heap.size):Below n w w1 :=
 ⟨h.os,h.tape,h.output,h.size,fun k hk=>h.out k (by omega) (fun y=>by have:=hY k y;omega)⟩
theorem mb.KRow.simT {Y:Nat→Prop} {w w1:World} (hS:mb.SimT Y w w1) {v:Value} {ks:List ByteArray} (h:mb.KRow w Y v ks):mb.KRow w1 Y v ks∧mb.KRow w1 Y (mb.qCO v) ks:=by
 rcases h with ⟨rfl,rfl⟩ | ⟨b,c,cs,rfl,hy,hh,hl,hsz,hmx,hc⟩
 ·exact ⟨Or.inl ⟨rfl,rfl⟩,Or.inl ⟨rfl,rfl⟩⟩
 ·have h1:w1.heap[b]?=some (.cells cs 9 (0,0)):=by
   rcases hS.ins b hy (qAX hh) with e | ⟨cs1,cs2,e1,_⟩
   ·exact e.trans hh
   ·rw [hh] at e1
    injection e1 with e1
    injection e1 with _ e1
    exact absurd e1 (by decide)
  exact ⟨Or.inr ⟨b,c,cs,rfl,hy,h1,hl,hsz,hmx,hc⟩,Or.inr ⟨b,_,cs,rfl,hy,h1,Nat.le_refl _,by omega,by omega,hc⟩⟩
theorem mb.VRow.simT {Y:Nat→Prop} {w w1:World} (hS:mb.SimT Y w w1):∀ (d:Nat) {v:Value} {xs:List S48},mb.VRow w Y d v xs→mb.VRow w1 Y d v xs∧mb.VRow w1 Y d (mb.qCO v) xs
 | 0,v,xs,h=>h.elim
 | d+1,v,xs,h=>by
  rcases h with ⟨rfl,rfl⟩ | ⟨b,c,cs,rfl,hy,hh,hl,hsz,hmx,hc⟩
  ·exact ⟨Or.inl ⟨rfl,rfl⟩,Or.inl ⟨rfl,rfl⟩⟩
  ·have h1:∃ cs',w1.heap[b]?=some (.cells cs' 48 (0,0))∧cs'.size=cs.size∧∀ i:Nat,cs'[i]?=cs[i]? ∨ cs'[i]?=(cs[i]?).map mb.qCO:=by
    rcases hS.ins b hy (qAX hh) with e | ⟨cs1,cs2,e1,e2,e3,e4⟩
    ·exact ⟨cs,e.trans hh,rfl,fun i=>Or.inl rfl⟩
    ·rw [hh] at e1
     injection e1 with e1
     injection e1 with e1
     subst e1
     exact ⟨cs2,e2,e3,e4⟩
   obtain ⟨cs',h1,h2,h3⟩:=h1
   have hgr:∀ (i:Nat) x,xs[i]?=some x→∃ u3 u4,mb.grp cs' (i * 5) (.int .i64 x.f0) (.int .i64 x.f1) (.string x.f2) u3 u4∧mb.VRow w1 Y d u3 x.f3∧mb.KRow w1 Y u4 x.f4:=fun i x hx=>by
    obtain ⟨u3,u4,⟨q0,q1,q2,q3,q4⟩,r3,r4⟩:=hc i x hx
    have s3:=mb.VRow.simT hS d r3
    have s4:=mb.KRow.simT hS r4
    have keep:∀ j q,cs[j]?=some q→mb.qCO q=q→cs'[j]?=some q:=fun j q e1 e2=>by
     rcases h3 j with e | e
     ·rw [e,e1]
     ·rw [e,e1];simp [e2]
    have t0:=keep _ _ q0 rfl
    have t1:=keep _ _ q1 rfl
    have t2:=keep _ _ q2 rfl
    have t3:cs'[i * 5+3]?=some u3 ∨ cs'[i * 5+3]?=some (mb.qCO u3):=by
     rcases h3 (i * 5+3) with e | e
     ·exact Or.inl (by rw [e,q3])
     ·exact Or.inr (by rw [e,q3];rfl)
    have t4:cs'[i * 5+4]?=some u4 ∨ cs'[i * 5+4]?=some (mb.qCO u4):=by
     rcases h3 (i * 5+4) with e | e
     ·exact Or.inl (by rw [e,q4])
     ·exact Or.inr (by rw [e,q4];rfl)
    rcases t3 with t3 | t3 <;> rcases t4 with t4 | t4
    ·exact ⟨_,_,⟨t0,t1,t2,t3,t4⟩,s3.1,s4.1⟩
    ·exact ⟨_,_,⟨t0,t1,t2,t3,t4⟩,s3.1,s4.2⟩
    ·exact ⟨_,_,⟨t0,t1,t2,t3,t4⟩,s3.2,s4.1⟩
    ·exact ⟨_,_,⟨t0,t1,t2,t3,t4⟩,s3.2,s4.2⟩
   exact ⟨Or.inr ⟨b,c,cs',rfl,hy,h1,hl,by omega,hmx,hgr⟩,Or.inr ⟨b,_,cs',rfl,hy,h1,Nat.le_refl _,by omega,by omega,hgr⟩⟩
theorem mb.SimT.store {Y:Nat→Prop} {w w7 W1:World} (h:mb.SimT Y w w7) {b o:Nat} {cs cs':Array Value} (hy:Y b) (hb:w.heap[b]?=some (.cells cs 48 (0,0))) {v0 v1 v2 v3 v4:Value} (hg:mb.grp cs o v0 v1 v2 v3 v4) (hgr:w7.grownBy W1 (some b))
  (h1:W1.heap[b]?=some (.cells cs' 48 (0,0))) (hsz:cs'.size=cs.size) (hn:mb.grp cs' o (mb.qCO v0) (mb.qCO v1) (mb.qCO v2) (mb.qCO v3) (mb.qCO v4)) (hrest:∀ cs7,w7.heap[b]?=some (.cells cs7 48 (0,0))→∀ j,j < o ∨ o+5≤j→cs'[j]?=cs7[j]?):mb.SimT Y w W1:=by
 have hne:∀ i,i < w.heap.size→i ≠ b→W1.heap[i]?=w7.heap[i]?:=fun i hi hib=>hgr.block i (Nat.lt_of_lt_of_le hi h.size) (fun e=>hib (Option.some.inj e))
 refine ⟨hgr.os.trans h.os,hgr.tape.trans h.tape,hgr.output.trans h.output,Nat.le_trans h.size hgr.size,fun i hi hi2=>(hne i hi (fun e=>hi2 (e▸hy))).trans (h.out i hi hi2),fun i hi hlt => ?_⟩
 by_cases hib:i=b
 ·subst hib
  obtain ⟨cs7,k1,k2⟩:∃ cs7,w7.heap[i]?=some (.cells cs7 48 (0,0))∧∀ j,cs7[j]?=cs[j]? ∨ cs7[j]?=(cs[j]?).map mb.qCO:=by
   rcases h.ins i hy hlt with e | ⟨cs1,cs2,e1,e2,e3,e4⟩
   ·exact ⟨cs,e.trans hb,fun j=>Or.inl rfl⟩
   ·rw [hb] at e1
    injection e1 with e1
    injection e1 with e1
    subst e1
    exact ⟨cs2,e2,e4⟩
  refine Or.inr ⟨cs,cs',hb,h1,hsz,fun j => ?_⟩
  by_cases hj:j < o ∨ o+5≤j
  ·rw [hrest cs7 k1 j hj]
   exact k2 j
  ·obtain ⟨m,rfl,hm⟩:∃ m,j=o+m∧m < 5:=⟨j - o,by omega,by omega⟩
   obtain ⟨q0,q1,q2,q3,q4⟩:=hg
   obtain ⟨p0,p1,p2,p3,p4⟩:=hn
   match m,hm with
   | 0,_=>exact Or.inr (by rw [show o+0=o from rfl,p0,q0];rfl)
   | 1,_=>exact Or.inr (by rw [p1,q1];rfl)
   | 2,_=>exact Or.inr (by rw [p2,q2];rfl)
   | 3,_=>exact Or.inr (by rw [p3,q3];rfl)
   | 4,_=>exact Or.inr (by rw [p4,q4];rfl)
 ·rw [hne i hlt hib]
  exact h.ins i hi hlt
section
variable {P:Program} {ops:Array Oper} {Q:Exit→Act→World→Prop}
theorem mb.st25 {oi:Oper} {a:Act} {W:World} {K:Act→World→Prop} (t:TypeId) (hw:Region.wanted oi (yielded ops a.tmps)=true) (hN:oi.dst=none) (p:Tmp) (x:Operand) (ho:oi.op=.store t (.tmp p) x) (hinf:(P.info? t).map (·.size)=some 5) (b o:Nat) (haddr:a.eval (.tmp p)=.pointer (some ⟨b,o,none⟩)) (v0 v1 v2 v3 v4:Value) (hx:a.eval x=.agg #[v0,v1,v2,v3,v4]) (h1:∀ q ∈ [v0,v1,v2,v3,v4],q.oneCell'=true) (cur:Array Value) (e:TypeId) (hsz:o+5≤cur.size) (hh:W.heap[b]?=some (.cells cur e (0,0)))
  (h:∀ W1 cur',W1.heap[b]?=some (.cells cur' e (0,0))→cur'.size=cur.size→mb.grp cur' o v0 v1 v2 v3 v4→(∀ j,j < o ∨ o+5≤j→cur'[j]?=cur[j]?)→W.grownBy W1 (some b)→K a W1):if Region.wanted oi (yielded ops a.tmps)=true then Oper.wp P oi a W K Q else K (a.put none undef) W:=by
 have hu:(Value.agg #[v0,v1,v2,v3,v4]).cells.toList=[v0,v1,v2,v3,v4]:=by simp [Value.cells]
 have hrun:(Instr.storeAt t (.pointer (some ⟨b,o,none⟩)) (.agg #[v0,v1,v2,v3,v4])).run P W=.ok () (W.setCells b o [v0,v1,v2,v3,v4]) :=
  qB4 t _ [v0,v1,v2,v3,v4] hh hu hinf hsz h1
 obtain ⟨cur',c1,c2,c3⟩:=qBs [v0,v1,v2,v3,v4] o W cur hh hsz
 obtain ⟨s1,s2,s3,s4⟩:=qBj b [v0,v1,v2,v3,v4] o W
 have hlen:(cur.toList.take o).length=o:=by rw [List.length_take,Array.length_toList];omega
 have hat:∀ j,cur'[j]?=(cur.toList.take o ++ [v0,v1,v2,v3,v4] ++ cur.toList.drop (o+5))[j]?:=fun j=>by rw [← Array.getElem?_toList,c3];rfl
 have hin:∀ m,m < 5→cur'[o+m]?=[v0,v1,v2,v3,v4][m]?:=fun m hm=>by
  rw [hat,List.append_assoc,List.getElem?_append_right (by omega),hlen,Nat.add_sub_cancel_left,List.getElem?_append_left (by simpa using hm)]
 refine qCH hw hN (w1:=W.setCells b o [v0,v1,v2,v3,v4]) ?_ (h _ cur' c1 c2 ⟨hin 0 (by omega),hin 1 (by omega),hin 2 (by omega),hin 3 (by omega),hin 4 (by omega)⟩ (fun j hj => ?_) ⟨s1,s2,s3,by omega,fun k hk hne=>qBi _ _ k (fun e=>hne (by rw [e]))⟩)
 ·unfold execOp
  simp only [ho,haddr,hx,Sem.run_bind,Sem.run_pure,Result.andThen_ok,hrun]
 ·rw [hat]
  rcases hj with hj | hj
  ·rw [List.append_assoc,List.getElem?_append_left (by omega),List.getElem?_take,if_pos hj,Array.getElem?_toList]
  ·rw [List.append_assoc,List.getElem?_append_right (by omega),hlen,List.getElem?_append_right (by simp;omega),List.getElem?_drop]
   have e:o+5+(j - o - [v0,v1,v2,v3,v4].length)=j:=by simp;omega
   rw [e,Array.getElem?_toList]
end
end
end Go.Proofs.Ytmehfnikecmiiaa.X
namespace Go.Proofs.Ytmehfnikecmiiaa.X
open Go.RowKit Go.Proofs.YtmehfnikecmiiaaW.PrintWords Go.Proofs.YtmehfnikecmiiaaW.PrintLast Go.Proofs.YtmehfnikecmiiaaW.PrintMore Go.Proofs.YtmehfnikecmiiaaW
section
set_option maxHeartbeats 4000000
set_option maxRecDepth 100000
open Go.Proofs.Ytmehfnikecmiiaa
def mb.MT (w:World) (Y:Nat→Prop) (x:S48) (cs:List Value):Prop:=∃ d v3 v4,cs=[.int .i64 x.f0,.int .i64 x.f1,.string x.f2,v3,v4]∧mb.VRow w Y d v3 x.f3∧mb.KRow w Y v4 x.f4
theorem mb.MT.move {w w1:World} {Y Y1:Nat→Prop} {x:S48} {cs:List Value} (h:mb.MT w Y x cs) (hY:∀ k,Y k→Y1 k) (hm:∀ k,Y k→k < w.heap.size→w1.heap[k]?=w.heap[k]?):mb.MT w1 Y1 x cs:=by
 obtain ⟨d,v3,v4,e,h3,h4⟩:=h
 exact ⟨d,v3,v4,e,mb.VRow.move hY hm d h3,h4.move hY hm⟩
theorem mb.KRow.typed {w:World} {Y:Nat→Prop} {v:Value} {ks:List ByteArray} (h:mb.KRow w Y v ks):mb.KRow w (fun k=>Y k∧k < w.heap.size∧∃ q,q ∈ [48,9]∧∃ cells,w.heap[k]?=some (.cells cells q (0,0))) v ks:=by
 rcases h with h | ⟨b,c,cs,e,hy,hh,r⟩
 ·exact Or.inl h
 ·exact Or.inr ⟨b,c,cs,e,⟨hy,qAX hh,9,by simp,cs,hh⟩,hh,r⟩
theorem mb.VRow.typed {w:World} {Y:Nat→Prop}:∀ (d:Nat) {v:Value} {xs:List S48},mb.VRow w Y d v xs→mb.VRow w (fun k=>Y k∧k < w.heap.size∧∃ q,q ∈ [48,9]∧∃ cells,w.heap[k]?=some (.cells cells q (0,0))) d v xs
 | 0,v,xs,h=>h.elim
 | d+1,v,xs,h=>by
  rcases h with h | ⟨b,c,cs,e,hy,hh,h1,h2,h3,hx⟩
  ·exact Or.inl h
  ·refine Or.inr ⟨b,c,cs,e,⟨hy,qAX hh,48,by simp,cs,hh⟩,hh,h1,h2,h3,fun i x hi => ?_⟩
   obtain ⟨u3,u4,g,g3,g4⟩:=hx i x hi
   exact ⟨u3,u4,g,mb.VRow.typed d g3,g4.typed⟩
theorem mb.MT.K {w:World} {Y:Nat→Prop} {x:S48} {cs:List Value} (h:mb.MT w Y x cs):k48.K w x cs:=by
 obtain ⟨d,v3,v4,e,h3,h4⟩:=h
 obtain ⟨A3,c3,e3,l3,C3⟩:=h3.C d
 obtain ⟨A4,c4,e4,l4,C4⟩:=h4.C
 subst e3;subst e4;subst e
 exact k48_mk w x l3 C3 l4 C4
def mb.kt:Kd S48 where
 sz:=5
 E:=[48,9]
 K:=fun w x cs=>k48.K w x cs
 M:=fun w base ok x cs=>mb.MT w (fun k=>ok k∧base≤k∧k < w.heap.size) x cs
 K_len:=fun h=>k48.K_len h
 K_one:=fun h=>k48.K_one h
 K_below:=fun hb h=>k48.K_below hb h
 K_of_M:=fun h=>h.K
 M_mono:=fun hok h=>h.move (fun k hk=>⟨hok k hk.1,hk.2⟩) (fun k _ _=>rfl)
 M_bound:=fun h=>by
  obtain ⟨d,v3,v4,e,h3,h4⟩:=h
  refine ⟨d,v3,v4,e,mb.VRow.move (fun k hk => ?_) (fun k _ _=>rfl) d (h3.typed d),h4.typed.move (fun k hk => ?_) (fun k _ _=>rfl)⟩
  all_goals exact ⟨⟨hk.1.1,hk.1.2.1,hk.2.1,hk.2.2⟩,hk.1.2.1,hk.2.1⟩
 M_move:=fun {w w1} {base ok x cs} hm h=>h.move (fun k hk=>⟨hk.1,hk.2.1,by
  have e:=hm k hk.1
  rw [Array.getElem?_eq_getElem hk.2.2] at e
  exact (Array.getElem?_eq_some_iff.1 e).1⟩) (fun k hk _=>hm k hk.1)
 M_lower:=fun hb h=>h.move (fun k hk=>⟨hk.1,Nat.le_trans hb hk.2.1,hk.2.2⟩) (fun k _ _=>rfl)
theorem mb.kt_C {w:World} {A:Option Addr} {n:Nat} {xs:List S48} (h:mb.kt.C w A n xs):k48.C w A n xs:=by
 have e:k48.sz=5:=rfl
 unfold Kd.C at h ⊢
 rw [e]
 exact h
end
end Go.Proofs.Ytmehfnikecmiiaa.X
namespace Go.Proofs.Ytmehfnikecmiiaa.X
open Go.RowKit Go.Proofs.YtmehfnikecmiiaaW.PrintWords Go.Proofs.YtmehfnikecmiiaaW.PrintLast Go.Proofs.YtmehfnikecmiiaaW.PrintMore Go.Proofs.YtmehfnikecmiiaaW
section
set_option maxHeartbeats 1000000
set_option maxRecDepth 100000
open Go.Proofs.Ytmehfnikecmiiaa Go.Proofs.Ytmehfnikecmiiaa.Pl
structure mb.RM (w0 W:World) (g:Nat) (ok:Nat→Prop) (B:Option Addr) (n cb:Nat) (a c d:Int) (v0 v1 v2:Value) (m0:List S48) (m1:List S52) (m2:List S56):Prop where
 blk:W.heap[g]?=some (.cells #[.slice B n cb,.int .i64 a,.int .i64 c,.int .i64 d,v0,v1,v2] 69 (0,0))
 r0:mb.kt.R 48 W w0.heap.size ok v0 m0
 r1:k52.R 52 W w0.heap.size ok v1 m1
 r2:k56.R 56 W w0.heap.size ok v2 m2
 bel:Below w0.heap.size w0 W
 ge:w0.heap.size≤g
 hk:∀ k,ok k→k ≠ g
section
variable {w0 W W1:World} {g:Nat} {ok:Nat→Prop} {B:Option Addr} {n cb:Nat} {a c d:Int} {v0 v1 v2:Value} {m0:List S48} {m1:List S52} {m2:List S56}
theorem mb.RM.below (h:mb.RM w0 W g ok B n cb a c d v0 v1 v2 m0 m1 m2) (hb:Below W.heap.size W W1):mb.RM w0 W1 g ok B n cb a c d v0 v1 v2 m0 m1 m2 :=
 ⟨qAL h.blk hb,Kd.qBZ h.r0 hb,Kd.qBZ h.r1 hb,Kd.qBZ h.r2 hb,qAU h.bel h.bel.size hb,h.ge,h.hk⟩
theorem mb.RM.seta (h:mb.RM w0 W g ok B n cb a c d v0 v1 v2 m0 m1 m2) (x:Int):mb.RM w0 (W.setCell ⟨g,1,none⟩ (.int .i64 x)) g ok B n cb x c d v0 v1 v2 m0 m1 m2 :=
 ⟨qAx h.blk 1 _ rfl,Kd.qBL h.r0 (fun k hk=>h.hk k hk) _,Kd.qBL h.r1 (fun k hk=>h.hk k hk) _,Kd.qBL h.r2 (fun k hk=>h.hk k hk) _,qAQ h.bel h.ge,h.ge,h.hk⟩
theorem mb.RM.setc (h:mb.RM w0 W g ok B n cb a c d v0 v1 v2 m0 m1 m2) (x:Int):mb.RM w0 (W.setCell ⟨g,2,none⟩ (.int .i64 x)) g ok B n cb a x d v0 v1 v2 m0 m1 m2 :=
 ⟨qAx h.blk 2 _ rfl,Kd.qBL h.r0 (fun k hk=>h.hk k hk) _,Kd.qBL h.r1 (fun k hk=>h.hk k hk) _,Kd.qBL h.r2 (fun k hk=>h.hk k hk) _,qAQ h.bel h.ge,h.ge,h.hk⟩
theorem mb.RM.setd (h:mb.RM w0 W g ok B n cb a c d v0 v1 v2 m0 m1 m2) (x:Int):mb.RM w0 (W.setCell ⟨g,3,none⟩ (.int .i64 x)) g ok B n cb a c x v0 v1 v2 m0 m1 m2 :=
 ⟨qAx h.blk 3 _ rfl,Kd.qBL h.r0 (fun k hk=>h.hk k hk) _,Kd.qBL h.r1 (fun k hk=>h.hk k hk) _,Kd.qBL h.r2 (fun k hk=>h.hk k hk) _,qAQ h.bel h.ge,h.ge,h.hk⟩
theorem mb.RM.setb (h:mb.RM w0 W g ok B n cb a c d v0 v1 v2 m0 m1 m2) (B2:Option Addr) (n2 c2:Nat):mb.RM w0 (W.setCell ⟨g,0,none⟩ (.slice B2 n2 c2)) g ok B2 n2 c2 a c d v0 v1 v2 m0 m1 m2 :=
 ⟨qAx h.blk 0 _ rfl,Kd.qBL h.r0 (fun k hk=>h.hk k hk) _,Kd.qBL h.r1 (fun k hk=>h.hk k hk) _,Kd.qBL h.r2 (fun k hk=>h.hk k hk) _,qAQ h.bel h.ge,h.ge,h.hk⟩
theorem mb.RM.sharp (h:mb.RM w0 W g ok B n cb a c d v0 v1 v2 m0 m1 m2):mb.RM w0 W g (fun k=>ok k∧k < W.heap.size) B n cb a c d v0 v1 v2 m0 m1 m2 :=
 ⟨h.blk,Kd.qBd (Kd.qBv h.r0) (fun k hk=>⟨hk.1,hk.2.2.1⟩),Kd.qBd (Kd.qBv h.r1) (fun k hk=>⟨hk.1,hk.2.2.1⟩),Kd.qBd (Kd.qBv h.r2) (fun k hk=>⟨hk.1,hk.2.2.1⟩),h.bel,h.ge,fun k hk=>h.hk k hk.1⟩
theorem mb.RM.weak (h:mb.RM w0 W g ok B n cb a c d v0 v1 v2 m0 m1 m2):mb.RM w0 W g (fun k=>k ≠ g) B n cb a c d v0 v1 v2 m0 m1 m2 :=
 ⟨h.blk,Kd.qBd h.r0 h.hk,Kd.qBd h.r1 h.hk,Kd.qBd h.r2 h.hk,h.bel,h.ge,fun k hk=>hk⟩
theorem mb.RM.far (h:mb.RM w0 W g ok B n cb a c d v0 v1 v2 m0 m1 m2) (x o:Nat) (hp:∀ k,ok k→k ≠ x) (hg:g ≠ x) (hge:w0.heap.size≤x) (u:Value):mb.RM w0 (W.setCell ⟨x,o,none⟩ u) g ok B n cb a c d v0 v1 v2 m0 m1 m2 :=
 ⟨(Below.heap_setCell W ⟨x,o,none⟩ u g hg).trans h.blk,Kd.qBL h.r0 (p:=⟨x,o,none⟩) hp u,Kd.qBL h.r1 (p:=⟨x,o,none⟩) hp u,Kd.qBL h.r2 (p:=⟨x,o,none⟩) hp u,qAQ h.bel hge,h.ge,h.hk⟩
def mb.flC (c e:Int):Int:=if c=0 then e else c
def mb.flD (c d p:Int):Int:=if c=0 then p else d
theorem mb.qB2 (h:mb.RM w0 W g ok B n cb a c d v0 v1 v2 m0 m1 m2) (e p:Int) :
  Calls Try.prog 61 #[.pointer (some ⟨g,0,none⟩),.int .i64 e,.int .i64 p] W fun en W'=>en=.returned (.tuple #[])∧mb.RM w0 W' g ok B n cb a (mb.flC c e) (mb.flD c d p) v0 v1 v2 m0 m1 m2∧mb.Fr g W W':=by
 have hu69:=Try.underlying69
 have H:=qAA.mk h
 have z2:W.cell? ⟨g,2,none⟩=some (.int .i64 c):=(qAB h.blk 2).trans rfl
 have z3:W.cell? ⟨g,3,none⟩=some (.int .i64 d):=(qAB h.blk 3).trans rfl
 have f2:=qAC h.blk 2
 have f3:=qAC h.blk 3
 unfold mb.flC mb.flD
 by_cases hc:c=0
 ·subst hc
  rw [if_pos rfl,if_pos rfl]
  clear h
  go_enter Try.func61,Try.ntmps61
  go_wp2
  first | go_end0 | ((try simp only [Exit.inBlock,Exit.then]);refine bodyPost_ret (results_none rfl _ _ _) rfl ?_)
  exact ⟨rfl,(H.out.setc e).setd p,(mb.Fr.set _ _ _ _).trans (mb.Fr.set _ _ _ _)⟩
 ·rw [if_neg hc,if_neg hc]
  have d1:(c == 0)=false:=beq_eq_false_iff_ne.2 hc
  have d2:(c != 0)=true:=bne_iff_ne.2 hc
  have d3:decide (c=0)=false:=decide_eq_false hc
  clear h hc
  go_enter Try.func61,Try.ntmps61
  go_wp2
  first | go_end0 | ((try simp only [Exit.inBlock,Exit.then]);refine bodyPost_ret (results_none rfl _ _ _) rfl ?_)
  exact ⟨rfl,H.out,mb.Fr.refl _ _⟩
def mb.numF (bs:List Int) (most above a c d:Int):Int × Int × Int × Int :=
 if (qAW bs a).2.2 ≠ 0 then (0,a,mb.flC c 91,mb.flD c d a)
 else if (qAW bs a).1 > most then (0,a,mb.flC c above,mb.flD c d a)
 else ((qAW bs a).1,(qAW bs a).2.1,c,d)
end
theorem mb.number60 {bs:List Int} (hb:Bytes bs) (hl:bs.length≤140737488351232) {w0 W:World} {g:Nat} {ok:Nat→Prop} {B:Option Addr} {cb:Nat} {a c d:Int} {v0 v1 v2:Value} {m0:List S48} {m1:List S52} {m2:List S56} (h:mb.RM w0 W g ok B bs.length cb a c d v0 v1 v2 m0 m1 m2) (hC:(Kd.int .u8).C w0 B bs.length bs) (hcb:bs.length≤cb) (most above:Int) (hm:0≤most∧most≤1000000) :
  Calls Try.prog 60 #[.pointer (some ⟨g,0,none⟩),.int .u64 most,.int .i64 above] W fun en W'=>en=.returned (.int .i64 (mb.numF bs most above a c d).1)∧mb.RM w0 W' g ok B bs.length cb (mb.numF bs most above a c d).2.1 (mb.numF bs most above a c d).2.2.1 (mb.numF bs most above a c d).2.2.2 v0 v1 v2 m0 m1 m2∧mb.Fr g W W':=by
 have hu69:=Try.underlying69
 have UI:=qAA.mk (fun (W1:World) (hb1:Below w0.heap.size w0 W1)=>qAe.calls 24 B cb bs a (qAW bs a).1 (qAW bs a).2.1 (qAW bs a).2.2 W1 (Kd.qAS hC hb1) hcb (by rw [Uint_eq 24 (Nat.le_refl _) bs hb (by omega) a]))
 have UR:=qA2 bs hb a
 have H:=qAA.mk h
 unfold mb.numF
 generalize qAW bs a=u at *
 obtain ⟨x,nx,e1⟩:=u
 dsimp only at UI UR ⊢
 clear hb hl h hC hcb
 by_cases h1:e1 ≠ 0
 ·rw [if_pos h1]
  have d1:(e1 != 0)=true:=bne_iff_ne.2 h1
  have d2:(e1 == 0)=false:=beq_eq_false_iff_ne.2 h1
  have d3:decide (e1=0)=false:=decide_eq_false h1
  dsimp only
  clear h1
  go_enter Try.func60,Try.ntmps60
  go_wp2
  refine qAn (n:=16) (S:=fun w'=>w'.cell? ⟨g,0,none⟩=some (.slice B bs.length cb)∧w'.cell? ⟨g,1,none⟩=some (.int .i64 a)) (ds:=[]) #[qF,qF,qF,qF,qF,qF,qF,qF,qF,qF,qF,qF,qF,qF,qF,qF] (by kernel_rfl) rfl rfl ⟨(qAB (show W.drew.heap[g]?=_ from H.out.blk) 0).trans rfl,(qAB (show W.drew.heap[g]?=_ from H.out.blk) 1).trans rfl⟩ (fun hHeld => ?_)
  generalize hwd:W.drew=wd at hHeld ⊢
  have Hd:=qAA.mk (hwd▸H.out.below (qAM (Below.refl _ _)))
  have Fd:=qAA.mk (show mb.Fr g W wd from hwd▸mb.Fr.of_below (qAM (Below.refl _ _)))
  clear hwd
  refine pU 0 11 ?_
  refine pU 1 12 ?_
  refine pU 2 13 ?_
  refine pU 4 15 ?_
  refine pU 5 16 ?_
  refine pU 6 17 ?_
  refine tK 3 14 hHeld ?_
  refine tK 7 18 hHeld ?_
  refine one_ (i:=8) (N:=some 19) #[qT,qT,qT,qT,qT,qT,qT,qT,qT,qF,qF,qF,qF,qF,qF,qF] rfl rfl (by kernel_rfl) (by decide) (fun K hK => ?_)
  refine qBJ Try.func77 (by kernel_rfl) rfl #[.slice B bs.length cb,.int .i64 a] (by rfl) rfl rfl (by (try simp only [List.map_toArray,List.map_cons,List.map_nil]);first | done | rfl) ?_
  refine (UI.out wd Hd.out.bel).mono ?_
  rintro e w2 ⟨rfl,hb⟩
  refine ⟨_,rfl, ?_⟩
  have H2:=qAA.mk (Hd.out.below hb.below)
  have F2:=qAA.mk (Fd.out.trans (mb.Fr.of_below hb.below))
  clear hb
  refine hK.out _ _ ⟨(qAB H2.out.blk 0).trans rfl,(qAB H2.out.blk 1).trans rfl⟩ (fun hHeld => ?_)
  clear hK K
  refine qAi (a' := ?_) ?_ ?_
  rotate_left
  ·show Act.put _ (some 19) _=_
   simp only [Act.put,qs1,qs2,qs3,qAR,qAT]
   rfl
  refine pU 9 10 ?_
  refine pU 10 20 ?_
  refine pU 11 21 ?_
  refine pU 12 22 ?_
  refine pU 13 7 ?_
  refine pU 14 8 ?_
  refine pU 15 9 ?_
  refine qA6 (by kernel_rfl) ?_
  have z1:w2.cell? ⟨g,1,none⟩=some (.int .i64 a):=(qAB H2.out.blk 1).trans rfl
  go_wp2_with (first | (go_at_call 61;refine (mb.qB2 H2.out 91 a).mono ?_;rintro e_ w3 ⟨rfl,hr,hf⟩;have H3:=qAA.mk hr;have F3:=qAA.mk hf;clear hr hf z1))
  go_ret
  exact ⟨rfl,H3.out,F2.out.trans F3.out⟩
 rw [if_neg h1]
 have he:e1=0:=Classical.byContradiction h1
 subst he
 clear h1
 by_cases h2:x > most
 ·rw [if_pos h2]
  have d1:decide (x > most)=true:=decide_eq_true h2
  have d2:decide (most < x)=true:=decide_eq_true h2
  dsimp only
  clear h2
  go_enter Try.func60,Try.ntmps60
  go_wp2
  refine qAn (n:=16) (S:=fun w'=>w'.cell? ⟨g,0,none⟩=some (.slice B bs.length cb)∧w'.cell? ⟨g,1,none⟩=some (.int .i64 a)) (ds:=[]) #[qF,qF,qF,qF,qF,qF,qF,qF,qF,qF,qF,qF,qF,qF,qF,qF] (by kernel_rfl) rfl rfl ⟨(qAB (show W.drew.heap[g]?=_ from H.out.blk) 0).trans rfl,(qAB (show W.drew.heap[g]?=_ from H.out.blk) 1).trans rfl⟩ (fun hHeld => ?_)
  generalize hwd:W.drew=wd at hHeld ⊢
  have Hd:=qAA.mk (hwd▸H.out.below (qAM (Below.refl _ _)))
  have Fd:=qAA.mk (show mb.Fr g W wd from hwd▸mb.Fr.of_below (qAM (Below.refl _ _)))
  clear hwd
  refine pU 0 11 ?_
  refine pU 1 12 ?_
  refine pU 2 13 ?_
  refine pU 4 15 ?_
  refine pU 5 16 ?_
  refine pU 6 17 ?_
  refine tK 3 14 hHeld ?_
  refine tK 7 18 hHeld ?_
  refine one_ (i:=8) (N:=some 19) #[qT,qT,qT,qT,qT,qT,qT,qT,qT,qF,qF,qF,qF,qF,qF,qF] rfl rfl (by kernel_rfl) (by decide) (fun K hK => ?_)
  refine qBJ Try.func77 (by kernel_rfl) rfl #[.slice B bs.length cb,.int .i64 a] (by rfl) rfl rfl (by (try simp only [List.map_toArray,List.map_cons,List.map_nil]);first | done | rfl) ?_
  refine (UI.out wd Hd.out.bel).mono ?_
  rintro e w2 ⟨rfl,hb⟩
  refine ⟨_,rfl, ?_⟩
  have H2:=qAA.mk (Hd.out.below hb.below)
  have F2:=qAA.mk (Fd.out.trans (mb.Fr.of_below hb.below))
  clear hb
  refine hK.out _ _ ⟨(qAB H2.out.blk 0).trans rfl,(qAB H2.out.blk 1).trans rfl⟩ (fun hHeld => ?_)
  clear hK K
  refine qAi (a' := ?_) ?_ ?_
  rotate_left
  ·show Act.put _ (some 19) _=_
   simp only [Act.put,qs1,qs2,qs3,qAR,qAT]
   rfl
  refine pU 9 10 ?_
  refine pU 10 20 ?_
  refine pU 11 21 ?_
  refine pU 12 22 ?_
  refine pU 13 7 ?_
  refine pU 14 8 ?_
  refine pU 15 9 ?_
  refine qA6 (by kernel_rfl) ?_
  have z1:w2.cell? ⟨g,1,none⟩=some (.int .i64 a):=(qAB H2.out.blk 1).trans rfl
  go_wp2_with (first | (go_at_call 61;refine (mb.qB2 H2.out above a).mono ?_;rintro e_ w3 ⟨rfl,hr,hf⟩;have H3:=qAA.mk hr;have F3:=qAA.mk hf;clear hr hf z1))
  go_ret
  exact ⟨rfl,H3.out,F2.out.trans F3.out⟩
 rw [if_neg h2]
 have d1:decide (x > most)=false:=decide_eq_false h2
 have d2:decide (most < x)=false:=decide_eq_false h2
 have hw:wrap64 x=x:=by unfold wrap64;omega
 have hw2:IntKind.i64.wrap x=x:=(qAR _).trans hw
 dsimp only
 clear h2
 go_enter Try.func60,Try.ntmps60
 go_wp2
 refine qAn (n:=16) (S:=fun w'=>w'.cell? ⟨g,0,none⟩=some (.slice B bs.length cb)∧w'.cell? ⟨g,1,none⟩=some (.int .i64 a)) (ds:=[]) #[qF,qF,qF,qF,qF,qF,qF,qF,qF,qF,qF,qF,qF,qF,qF,qF] (by kernel_rfl) rfl rfl ⟨(qAB (show W.drew.heap[g]?=_ from H.out.blk) 0).trans rfl,(qAB (show W.drew.heap[g]?=_ from H.out.blk) 1).trans rfl⟩ (fun hHeld => ?_)
 generalize hwd:W.drew=wd at hHeld ⊢
 have Hd:=qAA.mk (hwd▸H.out.below (qAM (Below.refl _ _)))
 have Fd:=qAA.mk (show mb.Fr g W wd from hwd▸mb.Fr.of_below (qAM (Below.refl _ _)))
 clear hwd
 refine pU 0 11 ?_
 refine pU 1 12 ?_
 refine pU 2 13 ?_
 refine pU 4 15 ?_
 refine pU 5 16 ?_
 refine pU 6 17 ?_
 refine tK 3 14 hHeld ?_
 refine tK 7 18 hHeld ?_
 refine one_ (i:=8) (N:=some 19) #[qT,qT,qT,qT,qT,qT,qT,qT,qT,qF,qF,qF,qF,qF,qF,qF] rfl rfl (by kernel_rfl) (by decide) (fun K hK => ?_)
 refine qBJ Try.func77 (by kernel_rfl) rfl #[.slice B bs.length cb,.int .i64 a] (by rfl) rfl rfl (by (try simp only [List.map_toArray,List.map_cons,List.map_nil]);first | done | rfl) ?_
 refine (UI.out wd Hd.out.bel).mono ?_
 rintro e w2 ⟨rfl,hb⟩
 refine ⟨_,rfl, ?_⟩
 have H2:=qAA.mk (Hd.out.below hb.below)
 have F2:=qAA.mk (Fd.out.trans (mb.Fr.of_below hb.below))
 clear hb
 refine hK.out _ _ ⟨(qAB H2.out.blk 0).trans rfl,(qAB H2.out.blk 1).trans rfl⟩ (fun hHeld => ?_)
 clear hK K
 refine qAi (a' := ?_) ?_ ?_
 rotate_left
 ·show Act.put _ (some 19) _=_
  simp only [Act.put,qs1,qs2,qs3,qAR,qAT]
  rfl
 refine pU 9 10 ?_
 refine pU 10 20 ?_
 refine pU 11 21 ?_
 refine pU 12 22 ?_
 refine pU 13 7 ?_
 refine pU 14 8 ?_
 refine pU 15 9 ?_
 refine qA6 (by kernel_rfl) ?_
 have z1:w2.cell? ⟨g,1,none⟩=some (.int .i64 a):=(qAB H2.out.blk 1).trans rfl
 have f1:=qAC H2.out.blk 1
 go_wp2
 go_ret
 exact ⟨rfl,H2.out.seta nx,F2.out.trans (mb.Fr.set _ _ _ _)⟩
def mb.txtF (bs:List Int) (most a c d:Int):ByteArray × Int × Int × Int :=
 if (qBP bs a most).2.2=0 then ((qBP bs a most).1,(qBP bs a most).2.1,c,d)
 else if (qBP bs a most).2.2=13 then ((qBP bs a most).1,a,mb.flC c 92,mb.flD c d a)
 else ((qBP bs a most).1,a,mb.flC c 91,mb.flD c d a)
theorem mb.text76 {bs:List Int} (hb:Bytes bs) (hl:bs.length≤140737488351232) {w0 W:World} {g:Nat} {ok:Nat→Prop} {B:Option Addr} {cb:Nat} {a c d:Int} {v0 v1 v2:Value} {m0:List S48} {m1:List S52} {m2:List S56} (h:mb.RM w0 W g ok B bs.length cb a c d v0 v1 v2 m0 m1 m2) (hC:(Kd.int .u8).C w0 B bs.length bs) (hcb:bs.length≤cb) (most:Int) (hm:0≤most∧most≤1000000) :
  Calls Try.prog 76 #[.pointer (some ⟨g,0,none⟩),.int .i64 most] W fun en W'=>en=.returned (.string (mb.txtF bs most a c d).1)∧mb.RM w0 W' g ok B bs.length cb (mb.txtF bs most a c d).2.1 (mb.txtF bs most a c d).2.2.1 (mb.txtF bs most a c d).2.2.2 v0 v1 v2 m0 m1 m2∧mb.Fr g W W':=by
 have hu69:=Try.underlying69
 have TI:=qAA.mk (fun (W1:World) (hb1:Below w0.heap.size w0 W1)=>qBa.calls 24 B cb bs a most (qBP bs a most).1 (qBP bs a most).2.1 (qBP bs a most).2.2 W1 (Kd.qAS hC hb1) hcb (by rw [Text_eq 24 (Nat.le_refl _) bs hb (by omega) a most (by omega) (by omega)]))
 have H:=qAA.mk h
 unfold mb.txtF
 generalize qBP bs a most=u at *
 obtain ⟨s,nx,e1⟩:=u
 dsimp only at TI ⊢
 clear hb hl h hC hcb
 by_cases h1:e1=0
 ·subst h1
  rw [if_pos rfl]
  dsimp only
  go_enter Try.func76,Try.ntmps76
  go_wp2
  refine qAn (n:=17) (S:=fun w'=>w'.cell? ⟨g,0,none⟩=some (.slice B bs.length cb)∧w'.cell? ⟨g,1,none⟩=some (.int .i64 a)) (ds:=[]) #[qF,qF,qF,qF,qF,qF,qF,qF,qF,qF,qF,qF,qF,qF,qF,qF,qF] (by kernel_rfl) rfl rfl ⟨(qAB (show W.drew.heap[g]?=_ from H.out.blk) 0).trans rfl,(qAB (show W.drew.heap[g]?=_ from H.out.blk) 1).trans rfl⟩ (fun hHeld => ?_)
  generalize hwd:W.drew=wd at hHeld ⊢
  have Hd:=qAA.mk (hwd▸H.out.below (qAM (Below.refl _ _)))
  have Fd:=qAA.mk (show mb.Fr g W wd from hwd▸mb.Fr.of_below (qAM (Below.refl _ _)))
  clear hwd
  refine pU 0 9 ?_
  refine pU 1 10 ?_
  refine pU 2 11 ?_
  refine pU 4 13 ?_
  refine pU 5 14 ?_
  refine pU 6 15 ?_
  refine pU 8 17 ?_
  refine tK 3 12 hHeld ?_
  refine tK 7 16 hHeld ?_
  refine one_ (i:=9) (N:=some 18) #[qT,qT,qT,qT,qT,qT,qT,qT,qT,qT,qF,qF,qF,qF,qF,qF,qF] rfl rfl (by kernel_rfl) (by decide) (fun K hK => ?_)
  refine qBJ Try.func91 (by kernel_rfl) rfl #[.slice B bs.length cb,.int .i64 a,.int .i64 most] (by rfl) rfl rfl (by (try simp only [List.map_toArray,List.map_cons,List.map_nil]);first | done | rfl) ?_
  refine (TI.out wd Hd.out.bel).mono ?_
  rintro e w2 ⟨rfl,hb⟩
  refine ⟨_,rfl, ?_⟩
  have H2:=qAA.mk (Hd.out.below hb.below)
  have F2:=qAA.mk (Fd.out.trans (mb.Fr.of_below hb.below))
  clear hb
  refine hK.out _ _ ⟨(qAB H2.out.blk 0).trans rfl,(qAB H2.out.blk 1).trans rfl⟩ (fun hHeld => ?_)
  clear hK K
  refine qAi (a' := ?_) ?_ ?_
  rotate_left
  ·show Act.put _ (some 18) _=_
   simp only [Act.put,qs1,qs2,qs3,qAR,qAT]
   rfl
  refine pU 10 8 ?_
  refine pU 11 19 ?_
  refine pU 12 20 ?_
  refine pU 13 21 ?_
  refine pU 14 5 ?_
  refine pU 15 6 ?_
  refine pU 16 7 ?_
  refine qA6 (by kernel_rfl) ?_
  have z1:w2.cell? ⟨g,1,none⟩=some (.int .i64 a):=(qAB H2.out.blk 1).trans rfl
  have f1:=qAC H2.out.blk 1
  go_wp2
  go_ret
  exact ⟨rfl,H2.out.seta nx,F2.out.trans (mb.Fr.set _ _ _ _)⟩
 rw [if_neg h1]
 have d2:(e1 == 0)=false:=beq_eq_false_iff_ne.2 h1
 have d3:decide (e1=0)=false:=decide_eq_false h1
 clear h1
 by_cases h2:e1=13
 ·subst h2
  rw [if_pos rfl]
  dsimp only
  go_enter Try.func76,Try.ntmps76
  go_wp2
  refine qAn (n:=17) (S:=fun w'=>w'.cell? ⟨g,0,none⟩=some (.slice B bs.length cb)∧w'.cell? ⟨g,1,none⟩=some (.int .i64 a)) (ds:=[]) #[qF,qF,qF,qF,qF,qF,qF,qF,qF,qF,qF,qF,qF,qF,qF,qF,qF] (by kernel_rfl) rfl rfl ⟨(qAB (show W.drew.heap[g]?=_ from H.out.blk) 0).trans rfl,(qAB (show W.drew.heap[g]?=_ from H.out.blk) 1).trans rfl⟩ (fun hHeld => ?_)
  generalize hwd:W.drew=wd at hHeld ⊢
  have Hd:=qAA.mk (hwd▸H.out.below (qAM (Below.refl _ _)))
  have Fd:=qAA.mk (show mb.Fr g W wd from hwd▸mb.Fr.of_below (qAM (Below.refl _ _)))
  clear hwd
  refine pU 0 9 ?_
  refine pU 1 10 ?_
  refine pU 2 11 ?_
  refine pU 4 13 ?_
  refine pU 5 14 ?_
  refine pU 6 15 ?_
  refine pU 8 17 ?_
  refine tK 3 12 hHeld ?_
  refine tK 7 16 hHeld ?_
  refine one_ (i:=9) (N:=some 18) #[qT,qT,qT,qT,qT,qT,qT,qT,qT,qT,qF,qF,qF,qF,qF,qF,qF] rfl rfl (by kernel_rfl) (by decide) (fun K hK => ?_)
  refine qBJ Try.func91 (by kernel_rfl) rfl #[.slice B bs.length cb,.int .i64 a,.int .i64 most] (by rfl) rfl rfl (by (try simp only [List.map_toArray,List.map_cons,List.map_nil]);first | done | rfl) ?_
  refine (TI.out wd Hd.out.bel).mono ?_
  rintro e w2 ⟨rfl,hb⟩
  refine ⟨_,rfl, ?_⟩
  have H2:=qAA.mk (Hd.out.below hb.below)
  have F2:=qAA.mk (Fd.out.trans (mb.Fr.of_below hb.below))
  clear hb
  refine hK.out _ _ ⟨(qAB H2.out.blk 0).trans rfl,(qAB H2.out.blk 1).trans rfl⟩ (fun hHeld => ?_)
  clear hK K
  refine qAi (a' := ?_) ?_ ?_
  rotate_left
  ·show Act.put _ (some 18) _=_
   simp only [Act.put,qs1,qs2,qs3,qAR,qAT]
   rfl
  refine pU 10 8 ?_
  refine pU 11 19 ?_
  refine pU 12 20 ?_
  refine pU 13 21 ?_
  refine pU 14 5 ?_
  refine pU 15 6 ?_
  refine pU 16 7 ?_
  refine qA6 (by kernel_rfl) ?_
  have z1:w2.cell? ⟨g,1,none⟩=some (.int .i64 a):=(qAB H2.out.blk 1).trans rfl
  go_wp2_with (first | (go_at_call 61;refine (mb.qB2 H2.out 92 a).mono ?_;rintro e_ w3 ⟨rfl,hr,hf⟩;have H3:=qAA.mk hr;have F3:=qAA.mk hf;clear hr hf z1))
  go_ret
  exact ⟨rfl,H3.out,F2.out.trans F3.out⟩
 rw [if_neg h2]
 have d4:(e1 == 13)=false:=beq_eq_false_iff_ne.2 h2
 have d5:decide (e1=13)=false:=decide_eq_false h2
 clear h2
 dsimp only
 go_enter Try.func76,Try.ntmps76
 go_wp2
 refine qAn (n:=17) (S:=fun w'=>w'.cell? ⟨g,0,none⟩=some (.slice B bs.length cb)∧w'.cell? ⟨g,1,none⟩=some (.int .i64 a)) (ds:=[]) #[qF,qF,qF,qF,qF,qF,qF,qF,qF,qF,qF,qF,qF,qF,qF,qF,qF] (by kernel_rfl) rfl rfl ⟨(qAB (show W.drew.heap[g]?=_ from H.out.blk) 0).trans rfl,(qAB (show W.drew.heap[g]?=_ from H.out.blk) 1).trans rfl⟩ (fun hHeld => ?_)
 generalize hwd:W.drew=wd at hHeld ⊢
 have Hd:=qAA.mk (hwd▸H.out.below (qAM (Below.refl _ _)))
 have Fd:=qAA.mk (show mb.Fr g W wd from hwd▸mb.Fr.of_below (qAM (Below.refl _ _)))
 clear hwd
 refine pU 0 9 ?_
 refine pU 1 10 ?_
 refine pU 2 11 ?_
 refine pU 4 13 ?_
 refine pU 5 14 ?_
 refine pU 6 15 ?_
 refine pU 8 17 ?_
 refine tK 3 12 hHeld ?_
 refine tK 7 16 hHeld ?_
 refine one_ (i:=9) (N:=some 18) #[qT,qT,qT,qT,qT,qT,qT,qT,qT,qT,qF,qF,qF,qF,qF,qF,qF] rfl rfl (by kernel_rfl) (by decide) (fun K hK => ?_)
 refine qBJ Try.func91 (by kernel_rfl) rfl #[.slice B bs.length cb,.int .i64 a,.int .i64 most] (by rfl) rfl rfl (by (try simp only [List.map_toArray,List.map_cons,List.map_nil]);first | done | rfl) ?_
 refine (TI.out wd Hd.out.bel).mono ?_
 rintro e w2 ⟨rfl,hb⟩
 refine ⟨_,rfl, ?_⟩
 have H2:=qAA.mk (Hd.out.below hb.below)
 have F2:=qAA.mk (Fd.out.trans (mb.Fr.of_below hb.below))
 clear hb
 refine hK.out _ _ ⟨(qAB H2.out.blk 0).trans rfl,(qAB H2.out.blk 1).trans rfl⟩ (fun hHeld => ?_)
 clear hK K
 refine qAi (a' := ?_) ?_ ?_
 rotate_left
 ·show Act.put _ (some 18) _=_
  simp only [Act.put,qs1,qs2,qs3,qAR,qAT]
  rfl
 refine pU 10 8 ?_
 refine pU 11 19 ?_
 refine pU 12 20 ?_
 refine pU 13 21 ?_
 refine pU 14 5 ?_
 refine pU 15 6 ?_
 refine pU 16 7 ?_
 refine qA6 (by kernel_rfl) ?_
 have z1:w2.cell? ⟨g,1,none⟩=some (.int .i64 a):=(qAB H2.out.blk 1).trans rfl
 go_wp2_with (first | (go_at_call 61;refine (mb.qB2 H2.out 91 a).mono ?_;rintro e_ w3 ⟨rfl,hr,hf⟩;have H3:=qAA.mk hr;have F3:=qAA.mk hf;clear hr hf z1))
 go_ret
 exact ⟨rfl,H3.out,F2.out.trans F3.out⟩
end
end Go.Proofs.Ytmehfnikecmiiaa.X
namespace Go.Proofs.Ytmehfnikecmiiaa.X
open Go.RowKit Go.Proofs.YtmehfnikecmiiaaW.PrintWords Go.Proofs.YtmehfnikecmiiaaW.PrintLast Go.Proofs.YtmehfnikecmiiaaW.PrintMore Go.Proofs.YtmehfnikecmiiaaW
section
set_option maxHeartbeats 4000000
set_option maxRecDepth 100000
open Go.Proofs.Ytmehfnikecmiiaa Go.Proofs.Ytmehfnikecmiiaa.Pl
theorem mb.row_wr {k n:Nat} (h:k < n) (hn:n≤1048576):wrap64 ((k:Int)+1)=(k:Int)+1:=by unfold wrap64;omega
theorem mb.take_map {α:Type} (c:α→List Int) (xs:List α) (j:Nat) (x:α) (h:xs[j]?=some x):((xs.take (j+1)).map c).flatten=((xs.take j).map c).flatten ++ c x:=by
 have hj:=(List.getElem?_eq_some_iff.1 h).1
 rw [List.take_add_one,h]
 simp
theorem mb.flat_le {α:Type} (c:α→List Int) (m:Nat):∀ (l:List α),(∀ x ∈ l,(c x).length≤m)→((l.map c).flatten).length≤m * l.length
 | [],_=>by simp
 | x :: l,h=>by
  have h1:=mb.flat_le c m l (fun y hy=>h y (List.mem_cons_of_mem _ hy))
  have h2:=h x List.mem_cons_self
  simp only [List.map_cons,List.flatten_cons,List.length_append,List.length_cons]
  rw [Nat.mul_add,Nat.mul_one]
  omega
def mb.e56 (x:S56):List Int:=enX (x.f0,x.f1)
def mb.e52 (x:S52):List Int:=enF ((x.f0,x.f1),(x.f2,x.f3))
def mb.g56 (x:S56):Prop:=x.f0.size≤64∧0≤x.f1∧x.f1≤1000000
def mb.g52 (x:S52):Prop:=(0≤x.f0∧x.f0≤1000000)∧(0≤x.f1∧x.f1≤1000000)∧(0≤x.f2∧x.f2≤1000000)∧x.f3.size≤4000
theorem mb.e56_len {x:S56} (h:mb.g56 x):(mb.e56 x).length≤100:=by
 have h1:=qA1 (x.f0.size:Int)
 have h2:=qA1 x.f1
 have:=h.1
 unfold mb.e56 enX X.str
 simp only [List.length_append,qAm]
 omega
theorem mb.put31 {b:List Int} {x:S56} (h:mb.g56 x) (hb:b.length≤1000000):qAv.f 10 b x.f0 x.f1=some (b ++ mb.e56 x):=by
 have h1:=qA1 (x.f0.size:Int)
 obtain ⟨q0,q1,q2⟩:=h
 unfold qAv.f
 rw [qCC 10 b x.f0 (Nat.le_refl _) (by omega),Option.bind_some,u64w _ q1 (by omega),qBy 10 _ x.f1 (Nat.le_refl _) q1 (by omega) (by simp only [List.length_append,qAm];omega)]
 unfold mb.e56 enX X.str
 simp
theorem mb.body30 {xs:List S56} {A:Option Addr} {c:Nat} (w:World) (hA:k56.C w A xs.length xs) (hc:xs.length≤c) (hn:xs.length≤1000) (hx:∀ x ∈ xs,mb.g56 x) :
  Calls Try.prog 30 #[.slice A xs.length c,.func (.func 31) #[] #[]] w fun e w'=>∃ A' c',e=.returned (.slice A' (lst mb.e56 xs).length c')∧(Kd.int .u8).C w' A' (lst mb.e56 xs).length (lst mb.e56 xs)∧(lst mb.e56 xs).length≤c'∧Below w.heap.size w w':=by
 have hu:=Try.underlying56
 have HA:=qAA.mk hA;have HCA:=qAA.mk hc;have HX:=qAA.mk hx;have HN:=qAA.mk hn
 have hw:IntKind.u64.wrap (xs.length:Int)=(xs.length:Int):=u64w _ (by omega) (by omega)
 have PU:=qAA.mk (fun (W:World)=>qAb.calls 10 none 0 [] (xs.length:Int) ([] ++ putU (xs.length:Int)) W (Kd.C_nil (Kd.int .u8) W) (Nat.le_refl _) (qBy 10 [] (xs.length:Int) (Nat.le_refl _) (by omega) (by omega) (by simp)))
 rw [List.nil_append] at PU
 have HPL:=qAA.mk (qA1 (xs.length:Int)).2
 clear hA hc hx hn
 go_enter Try.func30,Try.ntmps30
 go_wp2_with (first | (go_at_call 49;refine (PU.out _).mono ?_;rintro e_ w1 ⟨v0,rfl,hr,hb⟩;have R1:=qAA.mk hr;have B1:=qAA.mk hb;clear hr hb))
 obtain ⟨A1,c1,e1⟩:=Kd.qAZ R1.out
 subst e1
 go_loopw [14,5] (fun v14 v5 wr=>∃ (j:Nat) (B:Option Addr) (cb:Nat) (b:List Int),v14=.int .i64 (j:Int)∧v5=.slice B b.length cb∧qAA (j≤xs.length∧b=putU (xs.length:Int) ++ ((xs.take j).map mb.e56).flatten)∧qAA ((Kd.int .u8).C wr B b.length b∧b.length≤cb)∧qAA (Below w.heap.size w wr)) (fun v14 _ _=>xs.length - (intOf v14).toNat)
 case atStart=>exact ⟨0,A1,c1,putU (xs.length:Int),rfl,rfl,⟨Nat.zero_le _,by simp⟩,⟨(Kd.R_reads' R1.out).2.2,(Kd.R_reads' R1.out).2.1⟩,B1⟩
 case round =>
  clear R1 B1
  obtain ⟨j,B,cb,b,rfl,rfl,HJ,HB,HO⟩:=hrel
  by_cases hlt:j < xs.length
  ·have i1:decide ((j:Int) < (xs.length:Int))=true:=decide_eq_true (by omega)
   have i2:decide (j < xs.length)=true:=decide_eq_true hlt
   have i3:(j < xs.length)=True:=eq_true hlt
   have i4:(j:Int) < (xs.length:Int):=by omega
   have HWR:=qAA.mk (mb.row_wr hlt (by have:=HN.out;omega))
   have HM:=qAA.mk (mb.meas j xs.length hlt HWR.out)
   have HJ1:=qAA.mk (show j+1≤xs.length from hlt)
   have hg:xs[j]?=some (qAy xs (j:Int)):=by
    unfold qAy
    rw [Int.toNat_natCast,List.getD_eq_getElem?_getD,List.getElem?_eq_getElem hlt]
    rfl
   obtain ⟨ad,ea,h0,h1⟩:=at_T56 (Kd.qAS HA.out HO.out) (j:Int) (by omega) (by omega)
   subst ea
   rw [Int.toNat_natCast] at h0 h1
   generalize qAy xs (j:Int)=x at *
   have hgx:=HX.out x (List.mem_of_getElem? hg)
   have hlen:b.length≤10+100 * 1000:=by
    have h1:=mb.flat_le mb.e56 100 (xs.take j) (fun y hy=>mb.e56_len (HX.out y (List.mem_of_mem_take hy)))
    have h2:=HPL.out
    have h3:(xs.take j).length≤1000:=by rw [List.length_take];have:=HN.out;omega
    rw [HJ.out.2,List.length_append]
    have h4:100 * (xs.take j).length≤100 * 1000:=Nat.mul_le_mul_left _ h3
    omega
   have PT:=qAA.mk (fun (W:World) (hO:Below w.heap.size w W) (hB:(Kd.int .u8).C W B b.length b)=>show Calls Try.prog 31 #[.slice B b.length cb,.agg #[.string x.f0,.int .i64 x.f1]] W (fun e w'=>∃ A' c',e=.returned (.slice A' (b ++ mb.e56 x).length c')∧(Kd.int .u8).C w' A' (b ++ mb.e56 x).length (b ++ mb.e56 x)∧(b ++ mb.e56 x).length≤c'∧Below w.heap.size w w') from (qAv.calls 10 B cb b x.f0 x.f1 (b ++ mb.e56 x) W hB HB.out.2 (mb.put31 hgx (by omega))).mono (fun e w' ⟨v,h1,h2,h3⟩=>by
    obtain ⟨A',c',e'⟩:=Kd.qAZ h2
    subst e'
    exact ⟨A',c',h1,(Kd.R_reads' h2).2.2,(Kd.R_reads' h2).2.1,qAU hO hO.size h3⟩))
   have HBB:=qAA.mk (show b ++ mb.e56 x=putU (xs.length:Int) ++ ((xs.take (j+1)).map mb.e56).flatten by rw [mb.take_map mb.e56 xs j x hg,HJ.out.2,List.append_assoc])
   generalize hb2:b ++ mb.e56 x=b2 at PT HBB
   clear hlt hg hgx hlen hb2
   go_wp2_with (first | (go_at_call 31;refine (PT.out _ (HO.out.alloc HO.out.size _) (Kd.qAs HB.out.1 _)).mono ?_;rintro e_ w2 ⟨A2,c2,rfl,hr,hcc,hb⟩;have R2:=qAA.mk hr;have C2:=qAA.mk hcc;have B2:=qAA.mk hb;clear hr hcc hb))
   go_roundw
   case rel=>exact ⟨j+1,A2,c2,b2,by rw [HWR.out];rfl,rfl,⟨HJ1.out,HBB.out⟩,⟨R2.out,C2.out⟩,B2⟩
   case measure=>exact HM.out
  ·have i1:decide ((j:Int) < (xs.length:Int))=false:=decide_eq_false (by omega)
   have i2:decide (j < xs.length)=false:=decide_eq_false hlt
   have i3:(j < xs.length)=False:=eq_false hlt
   have hb:b=lst mb.e56 xs:=by
    rw [HJ.out.2,List.take_of_length_le (by omega)]
    rfl
   have HBB:=qAA.mk hb
   clear hlt hb
   go_wp2
   go_ret
   exact ⟨B,cb,by rw [← HBB.out];rfl,HBB.out▸HB.out.1,HBB.out▸HB.out.2,HO.out⟩
theorem mb.e52_len {x:S52} (h:mb.g52 x):(mb.e52 x).length≤5000:=by
 have h1:=qA1 x.f0
 have h2:=qA1 x.f1
 have h3:=qA1 x.f2
 have h4:=qA1 (x.f3.size:Int)
 have:=h.2.2.2
 unfold mb.e52 enF X.str
 simp only [List.length_append,qAm]
 omega
theorem mb.func29 {b:List Int} {A0:Option Addr} {c0:Nat} {x:S52} (hx:mb.g52 x) (hb:b.length≤10000000) (w:World) (hC:(Kd.int .u8).C w A0 b.length b) (hc0:b.length≤c0) :
  Calls Try.prog 29 #[.slice A0 b.length c0,.agg #[.int .i64 x.f0,.int .i64 x.f1,.int .i64 x.f2,.string x.f3]] w fun e w'=>∃ A' c',e=.returned (.slice A' (b ++ mb.e52 x).length c')∧(Kd.int .u8).C w' A' (b ++ mb.e52 x).length (b ++ mb.e52 x)∧(b ++ mb.e52 x).length≤c'∧Below w.heap.size w w':=by
 obtain ⟨⟨p0,p1⟩,⟨l0,l1⟩,⟨s0,s1⟩,hk⟩:=hx
 have hu52:=Try.underlying52
 have wp:IntKind.u64.wrap x.f0=x.f0:=u64w _ p0 (by omega)
 have wl:IntKind.u64.wrap x.f1=x.f1:=u64w _ l0 (by omega)
 have ws:IntKind.u64.wrap x.f2=x.f2:=u64w _ s0 (by omega)
 have n1:=(qA1 x.f0).2
 have n2:=(qA1 x.f1).2
 have n3:=(qA1 x.f2).2
 have PUT:=qAA.mk (fun (n:Int) (h0:0≤n) (h1:n≤1000000) (d:List Int) (hd:d.length≤20000000) (W:World) (B:Option Addr) (cb:Nat) hB hcb=>qAb.calls 10 B cb d n (d ++ putU n) W hB hcb (qBy 10 d n (Nat.le_refl _) h0 (by omega) (by omega)))
 have PTX:=qAA.mk (fun (d:List Int) (hd:d.length≤20000000) (W:World) (B:Option Addr) (cb:Nat) hB hcb=>qA5.calls 10 B cb d x.f3 (d ++ putU x.f3.size ++ bytesOf x.f3) W hB hcb (qCC 10 d x.f3 (Nat.le_refl _) (by omega)))
 have HB0:=qAA.mk hC;have HC0:=qAA.mk hc0
 have HBL:=qAA.mk hb
 have HP:=qAA.mk (And.intro p0 p1);have HL:=qAA.mk (And.intro l0 l1);have HS:=qAA.mk (And.intro s0 s1)
 have N1:=qAA.mk n1;have N2:=qAA.mk n2;have N3:=qAA.mk n3
 clear hC hc0 hb p0 p1 l0 l1 s0 s1 n1 n2 n3 hk
 go_enter Try.func29,Try.ntmps29
 go_wp2_with (first | ((with_reducible refine qAr (N:=3) rfl ?_);refine qAk ?hg (N:=3) ?hd (cs:=#[.int .i64 x.f0,.int .i64 x.f1,.int .i64 x.f2,.string x.f3]) (t:=52) ?hr ?_;(case hd=>rfl);(case hg=>rfl);(case hr=>first | (go_simp;done) | (go_simp;rfl));intro gb hg w1 hbox hb1;have BX1:=qAA.mk hbox;have B1:=qAA.mk hb1;clear hbox hb1 hg;have z0:w1.cell? ⟨gb,0,none⟩=some (.int .i64 x.f0):=(qAB BX1.out 0).trans rfl;have z1:w1.cell? ⟨gb,1,none⟩=some (.int .i64 x.f1):=(qAB BX1.out 1).trans rfl;have z2:w1.cell? ⟨gb,2,none⟩=some (.int .i64 x.f2):=(qAB BX1.out 2).trans rfl))
 have LB:=qAA.mk (show (w1.alloc (.cells #[.int .i64 x.f0,.int .i64 x.f1,.int .i64 x.f2] 3)).heap[w1.heap.size]?=some (.cells #[.int .i64 x.f0,.int .i64 x.f1,.int .i64 x.f2] 3 (0,0)) by simpa using heap_alloc_new w1 _)
 have BA:=qAA.mk (B1.out.alloc B1.out.size (.cells #[.int .i64 x.f0,.int .i64 x.f1,.int .i64 x.f2] 3))
 have BX2:=qAA.mk (qAK BX1.out (.cells #[.int .i64 x.f0,.int .i64 x.f1,.int .i64 x.f2] 3))
 have WP:=qAA.mk wp;have WL:=qAA.mk wl;have WS:=qAA.mk ws
 clear z0 z1 z2 wp wl ws
 go_loopw [15,0] (fun v15 v0 wr=>∃ (j:Nat) (B:Option Addr) (cb:Nat) (d:List Int),v15=.int .i64 (j:Int)∧v0=.slice B d.length cb∧qAA (j≤3∧d=b ++ (([x.f0,x.f1,x.f2].take j).map putU).flatten)∧qAA ((Kd.int .u8).C wr B d.length d∧d.length≤cb)∧qAA (wr.heap[w1.heap.size]?=some (.cells #[.int .i64 x.f0,.int .i64 x.f1,.int .i64 x.f2] 3 (0,0)))∧qAA (wr.heap[gb]?=some (.cells #[.int .i64 x.f0,.int .i64 x.f1,.int .i64 x.f2,.string x.f3] 52 (0,0)))∧qAA (Below w.heap.size w wr)) (fun v15 _ _=>3 - (intOf v15).toNat)
 case atStart=>exact ⟨0,A0,c0,b,rfl,rfl,⟨Nat.zero_le _,by simp⟩,⟨Kd.qAS HB0.out BA.out,HC0.out⟩,LB,BX2,BA⟩
 case round =>
  clear LB BX2 BA
  obtain ⟨j,B,cb,d,rfl,rfl,HJ,HB,LB,BX2,BA⟩:=hrel
  have z0:=(qAB LB.out 0).trans rfl
  have z1:=(qAB LB.out 1).trans rfl
  have z2:=(qAB LB.out 2).trans rfl
  have o3:=(qAB BX2.out 3).trans rfl
  by_cases hlt:j < 3
  ·obtain rfl | rfl | rfl:j=0 ∨ j=1 ∨ j=2:=by omega
   ·have hl:d.length≤20000000:=by
     have h1:=N1.out;have h2:=N2.out;have h3:=N3.out;have h4:=HBL.out
     rw [HJ.out.2];simp;omega
    have HD:=qAA.mk (show d ++ putU x.f0=b ++ (([x.f0,x.f1,x.f2].take 1).map putU).flatten by rw [HJ.out.2];simp)
    have hw:=WP.out
    have PTD:=qAA.mk (fun (W:World) (hB:Below wr.heap.size wr W)=>PUT.out x.f0 HP.out.1 HP.out.2 d hl W B cb (Kd.qAS HB.out.1 hB) HB.out.2)
    generalize hd2:d ++ putU x.f0=d2 at PTD HD
    clear hlt hl hd2
    go_wp2_with (first | (go_at_call 49;refine (PTD.out _ (Below.refl _ _)).mono ?_;rintro e_ w2 ⟨v0,rfl,hr,hb⟩;have R2:=qAA.mk hr;have B2:=qAA.mk hb;clear hr hb z0 z1 z2 o3))
    obtain ⟨A2,c2,e2⟩:=Kd.qAZ R2.out
    subst e2
    go_roundw
    case rel=>exact ⟨1,A2,c2,d2,rfl,rfl,⟨by decide,HD.out⟩,⟨(Kd.R_reads' R2.out).2.2,(Kd.R_reads' R2.out).2.1⟩,⟨qAL LB.out B2.out⟩,⟨qAL BX2.out B2.out⟩,⟨qAU BA.out BA.out.size B2.out⟩⟩
    case measure=>decide
   ·have hl:d.length≤20000000:=by
     have h1:=N1.out;have h2:=N2.out;have h3:=N3.out;have h4:=HBL.out
     rw [HJ.out.2];simp;omega
    have HD:=qAA.mk (show d ++ putU x.f1=b ++ (([x.f0,x.f1,x.f2].take 2).map putU).flatten by rw [HJ.out.2];simp)
    have hw:=WL.out
    have PTD:=qAA.mk (fun (W:World) (hB:Below wr.heap.size wr W)=>PUT.out x.f1 HL.out.1 HL.out.2 d hl W B cb (Kd.qAS HB.out.1 hB) HB.out.2)
    generalize hd2:d ++ putU x.f1=d2 at PTD HD
    clear hlt hl hd2
    go_wp2_with (first | (go_at_call 49;refine (PTD.out _ (Below.refl _ _)).mono ?_;rintro e_ w2 ⟨v0,rfl,hr,hb⟩;have R2:=qAA.mk hr;have B2:=qAA.mk hb;clear hr hb z0 z1 z2 o3))
    obtain ⟨A2,c2,e2⟩:=Kd.qAZ R2.out
    subst e2
    go_roundw
    case rel=>exact ⟨2,A2,c2,d2,rfl,rfl,⟨by decide,HD.out⟩,⟨(Kd.R_reads' R2.out).2.2,(Kd.R_reads' R2.out).2.1⟩,⟨qAL LB.out B2.out⟩,⟨qAL BX2.out B2.out⟩,⟨qAU BA.out BA.out.size B2.out⟩⟩
    case measure=>decide
   ·have hl:d.length≤20000000:=by
     have h1:=N1.out;have h2:=N2.out;have h3:=N3.out;have h4:=HBL.out
     rw [HJ.out.2];simp;omega
    have HD:=qAA.mk (show d ++ putU x.f2=b ++ (([x.f0,x.f1,x.f2].take 3).map putU).flatten by rw [HJ.out.2];simp)
    have hw:=WS.out
    have PTD:=qAA.mk (fun (W:World) (hB:Below wr.heap.size wr W)=>PUT.out x.f2 HS.out.1 HS.out.2 d hl W B cb (Kd.qAS HB.out.1 hB) HB.out.2)
    generalize hd2:d ++ putU x.f2=d2 at PTD HD
    clear hlt hl hd2
    go_wp2_with (first | (go_at_call 49;refine (PTD.out _ (Below.refl _ _)).mono ?_;rintro e_ w2 ⟨v0,rfl,hr,hb⟩;have R2:=qAA.mk hr;have B2:=qAA.mk hb;clear hr hb z0 z1 z2 o3))
    obtain ⟨A2,c2,e2⟩:=Kd.qAZ R2.out
    subst e2
    go_roundw
    case rel=>exact ⟨3,A2,c2,d2,rfl,rfl,⟨by decide,HD.out⟩,⟨(Kd.R_reads' R2.out).2.2,(Kd.R_reads' R2.out).2.1⟩,⟨qAL LB.out B2.out⟩,⟨qAL BX2.out B2.out⟩,⟨qAU BA.out BA.out.size B2.out⟩⟩
    case measure=>decide
  ·obtain rfl:j=3:=by have:=HJ.out.1;omega
   clear hlt z0 z1 z2
   have hd:d=b ++ (putU x.f0 ++ (putU x.f1 ++ putU x.f2)):=by rw [HJ.out.2];simp
   have HD:=qAA.mk hd
   have hl:d.length≤20000000:=by
    have h1:=N1.out;have h2:=N2.out;have h3:=N3.out;have h4:=HBL.out
    rw [hd];simp only [List.length_append];omega
   have HE:=qAA.mk (show d ++ putU x.f3.size ++ bytesOf x.f3=b ++ mb.e52 x by rw [hd];unfold mb.e52 enF X.str;simp)
   have PTD:=qAA.mk (fun (W:World) (hB:Below wr.heap.size wr W)=>PTX.out d hl W B cb (Kd.qAS HB.out.1 hB) HB.out.2)
   rw [HE.out] at PTD
   clear hd hl
   go_wp2_with (first | (go_at_call 32;refine (PTD.out _ (Below.refl _ _)).mono ?_;rintro e_ w2 ⟨v0,rfl,hr,hb⟩;have R2:=qAA.mk hr;have B2:=qAA.mk hb;clear hr hb o3))
   obtain ⟨A2,c2,e2⟩:=Kd.qAZ R2.out
   subst e2
   go_ret
   exact ⟨A2,c2,rfl,(Kd.R_reads' R2.out).2.2,(Kd.R_reads' R2.out).2.1,qAU BA.out BA.out.size B2.out⟩
theorem mb.body28 {xs:List S52} {A:Option Addr} {c:Nat} (w:World) (hA:k52.C w A xs.length xs) (hc:xs.length≤c) (hn:xs.length≤1000) (hx:∀ x ∈ xs,mb.g52 x) :
  Calls Try.prog 28 #[.slice A xs.length c,.func (.func 29) #[] #[]] w fun e w'=>∃ A' c',e=.returned (.slice A' (lst mb.e52 xs).length c')∧(Kd.int .u8).C w' A' (lst mb.e52 xs).length (lst mb.e52 xs)∧(lst mb.e52 xs).length≤c'∧Below w.heap.size w w':=by
 have hu:=Try.underlying52
 have HA:=qAA.mk hA;have HCA:=qAA.mk hc;have HX:=qAA.mk hx;have HN:=qAA.mk hn
 have hw:IntKind.u64.wrap (xs.length:Int)=(xs.length:Int):=u64w _ (by omega) (by omega)
 have PU:=qAA.mk (fun (W:World)=>qAb.calls 10 none 0 [] (xs.length:Int) ([] ++ putU (xs.length:Int)) W (Kd.C_nil (Kd.int .u8) W) (Nat.le_refl _) (qBy 10 [] (xs.length:Int) (Nat.le_refl _) (by omega) (by omega) (by simp)))
 rw [List.nil_append] at PU
 have HPL:=qAA.mk (qA1 (xs.length:Int)).2
 clear hA hc hx hn
 go_enter Try.func28,Try.ntmps28
 go_wp2_with (first | (go_at_call 49;refine (PU.out _).mono ?_;rintro e_ w1 ⟨v0,rfl,hr,hb⟩;have R1:=qAA.mk hr;have B1:=qAA.mk hb;clear hr hb))
 obtain ⟨A1,c1,e1⟩:=Kd.qAZ R1.out
 subst e1
 go_loopw [14,5] (fun v14 v5 wr=>∃ (j:Nat) (B:Option Addr) (cb:Nat) (b:List Int),v14=.int .i64 (j:Int)∧v5=.slice B b.length cb∧qAA (j≤xs.length∧b=putU (xs.length:Int) ++ ((xs.take j).map mb.e52).flatten)∧qAA ((Kd.int .u8).C wr B b.length b∧b.length≤cb)∧qAA (Below w.heap.size w wr)) (fun v14 _ _=>xs.length - (intOf v14).toNat)
 case atStart=>exact ⟨0,A1,c1,putU (xs.length:Int),rfl,rfl,⟨Nat.zero_le _,by simp⟩,⟨(Kd.R_reads' R1.out).2.2,(Kd.R_reads' R1.out).2.1⟩,B1⟩
 case round =>
  clear R1 B1
  obtain ⟨j,B,cb,b,rfl,rfl,HJ,HB,HO⟩:=hrel
  by_cases hlt:j < xs.length
  ·have i1:decide ((j:Int) < (xs.length:Int))=true:=decide_eq_true (by omega)
   have i2:decide (j < xs.length)=true:=decide_eq_true hlt
   have i3:(j < xs.length)=True:=eq_true hlt
   have i4:(j:Int) < (xs.length:Int):=by omega
   have HWR:=qAA.mk (mb.row_wr hlt (by have:=HN.out;omega))
   have HM:=qAA.mk (mb.meas j xs.length hlt HWR.out)
   have HJ1:=qAA.mk (show j+1≤xs.length from hlt)
   have hg:xs[j]?=some (qAp xs (j:Int)):=by
    unfold qAp
    rw [Int.toNat_natCast,List.getD_eq_getElem?_getD,List.getElem?_eq_getElem hlt]
    rfl
   obtain ⟨ad,ea,h0,h1,h2,h3⟩:=at_T52 (Kd.qAS HA.out HO.out) (j:Int) (by omega) (by omega)
   subst ea
   rw [Int.toNat_natCast] at h0 h1 h2 h3
   generalize qAp xs (j:Int)=x at *
   have hgx:=HX.out x (List.mem_of_getElem? hg)
   have hlen:b.length≤10+5000 * 1000:=by
    have h1:=mb.flat_le mb.e52 5000 (xs.take j) (fun y hy=>mb.e52_len (HX.out y (List.mem_of_mem_take hy)))
    have h2:=HPL.out
    have h3:(xs.take j).length≤1000:=by rw [List.length_take];have:=HN.out;omega
    rw [HJ.out.2,List.length_append]
    have h4:5000 * (xs.take j).length≤5000 * 1000:=Nat.mul_le_mul_left _ h3
    omega
   have PT:=qAA.mk (fun (W:World) (hO:Below w.heap.size w W) (hB:(Kd.int .u8).C W B b.length b)=>show Calls Try.prog 29 #[.slice B b.length cb,.agg #[.int .i64 x.f0,.int .i64 x.f1,.int .i64 x.f2,.string x.f3]] W (fun e w'=>∃ A' c',e=.returned (.slice A' (b ++ mb.e52 x).length c')∧(Kd.int .u8).C w' A' (b ++ mb.e52 x).length (b ++ mb.e52 x)∧(b ++ mb.e52 x).length≤c'∧Below w.heap.size w w') from (mb.func29 hgx (by omega) W hB HB.out.2).mono (fun e w' ⟨A',c',h1,h2,h3,h4⟩=>⟨A',c',h1,h2,h3,qAU hO hO.size h4⟩))
   have HBB:=qAA.mk (show b ++ mb.e52 x=putU (xs.length:Int) ++ ((xs.take (j+1)).map mb.e52).flatten by rw [mb.take_map mb.e52 xs j x hg,HJ.out.2,List.append_assoc])
   generalize hb2:b ++ mb.e52 x=b2 at PT HBB
   clear hlt hg hgx hlen hb2
   go_wp2_with (first | (go_at_call 29;refine (PT.out _ (HO.out.alloc HO.out.size _) (Kd.qAs HB.out.1 _)).mono ?_;rintro e_ w2 ⟨A2,c2,rfl,hr,hcc,hb⟩;have R2:=qAA.mk hr;have C2:=qAA.mk hcc;have B2:=qAA.mk hb;clear hr hcc hb))
   go_roundw
   case rel=>exact ⟨j+1,A2,c2,b2,by rw [HWR.out];rfl,rfl,⟨HJ1.out,HBB.out⟩,⟨R2.out,C2.out⟩,B2⟩
   case measure=>exact HM.out
  ·have i1:decide ((j:Int) < (xs.length:Int))=false:=decide_eq_false (by omega)
   have i2:decide (j < xs.length)=false:=decide_eq_false hlt
   have i3:(j < xs.length)=False:=eq_false hlt
   have hb:b=lst mb.e52 xs:=by
    rw [HJ.out.2,List.take_of_length_le (by omega)]
    rfl
   have HBB:=qAA.mk hb
   clear hlt hb
   go_wp2
   go_ret
   exact ⟨B,cb,by rw [← HBB.out];rfl,HBB.out▸HB.out.1,HBB.out▸HB.out.2,HO.out⟩
def mb.g48 (x:S48):Prop:=Val x∧Frm x∧wt x≤2048∧Ev (fun k=>qBB.f k x.f0 x.f1 x.f2 x.f3 x.f4) true
theorem mb.e48_len {x:S48} (h:mb.g48 x):(en x).length≤24576:=by
 have h1:=(en_len x h.1).1
 have h2:=h.2.2.1
 omega
theorem mb.put27 {b:List Int} {x:S48} (h:mb.g48 x) (hb:b.length≤30000000):Ev (fun k=>qBt.f k b x.f0 x.f1 x.f2 x.f3 x.f4) (b ++ en x):=by
 have hl:=mb.e48_len h
 have hp:=put_ev x h.1 h.2.1 b (by omega)
 have hw:Ev (fun k=>qBe.f k b x.f0 x.f1 x.f2 x.f3 x.f4) (b ++ en x,0):=by
  refine Ev.bind (F:=fun k ok=>if ok=true then (qA4.f b).bind fun b=>(qAP.f k b x.f0 x.f1 x.f2 x.f3 x.f4).bind fun r=>some (r,0) else some ([],40)) h.2.2.2 ?_
  refine Ev.congr (h:=fun k=>(qAP.w k b x.f0 x.f1 x.f2 x.f3 x.f4).bind fun r=>some (r,0)) (Ev.bind (F:=fun k r=>some (r,0)) hp Ev.const) (fun k => ?_)
  rw [if_pos rfl]
  unfold qA4.f
  rw [if_pos (by omega)]
  rfl
 exact Ev.bind (F:=fun _ (r:List Int × Int)=>some r.1) hw Ev.const
theorem mb.body26 {xs:List S48} {A:Option Addr} {c:Nat} (w:World) (hA:k48.C w A xs.length xs) (hc:xs.length≤c) (hn:xs.length≤1000) (hx:∀ x ∈ xs,mb.g48 x) :
  Calls Try.prog 26 #[.slice A xs.length c,.func (.func 27) #[] #[]] w fun e w'=>∃ A' c',e=.returned (.slice A' (lst en xs).length c')∧(Kd.int .u8).C w' A' (lst en xs).length (lst en xs)∧(lst en xs).length≤c'∧Below w.heap.size w w':=by
 have hu:=Try.underlying48
 have HA:=qAA.mk hA;have HCA:=qAA.mk hc;have HX:=qAA.mk hx;have HN:=qAA.mk hn
 have hw:IntKind.u64.wrap (xs.length:Int)=(xs.length:Int):=u64w _ (by omega) (by omega)
 have PU:=qAA.mk (fun (W:World)=>qAb.calls 10 none 0 [] (xs.length:Int) ([] ++ putU (xs.length:Int)) W (Kd.C_nil (Kd.int .u8) W) (Nat.le_refl _) (qBy 10 [] (xs.length:Int) (Nat.le_refl _) (by omega) (by omega) (by simp)))
 rw [List.nil_append] at PU
 have HPL:=qAA.mk (qA1 (xs.length:Int)).2
 clear hA hc hx hn
 go_enter Try.func26,Try.ntmps26
 go_wp2_with (first | (go_at_call 49;refine (PU.out _).mono ?_;rintro e_ w1 ⟨v0,rfl,hr,hb⟩;have R1:=qAA.mk hr;have B1:=qAA.mk hb;clear hr hb))
 obtain ⟨A1,c1,e1⟩:=Kd.qAZ R1.out
 subst e1
 go_loopw [14,5] (fun v14 v5 wr=>∃ (j:Nat) (B:Option Addr) (cb:Nat) (b:List Int),v14=.int .i64 (j:Int)∧v5=.slice B b.length cb∧qAA (j≤xs.length∧b=putU (xs.length:Int) ++ ((xs.take j).map en).flatten)∧qAA ((Kd.int .u8).C wr B b.length b∧b.length≤cb)∧qAA (Below w.heap.size w wr)) (fun v14 _ _=>xs.length - (intOf v14).toNat)
 case atStart=>exact ⟨0,A1,c1,putU (xs.length:Int),rfl,rfl,⟨Nat.zero_le _,by simp⟩,⟨(Kd.R_reads' R1.out).2.2,(Kd.R_reads' R1.out).2.1⟩,B1⟩
 case round =>
  clear R1 B1
  obtain ⟨j,B,cb,b,rfl,rfl,HJ,HB,HO⟩:=hrel
  by_cases hlt:j < xs.length
  ·have i1:decide ((j:Int) < (xs.length:Int))=true:=decide_eq_true (by omega)
   have i2:decide (j < xs.length)=true:=decide_eq_true hlt
   have i3:(j < xs.length)=True:=eq_true hlt
   have i4:(j:Int) < (xs.length:Int):=by omega
   have HWR:=qAA.mk (mb.row_wr hlt (by have:=HN.out;omega))
   have HM:=qAA.mk (mb.meas j xs.length hlt HWR.out)
   have HJ1:=qAA.mk (show j+1≤xs.length from hlt)
   have hg:xs[j]?=some (qAO xs (j:Int)):=by
    unfold qAO
    rw [Int.toNat_natCast,List.getD_eq_getElem?_getD,List.getElem?_eq_getElem hlt]
    rfl
   obtain ⟨ad,A3,c3,A4,c4,ea,h0,h1,h2,h3,h4,l3,g3,l4,g4⟩:=qCa (Kd.qAS HA.out HO.out) (j:Int) (by omega) (by omega)
   subst ea
   rw [Int.toNat_natCast] at h0 h1 h2 h3 h4
   generalize qAO xs (j:Int)=x at *
   have hgx:=HX.out x (List.mem_of_getElem? hg)
   have hlen:b.length≤10+24576 * 1000:=by
    have h1:=mb.flat_le en 24576 (xs.take j) (fun y hy=>mb.e48_len (HX.out y (List.mem_of_mem_take hy)))
    have h2:=HPL.out
    have h3:(xs.take j).length≤1000:=by rw [List.length_take];have:=HN.out;omega
    rw [HJ.out.2,List.length_append]
    have h4:24576 * (xs.take j).length≤24576 * 1000:=Nat.mul_le_mul_left _ h3
    omega
   obtain ⟨K1,q1⟩:=mb.put27 hgx (b:=b) (by omega)
   have PT:=qAA.mk (fun (W:World) (hO:Below w.heap.size w W) (hB:(Kd.int .u8).C W B b.length b) (r3:k48.C W A3 x.f3.length x.f3) (r4:Kd.string.C W A4 x.f4.length x.f4)=>show Calls Try.prog 27 #[.slice B b.length cb,.agg #[.int .i64 x.f0,.int .i64 x.f1,.string x.f2,.slice A3 x.f3.length c3,.slice A4 x.f4.length c4]] W (fun e w'=>∃ A' c',e=.returned (.slice A' (b ++ en x).length c')∧(Kd.int .u8).C w' A' (b ++ en x).length (b ++ en x)∧(b ++ en x).length≤c'∧Below w.heap.size w w') from (qBt.calls K1 B cb b x.f0 x.f1 x.f2 A3 c3 x.f3 A4 c4 x.f4 (b ++ en x) W hB HB.out.2 r3 l3 r4 l4 (q1 K1 (Nat.le_refl _))).mono (fun e w' ⟨A',c',h1,h2,h3,h4⟩=>⟨A',c',h1,h2,h3,qAU hO hO.size h4⟩))
   have G3:=qAA.mk g3;have G4:=qAA.mk g4
   clear q1 g3 g4 l3 l4
   have HBB:=qAA.mk (show b ++ en x=putU (xs.length:Int) ++ ((xs.take (j+1)).map en).flatten by rw [mb.take_map en xs j x hg,HJ.out.2,List.append_assoc])
   generalize hb2:b ++ en x=b2 at PT HBB
   clear hlt hg hgx hlen hb2
   go_wp2_with (first | (go_at_call 27;refine (PT.out _ (HO.out.alloc HO.out.size _) (Kd.qAs HB.out.1 _) (Kd.qAs G3.out _) (Kd.qAs G4.out _)).mono ?_;rintro e_ w2 ⟨A2,c2,rfl,hr,hcc,hb⟩;have R2:=qAA.mk hr;have C2:=qAA.mk hcc;have B2:=qAA.mk hb;clear hr hcc hb))
   go_roundw
   case rel=>exact ⟨j+1,A2,c2,b2,by rw [HWR.out];rfl,rfl,⟨HJ1.out,HBB.out⟩,⟨R2.out,C2.out⟩,B2⟩
   case measure=>exact HM.out
  ·have i1:decide ((j:Int) < (xs.length:Int))=false:=decide_eq_false (by omega)
   have i2:decide (j < xs.length)=false:=decide_eq_false hlt
   have i3:(j < xs.length)=False:=eq_false hlt
   have hb:b=lst en xs:=by
    rw [HJ.out.2,List.take_of_length_le (by omega)]
    rfl
   have HBB:=qAA.mk hb
   clear hlt hb
   go_wp2
   go_ret
   exact ⟨B,cb,by rw [← HBB.out];rfl,HBB.out▸HB.out.1,HBB.out▸HB.out.2,HO.out⟩
end
end Go.Proofs.Ytmehfnikecmiiaa.X
namespace Go.Proofs.Ytmehfnikecmiiaa.X
open Go.RowKit Go.Proofs.YtmehfnikecmiiaaW.PrintWords Go.Proofs.YtmehfnikecmiiaaW.PrintLast Go.Proofs.YtmehfnikecmiiaaW.PrintMore Go.Proofs.YtmehfnikecmiiaaW
section
set_option maxHeartbeats 4000000
set_option maxRecDepth 100000
open Go.Proofs.Ytmehfnikecmiiaa Go.Proofs.Ytmehfnikecmiiaa.Pl
theorem mb.right_any (x:S48) (hv:Val x):∃ b,Ev (fun k=>qBB.f k x.f0 x.f1 x.f2 x.f3 x.f4) b∧(b=true ↔ mb.g48 x):=by
 rcases good x hv 0 0 0 (by omega) (by omega) (by omega) (by omega) (by omega) (by omega) with ⟨D',W',d,m,r,q,hD,hd,hD8,hW0,hW1,hF,hw⟩ | ⟨D',W',m,r⟩
 ·have hm:Ev (fun k=>qAE.f k x.f0 x.f1 x.f2 x.f3 x.f4) (W',D'):=Ev.bind m (by simpa using Ev.const)
  have hW:Ev (fun k=>qBK.f k x.f0 x.f1 x.f2 x.f3 x.f4) W':=Ev.bind hm Ev.const
  have hR:Ev (fun k=>qBB.f k x.f0 x.f1 x.f2 x.f3 x.f4) true:=Ev.bind hW (by rw [decide_eq_true (by omega)];exact Ev.const)
  exact ⟨true,hR,⟨fun _=>⟨hv,hF,by omega,hR⟩,fun _=>rfl⟩⟩
 ·have hm:Ev (fun k=>qAE.f k x.f0 x.f1 x.f2 x.f3 x.f4) (0,0):=Ev.bind m (by simpa using Ev.const)
  have hW:Ev (fun k=>qBK.f k x.f0 x.f1 x.f2 x.f3 x.f4) 0:=Ev.bind hm Ev.const
  have hR:Ev (fun k=>qBB.f k x.f0 x.f1 x.f2 x.f3 x.f4) false:=Ev.bind hW (by rw [decide_eq_false (by omega)];exact Ev.const)
  refine ⟨false,hR,⟨fun h=>by (cases h),fun h => ?_⟩⟩
  obtain ⟨K1,h1⟩:=hR
  obtain ⟨K2,h2⟩:=h.2.2.2
  have e1:=h1 (K1+K2) (by omega)
  have e2:=h2 (K1+K2) (by omega)
  rw [e1] at e2
  cases e2
theorem mb.lit46 {x:S48} {t:Bool} (ht:Ev (fun k=>qBB.f k x.f0 x.f1 x.f2 x.f3 x.f4) t) {A3:Option Addr} {c3:Nat} {A4:Option Addr} {c4:Nat} (w:World) (h3:k48.C w A3 x.f3.length x.f3) (l3:x.f3.length≤c3) (h4:Kd.string.C w A4 x.f4.length x.f4) (l4:x.f4.length≤c4) :
  Calls Try.prog 46 #[.agg #[.int .i64 x.f0,.int .i64 x.f1,.string x.f2,.slice A3 x.f3.length c3,.slice A4 x.f4.length c4]] w fun e w'=>e=.returned (.bool (!t))∧Below w.heap.size w w':=by
 have hu25:=Try.underlying48
 obtain ⟨K,hK⟩:=ht
 have RGT:=qAA.mk (fun (W:World) (hb:Below w.heap.size w W)=>qBB.calls K x.f0 x.f1 x.f2 A3 c3 x.f3 A4 c4 x.f4 t W (Kd.qAS h3 hb) l3 (Kd.qAS h4 hb) l4 (hK K (Nat.le_refl _)))
 clear h3 h4 l3 l4 hK
 go_enter Try.func46,Try.ntmps46
 go_wp2_with (first | ((with_reducible refine qAr (N:=1) rfl ?_);refine qAk ?hg (N:=1) ?hd (cs:=#[.int .i64 x.f0,.int .i64 x.f1,.string x.f2,.slice A3 x.f3.length c3,.slice A4 x.f4.length c4]) (t:=48) ?hr ?_;(case hd=>rfl);(case hg=>rfl);(case hr=>first | (go_simp;done) | (go_simp;rfl));intro gb hg w1 hbox hb1;have BK1:=qAA.mk hbox;have B1:=qAA.mk hb1;clear hb1 hbox hg;have z0:w1.cell? ⟨gb,0,none⟩=some (.int .i64 x.f0):=(qAB BK1.out 0).trans rfl;have z1:w1.cell? ⟨gb,1,none⟩=some (.int .i64 x.f1):=(qAB BK1.out 1).trans rfl;have z2:w1.cell? ⟨gb,2,none⟩=some (.string x.f2):=(qAB BK1.out 2).trans rfl;have z3:w1.cell? ⟨gb,3,none⟩=some (.slice A3 x.f3.length c3):=(qAB BK1.out 3).trans rfl;have z4:w1.cell? ⟨gb,4,none⟩=some (.slice A4 x.f4.length c4):=(qAB BK1.out 4).trans rfl) | (go_at_call 47;refine (RGT.out _ B1.out).mono ?_;rintro e_ w2 ⟨rfl,hb⟩;have B2:=qAA.mk (qAV B1.out hb);clear hb z0 z1 z2 z3 z4))
 go_ret
 exact ⟨rfl,B2.out⟩
theorem mb.index66 {xs:List S48} {A:Option Addr} {c:Nat} (w:World) (hA:k48.C w A xs.length xs) (hc:xs.length≤c) (hn:xs.length≤1000) (hx:∀ x ∈ xs,Val x) :
  Calls Try.prog 66 #[.slice A xs.length c,.func (.func 46) #[] #[]] w fun e w'=>∃ r:Int,e=.returned (.int .i64 r)∧(r < 0 ↔ ∀ x ∈ xs,mb.g48 x)∧Below w.heap.size w w':=by
 have hu:=Try.underlying23
 have HA:=qAA.mk hA;have HCA:=qAA.mk hc;have HX:=qAA.mk hx;have HN:=qAA.mk hn
 clear hA hc hx hn
 go_enter Try.func66,Try.ntmps66
 go_wp2
 go_loopw [8] (fun v8 wr=>∃ j:Nat,v8=.int .i64 (j:Int)∧qAA (j≤xs.length∧∀ x ∈ xs.take j,mb.g48 x)∧qAA (Below w.heap.size w wr)) (fun v8 _=>xs.length - (intOf v8).toNat)
 case atStart=>exact ⟨0,rfl,⟨Nat.zero_le _,fun x hx=>by simp at hx⟩,⟨Below.refl _ _⟩⟩
 case round =>
  obtain ⟨j,rfl,HJ,HO⟩:=hrel
  by_cases hlt:j < xs.length
  ·have i1:decide ((j:Int) < (xs.length:Int))=true:=decide_eq_true (by omega)
   have i2:decide (j < xs.length)=true:=decide_eq_true hlt
   have i3:(j < xs.length)=True:=eq_true hlt
   have i4:(j:Int) < (xs.length:Int):=by omega
   have HWR:=qAA.mk (mb.row_wr hlt (by have:=HN.out;omega))
   have HM:=qAA.mk (mb.meas j xs.length hlt HWR.out)
   have hg:xs[j]?=some (qAO xs (j:Int)):=by
    unfold qAO
    rw [Int.toNat_natCast,List.getD_eq_getElem?_getD,List.getElem?_eq_getElem hlt]
    rfl
   obtain ⟨ad,A3,c3,A4,c4,ea,h0,h1,h2,h3,h4,l3,g3,l4,g4⟩:=qCa (Kd.qAS HA.out HO.out) (j:Int) (by omega) (by omega)
   subst ea
   rw [Int.toNat_natCast] at h0 h1 h2 h3 h4
   generalize qAO xs (j:Int)=x at *
   obtain ⟨t,ht,hgood⟩:=mb.right_any x (HX.out x (List.mem_of_getElem? hg))
   have LIT:=qAA.mk (fun (W:World) (hb:Below wr.heap.size wr W)=>mb.lit46 ht W (Kd.qAS g3 hb) l3 (Kd.qAS g4 hb) l4)
   have HT:=qAA.mk hgood
   have HG:=qAA.mk hg
   clear hlt hg ht hgood g3 g4 l3 l4
   cases t with
   | true =>
    go_wp2_with (first | (go_at_call 46;refine (LIT.out _ (Below.refl _ _)).mono ?_;rintro e_ w2 ⟨rfl,hb⟩;have B2:=qAA.mk (qAU HO.out HO.out.size hb);clear hb h0 h1 h2 h3 h4))
    go_roundw
    case rel=>exact ⟨j+1,by rw [HWR.out];rfl,⟨by have:=i4;omega,fun y hy=>by
     rw [List.take_add_one,HG.out] at hy
     rcases List.mem_append.1 hy with hy | hy
     ·exact HJ.out.2 y hy
     ·rw [show y=x by simpa using hy];first | exact HT.out.1 rfl | exact HT.out.1 trivial⟩,B2⟩
    case measure=>exact HM.out
   | false =>
    go_wp2_with (first | (go_at_call 46;refine (LIT.out _ (Below.refl _ _)).mono ?_;rintro e_ w2 ⟨rfl,hb⟩;have B2:=qAA.mk (qAU HO.out HO.out.size hb);clear hb h0 h1 h2 h3 h4))
    go_ret
    exact ⟨_,rfl,⟨fun h=>absurd h (by omega),fun h=>by cases HT.out.2 (h x (List.mem_of_getElem? HG.out))⟩,B2.out⟩
  ·have i1:decide ((j:Int) < (xs.length:Int))=false:=decide_eq_false (by omega)
   have i2:decide (j < xs.length)=false:=decide_eq_false hlt
   have i3:(j < xs.length)=False:=eq_false hlt
   have HALL:=qAA.mk (show ∀ x ∈ xs,mb.g48 x from fun x hx=>HJ.out.2 x (by rw [List.take_of_length_le (by omega)];exact hx))
   clear hlt
   go_wp2
   go_ret
   exact ⟨-1,rfl,⟨fun _=>HALL.out,fun _=>by omega⟩,HO.out⟩
theorem mb.contains45 {xs:List S48} {A:Option Addr} {c:Nat} (w:World) (hA:k48.C w A xs.length xs) (hc:xs.length≤c) (hn:xs.length≤1000) (hx:∀ x ∈ xs,Val x) :
  Calls Try.prog 45 #[.slice A xs.length c,.func (.func 46) #[] #[]] w fun e w'=>∃ t:Bool,e=.returned (.bool t)∧(t=false ↔ ∀ x ∈ xs,mb.g48 x)∧Below w.heap.size w w':=by
 have IDX:=qAA.mk (mb.index66 w hA hc hn hx)
 clear hA hc hn hx
 go_enter Try.func45,Try.ntmps45
 go_wp2_with (first | (go_at_call 66;refine IDX.out.mono ?_;rintro e_ w2 ⟨r,rfl,hr,hb⟩;have HR:=qAA.mk hr;have B2:=qAA.mk hb;clear hr hb))
 go_ret
 exact ⟨_,rfl,⟨fun h=>HR.out.1 (by simpa using h),fun h=>by have:=HR.out.2 h;simpa using this⟩,B2.out⟩
theorem mb.isname_l (x:ByteArray) (hx:x.size≤140737488351232):∀ (d i:Nat),i+d=x.size→∃ t,qAf.l0 (d+1) x (x.size:Int) (i:Int)=some t∧(t=true→x.size≤64):=by
 intro d
 induction d with
 | zero =>
  intro i hi
  unfold qAf.l0
  rw [if_neg (by omega)]
  split
  ·exact ⟨_,rfl,fun h=>by cases h⟩
  ·refine ⟨_,rfl,fun h => ?_⟩
   have:=of_decide_eq_true h
   omega
 | succ d ih =>
  intro i hi
  obtain ⟨t,h1,h2⟩:=ih (i+1) (by omega)
  have ei:wrap64 ((i:Int)+1)=((i+1:Nat):Int):=by unfold wrap64;omega
  unfold qAf.l0
  rw [if_pos (by omega),if_pos (by omega),if_pos (by omega),ei]
  repeat' split
  all_goals first | exact ⟨t,h1,h2⟩ | exact ⟨false,rfl,fun h=>by cases h⟩
def mb.isN (x:ByteArray):Bool:=(qAf.f (x.size+1) x).getD false
theorem mb.isN_l {x:ByteArray} (hx:x.size≤140737488351232) (h:mb.isN x=true):x.size≤64:=by
 obtain ⟨t,h1,h2⟩:=mb.isname_l x hx x.size 0 (by omega)
 refine h2 ?_
 unfold mb.isN at h
 rw [show qAf.f (x.size+1) x=some t from h1] at h
 exact h
theorem mb.isname9 (x:ByteArray) (hx:x.size≤140737488351232) (w:World):Calls Try.prog 9 #[.string x] w fun e w'=>e=.returned (.bool (mb.isN x))∧Below w.heap.size w w':=by
 obtain ⟨t,h1,h2⟩:=mb.isname_l x hx x.size 0 (by omega)
 have e:qAf.f (x.size+1) x=some (mb.isN x):=by
  unfold mb.isN
  rw [show qAf.f (x.size+1) x=some t from h1]
  rfl
 exact (qAf.calls (x.size+1) x _ w e).mono (fun e w' q=>⟨q.1,q.2.below⟩)
theorem mb.qCP (a b c:Int) (w:World):Calls Try.prog 48 #[.int .i64 a,.int .i64 b,.int .i64 c] w fun e w'=>e=.returned (.bool (decide (b≤a∧a≤c)))∧Below w.heap.size w w':=by
 have h:qB5.f a b c=some (decide (b≤a∧a≤c)):=by
  unfold qB5.f
  by_cases h:a ≥ b
  ·rw [if_pos h]
   congr 1
   by_cases k:a≤c
   ·rw [decide_eq_true k,decide_eq_true ⟨h,k⟩]
   ·rw [decide_eq_false k,decide_eq_false (fun q=>k q.2)]
  ·rw [if_neg h,decide_eq_false (fun q=>h q.1)]
 exact (qB5.calls a b c _ w h).mono (fun e w' q=>⟨q.1,q.2.below⟩)
end
end Go.Proofs.Ytmehfnikecmiiaa.X
namespace Go.Proofs.Ytmehfnikecmiiaa.X
open Go.RowKit Go.Proofs.YtmehfnikecmiiaaW.PrintWords Go.Proofs.YtmehfnikecmiiaaW.PrintLast Go.Proofs.YtmehfnikecmiiaaW.PrintMore Go.Proofs.YtmehfnikecmiiaaW
section
set_option maxHeartbeats 1000000
set_option maxRecDepth 100000
open Go.Proofs.Ytmehfnikecmiiaa Go.Proofs.Ytmehfnikecmiiaa.Pl
section
variable {P:Program} {ops:Array Oper} {o:Oper} {a:Act} {Q:Exit→Act→World→Prop} {K:Act→World→Prop} {α:Type}
theorem mb.store_seg (d:Kd α) {w0 W:World} (base:Nat) (hw:Region.wanted o (yielded ops a.tmps)=true) (hN:o.dst=none) (t:TypeId) (p x:Operand) (ho:o.op=.store t p x) (e:TypeId) {g n cap:Nat} (i:Int) (xs:List α) (x':α) (u:Value) (seg c:List Value) (ok okp:Nat→Prop)
  (haddr:a.eval p=.pointer (some ⟨g,i.toNat * d.sz,none⟩)) (hx:a.eval x=u) (hu:u.cells.toList=seg) (ht:(P.info? t).map (·.size)=some seg.length) (h1:∀ q ∈ seg,q.oneCell'=true) (hlen:seg.length=d.sz)
  (HO:d.R e W base ok (.slice (some ⟨g,0,none⟩) n cap) xs) (h0:0≤i) (hi:i < n) (hcl:c.length=d.sz) (hcc:∀ j u,c[j]?=some u→W.cell? ⟨g,i.toNat * d.sz+j,none⟩=some u)
  (hM:d.M W base okp x' seg) (hokp:∀ k,okp k→ok k∧k ≠ g) (HB:Below base w0 W)
  (h:∀ w1,d.R e w1 base ok (.slice (some ⟨g,0,none⟩) n cap) (xs.set i.toNat x')→Below base w0 w1→W.grownBy w1 (some g)→K a w1) :
  if Region.wanted o (yielded ops a.tmps)=true then Oper.wp P o a W K Q else K (a.put none undef) W:=by
 have hM2:d.M W base okp x' (c.take 0 ++ seg ++ c.drop (0+seg.length)):=by
  have e1:c.drop (0+seg.length)=[]:=List.drop_eq_nil_of_le (by omega)
  rw [e1]
  simpa using hM
 obtain ⟨hrow,hg⟩:=Kd.R_seg HO i h0 hi hcl hcc (j:=0) (by omega) hM2 hokp
 rw [Nat.add_zero] at hrow hg
 have hbg:base≤g:=Kd.R_base HO g (by simp [Value.ownBlock])
 have hnx:n=xs.length:=(Kd.R_reads' HO).1
 obtain ⟨_,inner,hown,hr⟩:=HO
 have hil:i.toNat < n:=by omega
 have hB:Below base w0 (W.setCells g (i.toNat * d.sz) seg):=HB.trans ⟨hg.os,hg.tape,hg.output,hg.size,fun k hk=>by
  have hlt:k < W.heap.size ∨ W.heap.size≤k:=Nat.lt_or_ge _ _
  rcases hlt with hlt | hge
  ·exact hg.block k hlt (fun he=>by injection he with he;omega)
  ·exact qBi seg _ k (by omega)⟩
 have hrun:(Instr.storeAt t (.pointer (some ⟨g,i.toNat * d.sz,none⟩)) u).run P W=.ok () (W.setCells g (i.toNat * d.sz) seg):=by
  rcases hown.2 with ⟨hv,_⟩ | ⟨g',cap',cur,hv,hb,hh,hnc,hcm,hcs,_⟩
  ·cases hv
  injection hv with ha _ hc
  injection ha with ha
  injection ha with hg'
  subst hg';subst hc
  refine qB4 t u seg hh hu ht ?_ h1
  have h2:i.toNat * d.sz+d.sz≤n * d.sz:=by rw [← Nat.succ_mul];exact Nat.mul_le_mul_right _ hil
  have h3:n * d.sz≤cap * d.sz:=Nat.mul_le_mul_right _ (by omega)
  omega
 refine qCH hw hN (w1:=W.setCells g (i.toNat * d.sz) seg) ?_ (h _ hrow hB hg)
 unfold execOp
 simp only [ho,haddr,hx,Sem.run_bind,Sem.run_pure,Result.andThen_ok,hrun]
end
def mb.FrS (w w':World):Prop:=w.heap.size≤w'.heap.size∧∀ (k:Nat) (cs:Array Value),w.heap[k]?=some (.cells cs 87 (0,0))→w'.heap[k]?=some (.cells cs 87 (0,0))
theorem mb.FrS.refl (w:World):mb.FrS w w:=⟨Nat.le_refl _,fun _ _ h=>h⟩
theorem mb.FrS.trans {w w1 w2:World} (h:mb.FrS w w1) (k:mb.FrS w1 w2):mb.FrS w w2:=⟨Nat.le_trans h.1 k.1,fun i cs hi=>k.2 i cs (h.2 i cs hi)⟩
theorem mb.FrS.qBl {w w1:World} {g:Nat} {cs:Array Value} (h:mb.Fr g w w1) (hg:w.heap[g]?=some (.cells cs 69 (0,0))):mb.FrS w w1 :=
 ⟨h.1,fun k c hk=>(h.2 k (qAX hk) (fun e=>by subst e;rw [hg] at hk;injection hk with hk;injection hk with _ hk;cases hk)).trans hk⟩
theorem mb.FrS.of_below {w w1:World} (h:Below w.heap.size w w1):mb.FrS w w1:=⟨h.size,fun k c hk=>qAL hk h⟩
theorem mb.FrS.grown {w w1:World} {row:Option Nat} (h:w.grownBy w1 row) (ht:∀ b,row=some b→∃ cs t,w.heap[b]?=some (.cells cs t (0,0))∧t ≠ 87):mb.FrS w w1 :=
 ⟨h.size,fun k c hk=>(h.block k (qAX hk) (fun e=>by
  obtain ⟨cs,t,h1,h2⟩:=ht k e.symm
  rw [hk] at h1
  injection h1 with h1
  injection h1 with _ h1
  exact h2 h1.symm)).trans hk⟩
theorem mb.qBC {α β:Type} {d:Kd α} {d1:Kd β} {e e1 base base1:Nat} {W W1:World} {ok ok1:Nat→Prop} {v v1:Value} {xs:List α} {ys:List β} (h0:d.R e W base ok v xs) (h1:d1.R e1 W base1 ok1 v1 ys) (hg:W.grownBy W1 v1.ownBlock) (ht:∀ q ∈ e :: d.E,q ≠ e1):d.R e W1 base ok v xs:=by
 refine Kd.qBd (Kd.qCh (Kd.qBv h0) hg (fun k hk he => ?_)) (fun k hk=>hk.1)
 obtain ⟨_,_,_,q,hq,cells,hc⟩:=hk
 obtain ⟨inner,ho⟩:=Kd.R_own h1
 obtain ⟨cells2,hc2⟩:=qCU ho k he.symm
 rw [hc] at hc2
 injection hc2 with hc2
 injection hc2 with _ hc2
 exact ht q hq hc2
theorem mb.own_t {β:Type} {d1:Kd β} {e1 base1:Nat} {W:World} {ok1:Nat→Prop} {v1:Value} {ys:List β} (h1:d1.R e1 W base1 ok1 v1 ys) (ht:e1 ≠ 87):∀ b,v1.ownBlock=some b→∃ cs t,W.heap[b]?=some (.cells cs t (0,0))∧t ≠ 87:=fun b hb=>by
 obtain ⟨inner,ho⟩:=Kd.R_own h1
 obtain ⟨cells2,hc2⟩:=qCU ho b hb
 exact ⟨cells2,e1,hc2,ht⟩
theorem mb.FrS.setX {w:World} {x j t:Nat} {cs:Array Value} {u:Value} (h:w.heap[x]?=some (.cells cs t (0,0))) (ht:t ≠ 87:=by decide):mb.FrS w (w.setCell ⟨x,j,none⟩ u) :=
 ⟨by simp [World.setCell],fun k c hk=>(Below.heap_setCell w ⟨x,j,none⟩ u k (fun e=>by
  have e:k=x:=e
  subst e
  rw [h] at hk
  injection hk with hk
  injection hk with _ hk
  exact ht hk)).trans hk⟩
set_option maxHeartbeats 8000000 in
theorem mb.function57 {bs:List Int} (hb:Bytes bs) (hl:bs.length≤140737488351232) {w0 W:World} {g:Nat} {B:Option Addr} {cb:Nat} {a c d:Int} {v0 v1 v2:Value} {m0:List S48} {m1:List S52} {m2:List S56} (h:mb.RM w0 W g (fun k=>k ≠ g) B bs.length cb a c d v0 v1 v2 m0 m1 m2) (hC:(Kd.int .u8).C w0 B bs.length bs) (hcb:bs.length≤cb) (hn:m1.length≤1000)
  {p a1 c1 d1 l a2 c2 d2 c3 d3 s a4 c4 d4 a5 c5 d5:Int} {t:ByteArray}
  (q0:mb.numF bs 8 92 a c d=(p,a1,c1,d1)) (q1:mb.numF bs 32 92 a1 c1 d1=(l,a2,c2,d2)) (q2:(if l < p then (mb.flC c2 90,mb.flD c2 d2 a1) else (c2,d2))=(c3,d3)) (q3:mb.numF bs 40 92 a2 c3 d3=(s,a4,c4,d4)) (q4:mb.txtF bs 4000 a4 c4 d4=(t,a5,c5,d5)) :
  Calls Try.prog 57 #[.pointer (some ⟨g,0,none⟩)] W fun en W'=>en=.returned (.tuple #[])∧(∃ v,mb.RM w0 W' g (fun k=>k ≠ g) B bs.length cb a5 c5 d5 v0 v v2 m0 (m1 ++ [⟨p,l,s,t⟩]) m2)∧mb.FrS W W':=by
 have hu69:=Try.underlying69
 have hu52:=Try.underlying52
 have hu27:=Try.underlying27
 have hu24:=Try.underlying24
 have H:=qAA.mk h
 have HN:=qAA.mk hn
 have N0:=qAA.mk (mb.number60 hb hl h hC hcb 8 92 (by omega))
 rw [q0] at N0
 dsimp only at N0
 have N1:=qAA.mk (fun (W1:World) (ok:Nat→Prop) (k:mb.RM w0 W1 g ok B bs.length cb a1 c1 d1 v0 v1 v2 m0 m1 m2)=>mb.number60 hb hl k hC hcb 32 92 (by omega))
 rw [q1] at N1
 dsimp only at N1
 have N3:=qAA.mk (fun (W1:World) (ok:Nat→Prop) (k:mb.RM w0 W1 g ok B bs.length cb a2 c3 d3 v0 v1 v2 m0 m1 m2)=>mb.number60 hb hl k hC hcb 40 92 (by omega))
 rw [q3] at N3
 dsimp only at N3
 have N4:=qAA.mk (fun (W1:World) (ok:Nat→Prop) (k:mb.RM w0 W1 g ok B bs.length cb a4 c4 d4 v0 v1 v2 m0 m1 m2)=>mb.text76 hb hl k hC hcb 4000 (by omega))
 rw [q4] at N4
 dsimp only at N4
 clear hb hl h hC hcb hn q0 q1 q3 q4
 by_cases hlt:l < p
 case pos =>
  rw [if_pos hlt] at q2
  injection q2 with e1 e2
  subst e1;subst e2
  have d1:decide (l < p)=true:=decide_eq_true hlt
  clear hlt
  have tk0:=qAA.mk True.intro
  have tk1:=qAA.mk True.intro
  go_enter Try.func57,Try.ntmps57
  go_wp2_with (first | (go_at_call 60;clear tk0;refine N0.out.mono ?_;rintro e_ w1 ⟨rfl,hr,hf⟩;have H1:=qAA.mk hr;have F1:=qAA.mk (mb.FrS.qBl hf H.out.blk);clear hr hf;have H2:=qAA.mk (H1.out.sharp.below (W1:=w1.alloc (.cells #[.int .i64 p,.int .i64 0,.int .i64 0,.string ⟨#[]⟩] 52)) (qAH (Below.refl _ _) _));have F2:=qAA.mk (F1.out.trans (mb.FrS.of_below (qAH (Below.refl w1.heap.size w1) (.cells #[.int .i64 p,.int .i64 0,.int .i64 0,.string ⟨#[]⟩] 52))));have XB2:=qAA.mk (show (w1.alloc (.cells #[.int .i64 p,.int .i64 0,.int .i64 0,.string ⟨#[]⟩] 52)).heap[w1.heap.size]?=some (.cells #[.int .i64 p,.int .i64 0,.int .i64 0,.string ⟨#[]⟩] 52 (0,0)) from by simpa using heap_alloc_new w1 _);have HGX:=qAA.mk (show g ≠ w1.heap.size from by have:=qAX H1.out.blk;omega);have HGE:=qAA.mk (show w0.heap.size≤w1.heap.size from H1.out.bel.size);have z1:(w1.alloc (.cells #[.int .i64 p,.int .i64 0,.int .i64 0,.string ⟨#[]⟩] 52)).cell? ⟨g,1,none⟩=some (.int .i64 a1):=(qAB H2.out.blk 1).trans rfl) | (go_at_call 60;clear tk1;refine (N1.out _ _ H2.out).mono ?_;rintro e_ w3 ⟨rfl,hr,hf⟩;have H3:=qAA.mk hr;have XB3:=qAA.mk (hf.2 w1.heap.size (qAX XB2.out) HGX.out.symm |>.trans XB2.out);have F3:=qAA.mk (F2.out.trans (mb.FrS.qBl hf H2.out.blk));clear hr hf z1;have H4:=qAA.mk (H3.out.far w1.heap.size 1 (fun k hk=>Nat.ne_of_lt hk.2) HGX.out HGE.out (.int .i64 l));have XB4:=qAA.mk (show (w3.setCell ⟨w1.heap.size,1,none⟩ (.int .i64 l)).heap[w1.heap.size]?=some (.cells #[.int .i64 p,.int .i64 l,.int .i64 0,.string ⟨#[]⟩] 52 (0,0)) from qAx XB3.out 1 _ rfl);have x_:=(qAB XB3.out 1).trans rfl;have xf_:=qAC XB3.out 1;have y0:=(qAB XB4.out 0).trans rfl;have y1:=(qAB XB4.out 1).trans rfl) | (go_at_call 61;refine (mb.qB2 H4.out 90 a1).mono ?_;rintro e_ w5 ⟨rfl,hr,hf⟩;have H5:=qAA.mk hr;have XB5:=qAA.mk (hf.2 w1.heap.size (qAX XB4.out) HGX.out.symm |>.trans XB4.out);have F5:=qAA.mk ((mb.FrS.trans F3.out (mb.FrS.setX XB3.out)).trans (mb.FrS.qBl hf H4.out.blk));clear hr hf x_ xf_ y0 y1) | (go_at_call 60;refine (N3.out _ _ H5.out).mono ?_;rintro e_ w6 ⟨rfl,hr,hf⟩;have H6:=qAA.mk hr;have XB6:=qAA.mk (hf.2 w1.heap.size (qAX XB5.out) HGX.out.symm |>.trans XB5.out);have F6:=qAA.mk (F5.out.trans (mb.FrS.qBl hf H5.out.blk));clear hr hf;have H7:=qAA.mk (H6.out.far w1.heap.size 2 (fun k hk=>Nat.ne_of_lt hk.2) HGX.out HGE.out (.int .i64 s));have XB7:=qAA.mk (show (w6.setCell ⟨w1.heap.size,2,none⟩ (.int .i64 s)).heap[w1.heap.size]?=some (.cells #[.int .i64 p,.int .i64 l,.int .i64 s,.string ⟨#[]⟩] 52 (0,0)) from qAx XB6.out 2 _ rfl);have x_:=(qAB XB6.out 2).trans rfl;have xf_:=qAC XB6.out 2) | (go_at_call 76;refine (N4.out _ _ H7.out).mono ?_;rintro e_ w8 ⟨rfl,hr,hf⟩;have H8:=qAA.mk hr;have XB8:=qAA.mk (hf.2 w1.heap.size (qAX XB7.out) HGX.out.symm |>.trans XB7.out);have F8:=qAA.mk ((mb.FrS.trans F6.out (mb.FrS.setX XB6.out)).trans (mb.FrS.qBl hf H7.out.blk));clear hr hf x_ xf_;have x_:=(qAB XB8.out 3).trans rfl;have xf_:=qAC XB8.out 3))
  have H9:=qAA.mk ((H8.out.far w1.heap.size 3 (fun k hk=>Nat.ne_of_lt hk.2) HGX.out HGE.out (.string t)).weak)
  have XB9:=qAA.mk (show (w8.setCell ⟨w1.heap.size,3,none⟩ (.string t)).heap[w1.heap.size]?=some (.cells #[.int .i64 p,.int .i64 l,.int .i64 s,.string t] 52 (0,0)) from qAx XB8.out 3 _ rfl)
  have F9:=qAA.mk (mb.FrS.trans F8.out (mb.FrS.setX (u:=.string t) (j:=3) XB8.out))
  generalize w8.setCell ⟨w1.heap.size,3,none⟩ (.string t)=w9 at *
  generalize w1.heap.size=gx at *
  refine qAn (n:=13) (S:=fun w'=>w'.cell? ⟨g,5,none⟩=some v1∧w'.cell? ⟨gx,0,none⟩=some (.int .i64 p)∧w'.cell? ⟨gx,1,none⟩=some (.int .i64 l)∧w'.cell? ⟨gx,2,none⟩=some (.int .i64 s)∧w'.cell? ⟨gx,3,none⟩=some (.string t)) (ds:=[8,12]) #[qF,qF,qF,qF,qF,qF,qF,qF,qF,qF,qF,qF,qF] (by kernel_rfl) rfl rfl ⟨(qAB (show w9.drew.heap[g]?=_ from H9.out.blk) 5).trans rfl,(qAB (qAJ XB9.out) 0).trans rfl,(qAB (qAJ XB9.out) 1).trans rfl,(qAB (qAJ XB9.out) 2).trans rfl,(qAB (qAJ XB9.out) 3).trans rfl⟩ (fun hHeld => ?_)
  generalize hwd:w9.drew=wd at hHeld ⊢
  have Hd:=qAA.mk (hwd▸H9.out.below (qAM (Below.refl _ _)))
  have Fd:=qAA.mk (show mb.FrS W wd from hwd▸mb.FrS.trans F9.out (mb.FrS.of_below (qAM (Below.refl _ _))))
  have XBd:=qAA.mk (hwd▸qAJ XB9.out)
  clear hwd H9 F9 XB9
  refine pU 0 28 ?_
  refine pU 1 29 ?_
  refine pU 2 30 ?_
  refine pU 3 31 ?_
  refine pU 4 32 ?_
  refine tK 5 33 hHeld ?_
  refine tK 6 34 hHeld ?_
  refine one_ (i:=7) (N:=some 35) #[qT,qT,qT,qT,qT,qT,qT,qT,qF,qF,qF,qF,qF] rfl rfl (by kernel_rfl) (by decide) (fun K hK => ?_)
  refine qBO (w1 := ?_) (v := ?_) (by rfl) rfl ?_ ?_
  rotate_left 2
  ·go_simp
   constructor
   ·rfl
   ·rfl
  refine hK.out _ _ ⟨(qAB (show (wd.alloc _).heap[g]?=_ from qAK Hd.out.blk _) 5).trans rfl,(qAB (qAK XBd.out _) 0).trans rfl,(qAB (qAK XBd.out _) 1).trans rfl,(qAB (qAK XBd.out _) 2).trans rfl,(qAB (qAK XBd.out _) 3).trans rfl⟩ (fun hHeld => ?_)
  clear hK K
  refine qAi (a' := ?_) ?_ ?_
  rotate_left
  ·show Act.put _ (some 35) _=_
   simp only [Act.put,qs1,qs2,qs3,qAR,qAT]
   rfl
  refine qCD (i:=8) (N:=some 36) #[qT,qT,qT,qT,qT,qT,qT,qT,qT,qF,qF,qF,qF] rfl rfl (by kernel_rfl) (by decide) (fun K hK => ?_)
  refine Kd.qAq k52 (w0:=w0) w0.heap.size (by rfl) (.tmp 33) (.tmp 35) 24 52 (.agg #[.int .i64 0,.int .i64 0,.int .i64 0,.string ⟨#[]⟩]) 40 rfl Try.underlying24 info52 rfl (by decide) (by omega) v1 m1 ⟨p,l,s,t⟩ [.int .i64 p,.int .i64 l,.int .i64 s,.string t] (fun k=>k ≠ g) (fun _=>False) rfl rfl ?aM (fun _ q=>q.elim) ?aN ?aO ?aB ?aS ?aL ?_
  (case aM=>exact k52_mkM _ _ _ _)
  (case aN=>exact fun k hk=>by have:=qAX Hd.out.blk;omega)
  (case aO=>exact Hd.out.r1)
  (case aB=>exact Hd.out.bel)
  (case aS=>exact Hd.out.bel.size)
  (case aL=>have:=HN.out;omega)
  intro v11 w11 hr hbl hg hat
  obtain ⟨A11,c11,e11⟩:=Kd.qAZ hr
  subst e11
  rw [show (m1 ++ [(⟨p,l,s,t⟩:S52)]).length=m1.length+1 from by simp] at hr
  have G11:=qAA.mk (qAg Hd.out.blk hg (Kd.qCF Hd.out.r1 (fun _ hk=>hk)))
  have H11:=qAA.mk (show mb.RM w0 (w11.setCell ⟨g,5,none⟩ (.slice A11 (m1.length+1) c11)) g (fun k=>k ≠ g) B bs.length cb a5 c5 d5 v0 (.slice A11 (m1.length+1) c11) v2 m0 (m1 ++ [⟨p,l,s,t⟩]) m2 from ⟨qAx G11.out 5 _ rfl,Kd.qBL (mb.qBC Hd.out.r0 Hd.out.r1 hg (by decide)) (p:=⟨g,5,none⟩) (fun k hk=>hk) _,Kd.qBL hr (p:=⟨g,5,none⟩) (fun k hk=>hk) _,Kd.qBL (mb.qBC Hd.out.r2 Hd.out.r1 hg (by decide)) (p:=⟨g,5,none⟩) (fun k hk=>hk) _,qAQ hbl Hd.out.ge,Hd.out.ge,fun k hk=>hk⟩)
  have F11:=qAA.mk (Fd.out.trans (mb.FrS.grown hg (mb.own_t Hd.out.r1 (by decide))))
  have s5:=(qAB G11.out 5).trans rfl
  have s5f:=qAC G11.out 5
  clear hr hbl hg hat
  refine hK.out _ _ ?_
  clear hK K
  refine qAi (a' := ?_) ?_ ?_
  rotate_left
  ·show Act.put _ (some 36) _=_
   simp only [Act.put,qs1,qs2,qs3,qAR,qAT]
   rfl
  refine pU 9 37 ?_
  refine pU 10 38 ?_
  refine pU 11 39 ?_
  refine qCD (i:=12) (N:=none) #[qT,qT,qT,qT,qT,qT,qT,qT,qT,qT,qT,qT,qT] rfl rfl (by kernel_rfl) (by decide) (fun K hK => ?_)
  refine qCH (w1 := ?_) (by rfl) rfl ?_ ?_
  rotate_left
  ·go_simp
   rfl
  clear s5 s5f
  have H12:=qAA.mk H11.out
  have F12:=qAA.mk (mb.FrS.trans F11.out (mb.FrS.setX (u:=.slice A11 (m1.length+1) c11) (j:=5) G11.out))
  refine hK.out _ _ ?_
  clear hK K
  refine qA6 (by kernel_rfl) ?_
  first | go_end0 | ((try simp only [Exit.inBlock,Exit.then]);refine bodyPost_ret (results_none rfl _ _ _) rfl ?_)
  exact ⟨rfl,⟨_,H12.out⟩,F12.out⟩
 rw [if_neg hlt] at q2
 injection q2 with e1 e2
 subst e1;subst e2
 have d1:decide (l < p)=false:=decide_eq_false hlt
 clear hlt
 have tk0:=qAA.mk True.intro
 have tk1:=qAA.mk True.intro
 go_enter Try.func57,Try.ntmps57
 go_wp2_with (first | (go_at_call 60;clear tk0;refine N0.out.mono ?_;rintro e_ w1 ⟨rfl,hr,hf⟩;have H1:=qAA.mk hr;have F1:=qAA.mk (mb.FrS.qBl hf H.out.blk);clear hr hf;have H2:=qAA.mk (H1.out.sharp.below (W1:=w1.alloc (.cells #[.int .i64 p,.int .i64 0,.int .i64 0,.string ⟨#[]⟩] 52)) (qAH (Below.refl _ _) _));have F2:=qAA.mk (F1.out.trans (mb.FrS.of_below (qAH (Below.refl w1.heap.size w1) (.cells #[.int .i64 p,.int .i64 0,.int .i64 0,.string ⟨#[]⟩] 52))));have XB2:=qAA.mk (show (w1.alloc (.cells #[.int .i64 p,.int .i64 0,.int .i64 0,.string ⟨#[]⟩] 52)).heap[w1.heap.size]?=some (.cells #[.int .i64 p,.int .i64 0,.int .i64 0,.string ⟨#[]⟩] 52 (0,0)) from by simpa using heap_alloc_new w1 _);have HGX:=qAA.mk (show g ≠ w1.heap.size from by have:=qAX H1.out.blk;omega);have HGE:=qAA.mk (show w0.heap.size≤w1.heap.size from H1.out.bel.size);have z1:(w1.alloc (.cells #[.int .i64 p,.int .i64 0,.int .i64 0,.string ⟨#[]⟩] 52)).cell? ⟨g,1,none⟩=some (.int .i64 a1):=(qAB H2.out.blk 1).trans rfl) | (go_at_call 60;clear tk1;refine (N1.out _ _ H2.out).mono ?_;rintro e_ w3 ⟨rfl,hr,hf⟩;have H3:=qAA.mk hr;have XB3:=qAA.mk (hf.2 w1.heap.size (qAX XB2.out) HGX.out.symm |>.trans XB2.out);have F3:=qAA.mk (F2.out.trans (mb.FrS.qBl hf H2.out.blk));clear hr hf z1;have H4:=qAA.mk (H3.out.far w1.heap.size 1 (fun k hk=>Nat.ne_of_lt hk.2) HGX.out HGE.out (.int .i64 l));have XB4:=qAA.mk (show (w3.setCell ⟨w1.heap.size,1,none⟩ (.int .i64 l)).heap[w1.heap.size]?=some (.cells #[.int .i64 p,.int .i64 l,.int .i64 0,.string ⟨#[]⟩] 52 (0,0)) from qAx XB3.out 1 _ rfl);have x_:=(qAB XB3.out 1).trans rfl;have xf_:=qAC XB3.out 1;have y0:=(qAB XB4.out 0).trans rfl;have y1:=(qAB XB4.out 1).trans rfl;have F4:=qAA.mk (mb.FrS.trans F3.out (mb.FrS.setX (j:=1) (u:=.int .i64 l) XB3.out))) | (go_at_call 60;refine (N3.out _ _ H4.out).mono ?_;rintro e_ w6 ⟨rfl,hr,hf⟩;have H6:=qAA.mk hr;have XB6:=qAA.mk (hf.2 w1.heap.size (qAX XB4.out) HGX.out.symm |>.trans XB4.out);have F6:=qAA.mk (F4.out.trans (mb.FrS.qBl hf H4.out.blk));clear hr hf x_ xf_ y0 y1;have H7:=qAA.mk (H6.out.far w1.heap.size 2 (fun k hk=>Nat.ne_of_lt hk.2) HGX.out HGE.out (.int .i64 s));have XB7:=qAA.mk (show (w6.setCell ⟨w1.heap.size,2,none⟩ (.int .i64 s)).heap[w1.heap.size]?=some (.cells #[.int .i64 p,.int .i64 l,.int .i64 s,.string ⟨#[]⟩] 52 (0,0)) from qAx XB6.out 2 _ rfl);have x_:=(qAB XB6.out 2).trans rfl;have xf_:=qAC XB6.out 2) | (go_at_call 76;refine (N4.out _ _ H7.out).mono ?_;rintro e_ w8 ⟨rfl,hr,hf⟩;have H8:=qAA.mk hr;have XB8:=qAA.mk (hf.2 w1.heap.size (qAX XB7.out) HGX.out.symm |>.trans XB7.out);have F8:=qAA.mk ((mb.FrS.trans F6.out (mb.FrS.setX XB6.out)).trans (mb.FrS.qBl hf H7.out.blk));clear hr hf x_ xf_;have x_:=(qAB XB8.out 3).trans rfl;have xf_:=qAC XB8.out 3))
 have H9:=qAA.mk ((H8.out.far w1.heap.size 3 (fun k hk=>Nat.ne_of_lt hk.2) HGX.out HGE.out (.string t)).weak)
 have XB9:=qAA.mk (show (w8.setCell ⟨w1.heap.size,3,none⟩ (.string t)).heap[w1.heap.size]?=some (.cells #[.int .i64 p,.int .i64 l,.int .i64 s,.string t] 52 (0,0)) from qAx XB8.out 3 _ rfl)
 have F9:=qAA.mk (mb.FrS.trans F8.out (mb.FrS.setX (u:=.string t) (j:=3) XB8.out))
 generalize w8.setCell ⟨w1.heap.size,3,none⟩ (.string t)=w9 at *
 generalize w1.heap.size=gx at *
 refine qAn (n:=13) (S:=fun w'=>w'.cell? ⟨g,5,none⟩=some v1∧w'.cell? ⟨gx,0,none⟩=some (.int .i64 p)∧w'.cell? ⟨gx,1,none⟩=some (.int .i64 l)∧w'.cell? ⟨gx,2,none⟩=some (.int .i64 s)∧w'.cell? ⟨gx,3,none⟩=some (.string t)) (ds:=[8,12]) #[qF,qF,qF,qF,qF,qF,qF,qF,qF,qF,qF,qF,qF] (by kernel_rfl) rfl rfl ⟨(qAB (show w9.drew.heap[g]?=_ from H9.out.blk) 5).trans rfl,(qAB (qAJ XB9.out) 0).trans rfl,(qAB (qAJ XB9.out) 1).trans rfl,(qAB (qAJ XB9.out) 2).trans rfl,(qAB (qAJ XB9.out) 3).trans rfl⟩ (fun hHeld => ?_)
 generalize hwd:w9.drew=wd at hHeld ⊢
 have Hd:=qAA.mk (hwd▸H9.out.below (qAM (Below.refl _ _)))
 have Fd:=qAA.mk (show mb.FrS W wd from hwd▸mb.FrS.trans F9.out (mb.FrS.of_below (qAM (Below.refl _ _))))
 have XBd:=qAA.mk (hwd▸qAJ XB9.out)
 clear hwd H9 F9 XB9
 refine pU 0 28 ?_
 refine pU 1 29 ?_
 refine pU 2 30 ?_
 refine pU 3 31 ?_
 refine pU 4 32 ?_
 refine tK 5 33 hHeld ?_
 refine tK 6 34 hHeld ?_
 refine one_ (i:=7) (N:=some 35) #[qT,qT,qT,qT,qT,qT,qT,qT,qF,qF,qF,qF,qF] rfl rfl (by kernel_rfl) (by decide) (fun K hK => ?_)
 refine qBO (w1 := ?_) (v := ?_) (by rfl) rfl ?_ ?_
 rotate_left 2
 ·go_simp
  constructor
  ·rfl
  ·rfl
 refine hK.out _ _ ⟨(qAB (show (wd.alloc _).heap[g]?=_ from qAK Hd.out.blk _) 5).trans rfl,(qAB (qAK XBd.out _) 0).trans rfl,(qAB (qAK XBd.out _) 1).trans rfl,(qAB (qAK XBd.out _) 2).trans rfl,(qAB (qAK XBd.out _) 3).trans rfl⟩ (fun hHeld => ?_)
 clear hK K
 refine qAi (a' := ?_) ?_ ?_
 rotate_left
 ·show Act.put _ (some 35) _=_
  simp only [Act.put,qs1,qs2,qs3,qAR,qAT]
  rfl
 refine qCD (i:=8) (N:=some 36) #[qT,qT,qT,qT,qT,qT,qT,qT,qT,qF,qF,qF,qF] rfl rfl (by kernel_rfl) (by decide) (fun K hK => ?_)
 refine Kd.qAq k52 (w0:=w0) w0.heap.size (by rfl) (.tmp 33) (.tmp 35) 24 52 (.agg #[.int .i64 0,.int .i64 0,.int .i64 0,.string ⟨#[]⟩]) 40 rfl Try.underlying24 info52 rfl (by decide) (by omega) v1 m1 ⟨p,l,s,t⟩ [.int .i64 p,.int .i64 l,.int .i64 s,.string t] (fun k=>k ≠ g) (fun _=>False) rfl rfl ?aM (fun _ q=>q.elim) ?aN ?aO ?aB ?aS ?aL ?_
 (case aM=>exact k52_mkM _ _ _ _)
 (case aN=>exact fun k hk=>by have:=qAX Hd.out.blk;omega)
 (case aO=>exact Hd.out.r1)
 (case aB=>exact Hd.out.bel)
 (case aS=>exact Hd.out.bel.size)
 (case aL=>have:=HN.out;omega)
 intro v11 w11 hr hbl hg hat
 obtain ⟨A11,c11,e11⟩:=Kd.qAZ hr
 subst e11
 rw [show (m1 ++ [(⟨p,l,s,t⟩:S52)]).length=m1.length+1 from by simp] at hr
 have G11:=qAA.mk (qAg Hd.out.blk hg (Kd.qCF Hd.out.r1 (fun _ hk=>hk)))
 have H11:=qAA.mk (show mb.RM w0 (w11.setCell ⟨g,5,none⟩ (.slice A11 (m1.length+1) c11)) g (fun k=>k ≠ g) B bs.length cb a5 c5 d5 v0 (.slice A11 (m1.length+1) c11) v2 m0 (m1 ++ [⟨p,l,s,t⟩]) m2 from ⟨qAx G11.out 5 _ rfl,Kd.qBL (mb.qBC Hd.out.r0 Hd.out.r1 hg (by decide)) (p:=⟨g,5,none⟩) (fun k hk=>hk) _,Kd.qBL hr (p:=⟨g,5,none⟩) (fun k hk=>hk) _,Kd.qBL (mb.qBC Hd.out.r2 Hd.out.r1 hg (by decide)) (p:=⟨g,5,none⟩) (fun k hk=>hk) _,qAQ hbl Hd.out.ge,Hd.out.ge,fun k hk=>hk⟩)
 have F11:=qAA.mk (Fd.out.trans (mb.FrS.grown hg (mb.own_t Hd.out.r1 (by decide))))
 have s5:=(qAB G11.out 5).trans rfl
 have s5f:=qAC G11.out 5
 clear hr hbl hg hat
 refine hK.out _ _ ?_
 clear hK K
 refine qAi (a' := ?_) ?_ ?_
 rotate_left
 ·show Act.put _ (some 36) _=_
  simp only [Act.put,qs1,qs2,qs3,qAR,qAT]
  rfl
 refine pU 9 37 ?_
 refine pU 10 38 ?_
 refine pU 11 39 ?_
 refine qCD (i:=12) (N:=none) #[qT,qT,qT,qT,qT,qT,qT,qT,qT,qT,qT,qT,qT] rfl rfl (by kernel_rfl) (by decide) (fun K hK => ?_)
 refine qCH (w1 := ?_) (by rfl) rfl ?_ ?_
 rotate_left
 ·go_simp
  rfl
 clear s5 s5f
 have H12:=qAA.mk H11.out
 have F12:=qAA.mk (mb.FrS.trans F11.out (mb.FrS.setX (u:=.slice A11 (m1.length+1) c11) (j:=5) G11.out))
 refine hK.out _ _ ?_
 clear hK K
 refine qA6 (by kernel_rfl) ?_
 first | go_end0 | ((try simp only [Exit.inBlock,Exit.then]);refine bodyPost_ret (results_none rfl _ _ _) rfl ?_)
 exact ⟨rfl,⟨_,H12.out⟩,F12.out⟩
end
end Go.Proofs.Ytmehfnikecmiiaa.X
