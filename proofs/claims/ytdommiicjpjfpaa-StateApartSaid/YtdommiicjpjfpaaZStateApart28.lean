import Derived.Test.YtdommiicjpjfpaaZStateApart3
import Derived.Test.YtdommiicjpjfpaaZStateApart2
import Derived.WalkLawsBesides
import Derived.Laws.Pointers
import Derived.Shelf.Abstract
import Derived.Deep.DeepMust
import Derived.Deep.QuietTactic
import Derived.BigQuiet
import Derived.Defers
import Derived.Recover
import Derived.Test.YtdommiicjpjfpaaZStateApart4
import Derived.Test.YtdommiicjpjfpaaZStateApart6
import Derived.Laws.Rows
import Derived.Test.YtdommiicjpjfpaaZStateApart27
import Derived.Test.YtdommiicjpjfpaaZStateApart11
set_option linter.unusedVariables false
set_option linter.unusedSimpArgs false
namespace Go.Proofs.Ytdommiicjpjfpaa.X
open Go.RowKit Go.Proofs.YtdommiicjpjfpaaW.PrintWords Go.Proofs.YtdommiicjpjfpaaW.PrintLast Go.Proofs.YtdommiicjpjfpaaW.PrintMore Go.Proofs.YtdommiicjpjfpaaW
section
set_option maxHeartbeats 4000000
set_option maxRecDepth 100000
inductive sa.R3 (α:Type):Type
 | ok (x:α) (at_ left:Int):sa.R3 α
 | bad (e p:Int):sa.R3 α
def sa.flt (e p:Int):Ending:=.panicked [{ v:=.iface 102 (.agg #[.int .i64 e,.int .i64 p]),recovered:=false }]
def sa.Fr (g:Nat) (w w':World):Prop:=w.heap.size≤w'.heap.size∧∀ k,k < w.heap.size→k ≠ g→w'.heap[k]?=w.heap[k]?
theorem sa.Fr.refl (g:Nat) (w:World):sa.Fr g w w:=⟨Nat.le_refl _,fun _ _ _=>rfl⟩
theorem sa.Fr.trans {g:Nat} {w w1 w2:World} (h:sa.Fr g w w1) (k:sa.Fr g w1 w2):sa.Fr g w w2:=⟨Nat.le_trans h.1 k.1,fun i hi hne=>(k.2 i (Nat.lt_of_lt_of_le hi h.1) hne).trans (h.2 i hi hne)⟩
theorem sa.Fr.of_below {g:Nat} {w w1:World} (h:Below w.heap.size w w1):sa.Fr g w w1:=⟨h.size,fun i hi _=>h.block i hi⟩
theorem sa.Fr.set (w:World) (g o:Nat) (v:Value):sa.Fr g w (w.setCell ⟨g,o,none⟩ v):=⟨by simp [World.setCell],fun i _ hne=>Below.heap_setCell w ⟨g,o,none⟩ v i hne⟩
def sa.Blk (w:World) (g:Nat) (A:Option Addr) (n c:Nat) (at_ left:Int):Prop:=w.heap[g]?=some (.cells #[.slice A n c,.int .i64 at_,.int .i64 left] 106 (0,0))
theorem sa.Blk.c0 {w:World} {g:Nat} {A:Option Addr} {n c:Nat} {a l:Int} (h:sa.Blk w g A n c a l):w.cell? ⟨g,0,none⟩=some (.slice A n c):=(qAB h 0).trans rfl
theorem sa.Blk.c1 {w:World} {g:Nat} {A:Option Addr} {n c:Nat} {a l:Int} (h:sa.Blk w g A n c a l):w.cell? ⟨g,1,none⟩=some (.int .i64 a):=(qAB h 1).trans rfl
theorem sa.Blk.c2 {w:World} {g:Nat} {A:Option Addr} {n c:Nat} {a l:Int} (h:sa.Blk w g A n c a l):w.cell? ⟨g,2,none⟩=some (.int .i64 l):=(qAB h 2).trans rfl
theorem sa.Blk.fz {w:World} {g:Nat} {A:Option Addr} {n c:Nat} {a l:Int} (h:sa.Blk w g A n c a l) (o:Nat):w.frozen? ⟨g,o,none⟩=false:=qAC h o
theorem sa.Blk.set1 {w:World} {g:Nat} {A:Option Addr} {n c:Nat} {a l:Int} (h:sa.Blk w g A n c a l) (x:Int):sa.Blk (w.setCell ⟨g,1,none⟩ (.int .i64 x)) g A n c x l:=qAz h 1 (.int .i64 x) rfl
theorem sa.Blk.set2 {w:World} {g:Nat} {A:Option Addr} {n c:Nat} {a l:Int} (h:sa.Blk w g A n c a l) (x:Int):sa.Blk (w.setCell ⟨g,2,none⟩ (.int .i64 x)) g A n c a x:=qAz h 2 (.int .i64 x) rfl
theorem sa.Blk.below {w w1:World} {g:Nat} {A:Option Addr} {n c:Nat} {a l:Int} (h:sa.Blk w g A n c a l) (hb:Below w.heap.size w w1):sa.Blk w1 g A n c a l:=qAb h hb
theorem sa.qBA {w w1:World} {g:Nat} {A:Option Addr} {n c:Nat} {a l:Int} {xs:List Int} {A':Option Addr} {n':Nat} (h:(Kd.int .u8).C w A' n' xs) (hB:sa.Blk w g A n c a l) (hF:sa.Fr g w w1):(Kd.int .u8).C w1 A' n' xs:=by
 refine ⟨h.1,h.2.1,fun hp => ?_⟩
 obtain ⟨ad,e,hc⟩:=h.2.2 hp
 refine ⟨ad,e,fun j p hj => ?_⟩
 obtain ⟨cs,h1,h2,h3⟩:=hc j p hj
 refine ⟨cs,h1,h2,fun i u hu => ?_⟩
 have h4:=h3 i u hu
 have hlt:=qs4 w _ h4
 have hne:(ad.add (j * (Kd.int .u8).sz+i)).block ≠ g:=by
  intro e1
  have h5:cs=[.int .u8 p]:=h2
  subst h5
  cases i with
  | succ i=>simp at hu
  | zero =>
   simp at hu
   subst hu
   unfold World.cell? at h4
   rw [e1] at h4
   have hB':w.heap[g]?=some (.cells #[.slice A n c,.int .i64 a,.int .i64 l] 106 (0,0)):=hB
   rw [hB'] at h4
   simp only at h4
   split at h4
   ·cases h4
   ·generalize (ad.add (j * (Kd.int .u8).sz+0)).off=o at h4
    match o,h4 with
    | 0,h4=>simp at h4
    | 1,h4=>simp at h4
    | 2,h4=>simp at h4
    | o+3,h4=>simp at h4
 have h6:=hF.2 _ hlt hne
 rw [← h4]
 simp [World.cell?,h6]
theorem sa.fails1 (e p:Int) (w:World):Calls Try.prog 87 #[.int .i64 e,.int .i64 p] w fun en w'=>en=sa.flt e p∧w'=w:=by
 go_enter Try.func87,Try.ntmps87
 go_wp2
 exact ⟨rfl,rfl,rfl⟩
theorem sa.qBc {w:World} {g:Nat} {A:Option Addr} {m c:Nat} {a l:Int} (hB:sa.Blk w g A m c a l) (n p:Int) (h:n≤l) (hl:l≤2048) (h0:0≤n):Calls Try.prog 88 #[.pointer (some ⟨g,0,none⟩),.int .i64 n,.int .i64 p] w fun e w'=>e=.returned (.tuple #[])∧w'=w.setCell ⟨g,2,none⟩ (.int .i64 (l - n)):=by
 have h2:=hB.c2
 have f2:=hB.fz 2
 have d1:decide (n > l)=false:=decide_eq_false (by omega)
 have d2:decide (l < n)=false:=decide_eq_false (by omega)
 have HN:=qAA.mk (show wrap64 (l - n)=l - n by unfold wrap64;omega)
 clear h hl h0
 go_enter Try.func88,Try.ntmps88
 go_wp2
 go_end0
 exact ⟨rfl,by rw [HN.out]⟩
theorem sa.weighsN {w:World} {g:Nat} {A:Option Addr} {m c:Nat} {a l:Int} (hB:sa.Blk w g A m c a l) (n p:Int) (h:l < n):Calls Try.prog 88 #[.pointer (some ⟨g,0,none⟩),.int .i64 n,.int .i64 p] w fun e w'=>e=sa.flt 42 p∧w'=w:=by
 have h2:=hB.c2
 have d1:decide (n > l)=true:=decide_eq_true h
 have d2:decide (l < n)=true:=decide_eq_true h
 go_enter Try.func88,Try.ntmps88
 go_wp2_with (go_at_call 87;refine (sa.fails1 42 p _).mono ?_;rintro e_ w_ ⟨rfl,rfl⟩;unfold sa.flt)
 exact ⟨rfl,rfl,rfl⟩
structure sa.Uin (bs:List Int) (u i:Int→Int × Int × Int):Prop where
 U:∃ K,∀ a,qAd.f K bs a=some (u a)
 I:∃ K,∀ a,qBy.f K bs a=some (i a)
 R:∀ a,0≤(u a).1∧(u a).1 < 18446744073709551616
 N:∀ a,(u a).2.2=0→0≤a∧a < (u a).2.1∧(u a).2.1≤bs.length
 M:∀ a,(i a).2.2=0→0≤a∧a < (i a).2.1∧(i a).2.1≤bs.length
 V:∀ a, -9223372036854775808≤(i a).1∧(i a).1≤9223372036854775807
 L:bs.length≤140737488351232
 B:∀ x ∈ bs,0≤x∧x≤255
structure sa.Nx (w0 w w':World) (g:Nat) (A:Option Addr) (m c:Nat) (a l:Int):Prop where
 blk:sa.Blk w' g A m c a l
 fr:sa.Fr g w w'
 bel:Below w0.heap.size w0 w'
structure sa.Nb (w0 w w':World) (g:Nat):Prop where
 fr:sa.Fr g w w'
 bel:Below w0.heap.size w0 w'
theorem sa.uint1 {bs:List Int} {m:Nat} {K:Nat} {r1 r2 r3 a:Int} {w:World} {A:Option Addr} {c:Nat} (hK:qAd.f K bs a=some (r1,r2,r3)) (hC:(Kd.int .u8).C w A m bs) (hc:m≤c):Calls Try.prog 40 #[.slice A m c,.int .i64 a] w fun e w'=>e=.returned (.tuple #[.int .u64 r1,.int .i64 r2,.int .i64 r3])∧qAw w w':=by
 obtain rfl:=hC.1
 exact qAd.calls K A c bs a r1 r2 r3 w hC hc hK
theorem sa.int1 {bs:List Int} {m:Nat} {K:Nat} {r1 r2 r3 a:Int} {w:World} {A:Option Addr} {c:Nat} (hK:qBy.f K bs a=some (r1,r2,r3)) (hC:(Kd.int .u8).C w A m bs) (hc:m≤c):Calls Try.prog 89 #[.slice A m c,.int .i64 a] w fun e w'=>e=.returned (.tuple #[.int .i64 r1,.int .i64 r2,.int .i64 r3])∧qAw w w':=by
 obtain rfl:=hC.1
 exact qBy.calls K A c bs a r1 r2 r3 w hC hc hK
theorem sa.numberY {bs:List Int} {u i:Int→Int × Int × Int} (hU:sa.Uin bs u i) {w0 w:World} {g:Nat} {A:Option Addr} {c:Nat} {a l:Int} (hb:Below w0.heap.size w0 w) (hg:w0.heap.size≤g) (hB:sa.Blk w g A bs.length c a l) (hC:(Kd.int .u8).C w A bs.length bs) (hc:bs.length≤c) (he:(u a).2.2=0) :
  Calls Try.prog 99 #[.pointer (some ⟨g,0,none⟩)] w fun e w'=>e=.returned (.tuple #[.int .u64 (u a).1,.int .i64 a])∧sa.Nx w0 w w' g A bs.length c (u a).2.1 l:=by
 obtain ⟨K,hK⟩:=hU.U
 have HK:=qAA.mk (hK a)
 have HB:=qAA.mk hB
 have HC:=qAA.mk hC
 have HCC:=qAA.mk hc
 have HBB:=qAA.mk hb
 have h0:=hB.c0
 have h1:=hB.c1
 have f1:=hB.fz 1
 have d1:((u a).2.2 != 0)=false:=by rw [he];rfl
 have d2:((u a).2.2 == 0)=true:=by rw [he];rfl
 obtain ⟨r1,r2,r3,hr⟩:∃ r1 r2 r3,u a=(r1,r2,r3):=⟨_,_,_,rfl⟩
 rw [hr] at he d1 d2 HK ⊢
 dsimp only at he d1 d2 ⊢
 clear hK hr hB hC hc hb hU
 generalize bs.length=m at *
 subst he
 clear d1 d2
 go_enter Try.func99,Try.ntmps99
 go_wp2_with (go_at_call 40;refine (sa.uint1 HK.out HC.out HCC.out).mono ?_;rintro e_ w1 ⟨rfl,hd⟩;have HD:=qAA.mk hd;clear hd h0 h1 f1;have h0:=(HB.out.below HD.out.below).c0;have h1:=(HB.out.below HD.out.below).c1;have f1:=(HB.out.below HD.out.below).fz 1)
 go_ret2
 exact ⟨rfl,(HB.out.below HD.out.below).set1 _,(sa.Fr.of_below HD.out.below).trans (sa.Fr.set _ _ _ _),(qAf HBB.out HBB.out.size HD.out.below).setCell hg _⟩
theorem sa.numberN {bs:List Int} {u i:Int→Int × Int × Int} (hU:sa.Uin bs u i) {w0 w:World} {g:Nat} {A:Option Addr} {c:Nat} {a l:Int} (hb:Below w0.heap.size w0 w) (hg:w0.heap.size≤g) (hB:sa.Blk w g A bs.length c a l) (hC:(Kd.int .u8).C w A bs.length bs) (hc:bs.length≤c) (he:(u a).2.2 ≠ 0) :
  Calls Try.prog 99 #[.pointer (some ⟨g,0,none⟩)] w fun e w'=>e=sa.flt 41 a∧sa.Nb w0 w w' g:=by
 obtain ⟨K,hK⟩:=hU.U
 have HK:=qAA.mk (hK a)
 have HB:=qAA.mk hB
 have HC:=qAA.mk hC
 have HCC:=qAA.mk hc
 have HBB:=qAA.mk hb
 have h0:=hB.c0
 have h1:=hB.c1
 have f1:=hB.fz 1
 obtain ⟨r1,r2,r3,hr⟩:∃ r1 r2 r3,u a=(r1,r2,r3):=⟨_,_,_,rfl⟩
 rw [hr] at he HK
 dsimp only at he
 have d1:(r3 != 0)=true:=bne_iff_ne.2 he
 have d2:(r3 == 0)=false:=beq_eq_false_iff_ne.2 he
 have d3:decide (r3=0)=false:=decide_eq_false he
 clear hK hr hB hC hc hb hU he
 generalize bs.length=m at *
 go_enter Try.func99,Try.ntmps99
 go_wp2_with (first | (go_at_call 40;refine (sa.uint1 HK.out HC.out HCC.out).mono ?_;rintro e_ w1 ⟨rfl,hd⟩;have HD:=qAA.mk hd;clear hd h0 h1 f1;have h0:=(HB.out.below HD.out.below).c0;have h1:=(HB.out.below HD.out.below).c1;have f1:=(HB.out.below HD.out.below).fz 1) | (go_at_call 87;refine (sa.fails1 41 a _).mono ?_;rintro e_ w_ ⟨rfl,rfl⟩;unfold sa.flt))
 exact ⟨rfl,rfl,sa.Fr.of_below HD.out.below,qAf HBB.out HBB.out.size HD.out.below⟩
theorem sa.countY {bs:List Int} {u i:Int→Int × Int × Int} (hU:sa.Uin bs u i) {w0 w:World} {g:Nat} {A:Option Addr} {c:Nat} {a l:Int} (hb:Below w0.heap.size w0 w) (hg:w0.heap.size≤g) (hB:sa.Blk w g A bs.length c a l) (hC:(Kd.int .u8).C w A bs.length bs) (hc:bs.length≤c) (tag each:Int) (he:(u a).2.2=0) (h1e:1≤each) (h2e:each≤2) (hl0:0≤l) (hl1:l≤2048) (hn:(u a).1≤l / each) :
  Calls Try.prog 90 #[.pointer (some ⟨g,0,none⟩),.int .i64 tag,.int .u64 each] w fun e w'=>e=.returned (.int .i64 (u a).1)∧sa.Nx w0 w w' g A bs.length c (u a).2.1 l:=by
 have HN:=qAA.mk (sa.numberY hU hb hg hB hC hc he)
 have hr0:=(hU.R a).1
 clear hU hb hg hB hC hc he
 generalize bs.length=m at *
 obtain ⟨r1,r2,r3,hr⟩:∃ r1 r2 r3,u a=(r1,r2,r3):=⟨_,_,_,rfl⟩
 rw [hr] at HN hr0 hn ⊢
 dsimp only at HN hr0 hn ⊢
 clear hr
 have h2k:r1≤2048:=by
  have:l / each≤2048:=Int.le_trans (Int.ediv_le_self _ hl0) hl1
  omega
 have d1:decide (r1 > l / each)=false:=decide_eq_false (by omega)
 have d2:decide (l / each < r1)=false:=decide_eq_false (by omega)
 have d3:(each=0)=False:=eq_false (by omega)
 have d4:(each == 0)=false:=beq_eq_false_iff_ne.2 (by omega)
 clear hn
 go_enter Try.func90,Try.ntmps90
 go_wp2_with (go_at_call 99;refine HN.out.mono ?_;rintro e_ w1 ⟨rfl,hx⟩;have HX:=qAA.mk hx;have h2:=hx.blk.c2;clear hx)
 go_ret
 exact ⟨rfl,HX.out⟩
theorem sa.countE {bs:List Int} {u i:Int→Int × Int × Int} (hU:sa.Uin bs u i) {w0 w:World} {g:Nat} {A:Option Addr} {c:Nat} {a l:Int} (hb:Below w0.heap.size w0 w) (hg:w0.heap.size≤g) (hB:sa.Blk w g A bs.length c a l) (hC:(Kd.int .u8).C w A bs.length bs) (hc:bs.length≤c) (tag each:Int) (he:(u a).2.2 ≠ 0) :
  Calls Try.prog 90 #[.pointer (some ⟨g,0,none⟩),.int .i64 tag,.int .u64 each] w fun e w'=>e=sa.flt 41 a∧sa.Nb w0 w w' g:=by
 have HN:=qAA.mk (sa.numberN hU hb hg hB hC hc he)
 clear hU hb hg hB hC hc he
 go_enter Try.func90,Try.ntmps90
 go_wp2_with (go_at_call 99;refine HN.out.mono ?_;rintro e_ w1 ⟨rfl,hx⟩;have HX:=qAA.mk hx;clear hx;unfold sa.flt)
 exact ⟨rfl,rfl,HX.out⟩
theorem sa.countN {bs:List Int} {u i:Int→Int × Int × Int} (hU:sa.Uin bs u i) {w0 w:World} {g:Nat} {A:Option Addr} {c:Nat} {a l:Int} (hb:Below w0.heap.size w0 w) (hg:w0.heap.size≤g) (hB:sa.Blk w g A bs.length c a l) (hC:(Kd.int .u8).C w A bs.length bs) (hc:bs.length≤c) (tag each:Int) (he:(u a).2.2=0) (h1e:1≤each) (h2e:each≤2) (hl0:0≤l) (hl1:l≤2048) (hn:l / each < (u a).1) :
  Calls Try.prog 90 #[.pointer (some ⟨g,0,none⟩),.int .i64 tag,.int .u64 each] w fun e w'=>e=sa.flt 42 tag∧sa.Nb w0 w w' g:=by
 have HN:=qAA.mk (sa.numberY hU hb hg hB hC hc he)
 clear hU hb hg hB hC hc he
 generalize bs.length=m at *
 obtain ⟨r1,r2,r3,hr⟩:∃ r1 r2 r3,u a=(r1,r2,r3):=⟨_,_,_,rfl⟩
 rw [hr] at HN hn
 dsimp only at HN hn
 clear hr
 have d1:decide (r1 > l / each)=true:=decide_eq_true (by omega)
 have d2:decide (l / each < r1)=true:=decide_eq_true (by omega)
 have d3:(each=0)=False:=eq_false (by omega)
 have d4:(each == 0)=false:=beq_eq_false_iff_ne.2 (by omega)
 clear hn
 go_enter Try.func90,Try.ntmps90
 go_wp2_with (first | (go_at_call 99;refine HN.out.mono ?_;rintro e_ w1 ⟨rfl,hx⟩;have HX:=qAA.mk hx;have h2:=hx.blk.c2;clear hx) | (go_at_call 87;refine (sa.fails1 42 tag _).mono ?_;rintro e_ w_ ⟨rfl,rfl⟩;unfold sa.flt))
 exact ⟨rfl,rfl,HX.out.fr,HX.out.bel⟩
theorem sa.cutN {bs:List Int} {u i:Int→Int × Int × Int} (hU:sa.Uin bs u i) {w0 w:World} {g:Nat} {A:Option Addr} {c:Nat} {a l:Int} (hb:Below w0.heap.size w0 w) (hg:w0.heap.size≤g) (hB:sa.Blk w g A bs.length c a l) (hC:(Kd.int .u8).C w A bs.length bs) (hc:bs.length≤c) (n p:Int) (ha0:0≤a) (ha1:a≤bs.length) (hL:bs.length≤140737488351232) (hn:(bs.length:Int) - a < n) :
  Calls Try.prog 91 #[.pointer (some ⟨g,0,none⟩),.int .i64 n,.int .i64 p] w fun e w'=>e=sa.flt 41 p∧sa.Nb w0 w w' g:=by
 have HBB:=qAA.mk hb
 have h0:=hB.c0
 have h1:=hB.c1
 clear hU hb hg hB hC hc
 generalize bs.length=m at *
 have d1:decide (n > (m:Int) - a)=true:=decide_eq_true (by omega)
 have d2:decide ((m:Int) - a < n)=true:=decide_eq_true (by omega)
 have hm0:(m:Int)≤140737488351232:=by omega
 clear hn hL
 go_enter Try.func91,Try.ntmps91
 go_wp2
 go_quiet (fail)
 go_wp2_with (go_at_call 87;refine (sa.fails1 41 p _).mono ?_;rintro e_ w_ ⟨rfl,rfl⟩;unfold sa.flt)
 exact ⟨rfl,rfl,sa.Fr.of_below (qAD (Below.refl _ _) _),qAD HBB.out _⟩
theorem sa.cutY {bs:List Int} {u i:Int→Int × Int × Int} (hU:sa.Uin bs u i) {w0 w:World} {g:Nat} {A:Option Addr} {c:Nat} {a l:Int} (hb:Below w0.heap.size w0 w) (hg:w0.heap.size≤g) (hB:sa.Blk w g A bs.length c a l) (hC:(Kd.int .u8).C w A bs.length bs) (hc:bs.length≤c) (n p:Int) (ha0:0≤a) (ha1:a≤bs.length) (hL:bs.length≤140737488351232) (hn0:0≤n) (hn:n≤(bs.length:Int) - a) :
  Calls Try.prog 91 #[.pointer (some ⟨g,0,none⟩),.int .i64 n,.int .i64 p] w fun e w'=>e=.returned (.string (strOfNums ((bs.drop a.toNat).take n.toNat)))∧sa.Nx w0 w w' g A bs.length c (a+n) l:=by
 obtain ⟨a,rfl⟩:=Int.eq_ofNat_of_zero_le ha0
 obtain ⟨n,rfl⟩:=Int.eq_ofNat_of_zero_le hn0
 rw [Int.toNat_natCast,Int.toNat_natCast]
 have HBB:=qAA.mk hb
 have HB:=qAA.mk hB
 have h0:=hB.c0
 have h1:=hB.c1
 have f1:=hB.fz 1
 have h0':(w.setCell ⟨g,1,none⟩ (.int .i64 ((a:Int)+(n:Int)))).cell? ⟨g,0,none⟩=some (.slice A bs.length c):=(hB.set1 ((a:Int)+(n:Int))).c0
 have h1':(w.setCell ⟨g,1,none⟩ (.int .i64 ((a:Int)+(n:Int)))).cell? ⟨g,1,none⟩=some (.int .i64 ((a:Int)+(n:Int))):=(hB.set1 ((a:Int)+(n:Int))).c1
 have hC2:=sa.qBA hC hB (sa.Fr.set w g 1 (.int .i64 ((a:Int)+(n:Int))))
 obtain ⟨i0,hi0,_,hsz0,_⟩:=info_parts info5
 have hcm:=cut_mid (P:=Try.prog) 44 5 .i64 .i64 Try.underlying44 hi0 1 hsz0 A bs.length c (a:Int) ((a:Int)+(n:Int)) (by omega) (by omega) (by omega) hc
 rw [Int.toNat_natCast,show ((a:Int)+(n:Int)).toNat - a=n by omega] at hcm
 have hlen:((bs.drop a).take n).length=n:=by rw [List.length_take,List.length_drop];omega
 have hC3:=Kd.C_take (m:=n) (Kd.C_drop (m:=a) hC2 (by omega) hc) (by rw [List.length_drop];omega)
 rw [hlen] at hC3
 have hC3':(Kd.int .u8).C (w.setCell ⟨g,1,none⟩ (.int .i64 ((a:Int)+(n:Int)))) (if c=a then A else A.map (·.add (a * 1))) n ((bs.drop a).take n):=hC3
 generalize (if c=a then A else A.map (·.add (a * 1)))=A2 at hcm hC3'
 have hcv:=fun (n1 n_:Nat)=>Kd.qBv (P:=Try.prog) (A:=A2) (c:=c - a) Try.underlying44 Try.underlying5 Try.underlying9 (Kd.qAj (w:=(w.drewN n1).setCell ⟨g,1,none⟩ (.int .i64 ((a:Int)+(n:Int)))) (by rw [hlen];exact Kd.qAj hC3' n1:(Kd.int .u8).C _ A2 ((bs.drop a).take n).length ((bs.drop a).take n)) n_)
 rw [hlen] at hcv
 generalize strOfNums ((bs.drop a).take n)=st at hcv ⊢
 have hm0:(bs.length:Int)≤140737488351232:=by omega
 have d1:decide ((n:Int) > (bs.length:Int) - (a:Int))=false:=decide_eq_false (by omega)
 have d2:decide ((bs.length:Int) - (a:Int) < (n:Int))=false:=decide_eq_false (by omega)
 have ha2:(a:Int)≤(bs.length:Int):=ha1
 have hn2:(n:Int)≤(bs.length:Int) - (a:Int):=hn
 clear hU hb hB hC hC2 hC3 hC3' hlen hi0 hsz0
 generalize bs.length=m at *
 have hw1:IntKind.i64.wrap (a:Int)=(a:Int):=by rw [IntKind.wrap_i64];omega
 have hw2:IntKind.i64.wrap ((a:Int)+(n:Int) - (n:Int))=(a:Int):=by rw [IntKind.wrap_i64];omega
 go_enter Try.func91,Try.ntmps91
 go_wp2
 go_quiet (fail)
 go_wp2
 go_quiet (fail)
 go_wp2
 go_ret
 exact ⟨rfl,((HB.out.below (qAD (Below.refl _ _) _)).set1 _).below (qAD (Below.refl _ _) _),((sa.Fr.of_below (qAD (Below.refl _ _) _)).trans (sa.Fr.set _ _ _ _)).trans (sa.Fr.of_below (qAD (Below.refl _ _) _)),qAD ((qAD HBB.out _).setCell hg _) _⟩
theorem sa.texts_fr {w w1:World} {g:Nat} {A:Option Addr} {n c:Nat} {a l:Int} {xs:List ByteArray} {A':Option Addr} {n':Nat} (h:Kd.string.C w A' n' xs) (hB:sa.Blk w g A n c a l) (hF:sa.Fr g w w1):Kd.string.C w1 A' n' xs:=by
 refine ⟨h.1,h.2.1,fun hp => ?_⟩
 obtain ⟨ad,e,hc⟩:=h.2.2 hp
 refine ⟨ad,e,fun j p hj => ?_⟩
 obtain ⟨cs,h1,h2,h3⟩:=hc j p hj
 refine ⟨cs,h1,h2,fun i u hu => ?_⟩
 have h4:=h3 i u hu
 have hlt:=qs4 w _ h4
 have hne:(ad.add (j * Kd.string.sz+i)).block ≠ g:=by
  intro e1
  have h5:cs=[.string p]:=h2
  subst h5
  cases i with
  | succ i=>simp at hu
  | zero =>
   simp at hu
   subst hu
   unfold World.cell? at h4
   rw [e1] at h4
   have hB':w.heap[g]?=some (.cells #[.slice A n c,.int .i64 a,.int .i64 l] 106 (0,0)):=hB
   rw [hB'] at h4
   simp only at h4
   split at h4
   ·cases h4
   ·generalize (ad.add (j * Kd.string.sz+0)).off=o at h4
    match o,h4 with
    | 0,h4=>simp at h4
    | 1,h4=>simp at h4
    | 2,h4=>simp at h4
    | o+3,h4=>simp at h4
 have h6:=hF.2 _ hlt hne
 rw [← h4]
 simp [World.cell?,h6]
def sa.keyS (bs:List Int) (u:Int→Int × Int × Int) (ks:List ByteArray) (a l:Int):sa.R3 ByteArray :=
 if (u a).2.2 ≠ 0 then .bad 41 a else
 if (u a).1 > 32 then .bad 41 a else
 if (u a).1 > (bs.length:Int) - (u a).2.1 then .bad 41 a else
 let k:=strOfNums ((bs.drop (u a).2.1.toNat).take (u a).1.toNat)
 if 0 < ks.length∧¬ Op.bytesLess (rdOf ByteArray.empty ks ((ks.length:Int) - 1)).toList k.toList=true then .bad 41 a else
 if 1+(k.size:Int) > l then .bad 42 a else .ok k ((u a).2.1+(u a).1) (l - (1+(k.size:Int)))
def sa.Got {α:Type} (r:sa.R3 α) (enc:α→Value) (w0 w:World) (g:Nat) (A:Option Addr) (m c:Nat) (e:Ending) (w':World):Prop :=
 match r with
 | .ok x a' l'=>e=.returned (enc x)∧sa.Nx w0 w w' g A m c a' l'
 | .bad f p=>e=sa.flt f p∧sa.Nb w0 w w' g
theorem sa.qB3 (bs:List Int):(strOfNums bs).size=bs.length:=by simp [strOfNums,ByteArray.size]
theorem sa.key1 {bs:List Int} {u i:Int→Int × Int × Int} (hU:sa.Uin bs u i) {w0 w:World} {g:Nat} {A:Option Addr} {c:Nat} {a l:Int} (hb:Below w0.heap.size w0 w) (hg:w0.heap.size≤g) (hB:sa.Blk w g A bs.length c a l) (hC:(Kd.int .u8).C w A bs.length bs) (hc:bs.length≤c) (KA:Option Addr) (kc:Nat) (ks:List ByteArray) (hK:Kd.string.C w KA ks.length ks) (hl0:0≤l) (hl1:l≤2048) (hkc:ks.length≤kc) (hkl:ks.length≤4096) :
  Calls Try.prog 92 #[.pointer (some ⟨g,0,none⟩),.slice KA ks.length kc] w (sa.Got (sa.keyS bs u ks a l) (fun k=>.string k) w0 w g A bs.length c):=by
 unfold sa.keyS
 by_cases he:(u a).2.2 ≠ 0
 ·rw [if_pos he]
  have HN:=qAA.mk (sa.numberN hU hb hg hB hC hc he)
  clear hU hb hg hB hC hc he hK
  go_enter Try.func92,Try.ntmps92
  go_wp2_with (go_at_call 99;refine HN.out.mono ?_;rintro e_ w1 ⟨rfl,hx⟩;have HX:=qAA.mk hx;clear hx;unfold sa.flt)
  exact ⟨rfl,rfl,HX.out⟩
 rw [if_neg he]
 have he0:(u a).2.2=0:=Classical.byContradiction he
 have HN:=qAA.mk (sa.numberY hU hb hg hB hC hc he0)
 have hr0:=hU.R a
 have hrN:=hU.N a he0
 have HUL:=qAA.mk hU.L
 have HUU:=qAA.mk hU
 clear hU he he0
 obtain ⟨r1,r2,r3,hr⟩:∃ r1 r2 r3,u a=(r1,r2,r3):=⟨_,_,_,rfl⟩
 rw [hr] at HN hr0 hrN ⊢
 dsimp only at HN hr0 hrN ⊢
 clear hr
 by_cases h1:r1 > 32
 ·rw [if_pos h1]
  have d1:decide (r1 > 32)=true:=decide_eq_true h1
  have d2:decide (32 < r1)=true:=decide_eq_true h1
  clear hb hg hB hC hc hK h1
  go_enter Try.func92,Try.ntmps92
  go_wp2_with (first | (go_at_call 99;refine HN.out.mono ?_;rintro e_ w1 ⟨rfl,hx⟩;have HX:=qAA.mk hx;clear hx) | (go_at_call 87;refine (sa.fails1 41 a _).mono ?_;rintro e_ w_ ⟨rfl,rfl⟩;unfold sa.flt))
  exact ⟨rfl,rfl,HX.out.fr,HX.out.bel⟩
 rw [if_neg h1]
 have d1:decide (r1 > 32)=false:=decide_eq_false h1
 have d2:decide (32 < r1)=false:=decide_eq_false (by omega)
 have hcv:IntKind.i64.wrap r1=r1:=by rw [IntKind.wrap_i64];omega
 have HB:=qAA.mk hB
 have HC:=qAA.mk hC
 have HCC:=qAA.mk hc
 have HGG:=qAA.mk hg
 have HBB:=qAA.mk hb
 have HK:=qAA.mk hK
 have HKL:=qAA.mk hkl
 have HL1:=qAA.mk hl1
 have HR0:=qAA.mk hr0.1
 have HR2:=qAA.mk (show 0≤r2∧r2≤bs.length by omega)
 clear hb hg hB hC hc hK hrN hl1
 by_cases h2:r1 > (bs.length:Int) - r2
 ·rw [if_pos h2]
  have HCUT:=qAA.mk (show (bs.length:Int) - r2 < r1 from h2)
  clear h2 hr0
  go_enter Try.func92,Try.ntmps92
  go_wp2_with (first | (go_at_call 99;refine HN.out.mono ?_;rintro e_ w1 ⟨rfl,hx⟩;have HX:=qAA.mk hx;clear hx) | (go_at_call 91;refine (sa.cutN HUU.out HX.out.bel HGG.out HX.out.blk (sa.qBA HC.out HB.out HX.out.fr) HCC.out r1 a HR2.out.1 HR2.out.2 HUL.out HCUT.out).mono ?_;rintro e_ w2 ⟨rfl,hx⟩;have HX2:=qAA.mk hx;clear hx;unfold sa.flt))
  exact ⟨rfl,rfl,HX.out.fr.trans HX2.out.fr,HX2.out.bel⟩
 rw [if_neg h2]
 have HCUT:=qAA.mk (show r1≤(bs.length:Int) - r2 by omega)
 obtain ⟨k,hk⟩:∃ k,strOfNums ((bs.drop r2.toNat).take r1.toNat)=k:=⟨_,rfl⟩
 have hks:k.size≤32:=by rw [← hk,sa.qB3,List.length_take];omega
 have HST:=qAA.mk hk
 rw [hk]
 clear h2 hk hr0
 have hs0:wrap64 (1+(k.size:Int))=1+(k.size:Int):=by unfold wrap64;omega
 by_cases hn:0 < ks.length
 ·obtain ⟨q,hq⟩:∃ q,ks.length=q+1:=⟨ks.length - 1,by omega⟩
  have HQ:=qAA.mk hq
  have n0:(ks.length:Int) - 1=(q:Int):=by omega
  rw [n0]
  obtain ⟨last,hlast⟩:∃ s,rdOf ByteArray.empty ks (q:Int)=s:=⟨_,rfl⟩
  rw [hlast]
  have HLAST:=qAA.mk hlast
  have hq2:q≤4096:=by omega
  clear hlast n0
  by_cases hlt:Op.bytesLess last.toList k.toList=true
  ·rw [if_neg (fun h=>h.2 hlt)]
   rw [hq]
   clear hq hn hkc hkl
   by_cases hw:1+(k.size:Int) > l
   ·rw [if_pos hw]
    have HW:=qAA.mk (show l < 1+(k.size:Int) from hw)
    clear hw
    go_enter Try.func92,Try.ntmps92
    go_wp2_with (first | (go_at_call 99;refine HN.out.mono ?_;rintro e_ w1 ⟨rfl,hx⟩;have HX:=qAA.mk hx;clear hx) | (go_at_call 91;refine (sa.cutY HUU.out HX.out.bel HGG.out HX.out.blk (sa.qBA HC.out HB.out HX.out.fr) HCC.out r1 a HR2.out.1 HR2.out.2 HUL.out HR0.out HCUT.out).mono ?_;rw [HST.out];rintro e_ w2 ⟨rfl,hx⟩;have HX2:=qAA.mk hx;clear hx;obtain ⟨adK,eK,hx_⟩:=Kd.qA9 (sa.texts_fr (sa.texts_fr HK.out HB.out HX.out.fr) HX.out.blk HX2.out.fr) (q:Int) (by omega) (by have:=HQ.out;omega);cases eK;rw [Int.toNat_natCast,HLAST.out] at hx_;have hx:=hx_;clear hx_) | (go_at_call 88;refine (sa.weighsN HX2.out.blk (1+(k.size:Int)) a HW.out).mono ?_;rintro e_ w3 ⟨rfl,hx⟩;have HX3:=qAA.mk hx;clear hx;unfold sa.flt))
    exact ⟨rfl,rfl,HX3.out▸HX.out.fr.trans HX2.out.fr,HX3.out▸HX2.out.bel⟩
   ·rw [if_neg hw]
    have HW:=qAA.mk (show 1+(k.size:Int)≤l by omega)
    clear hw
    go_enter Try.func92,Try.ntmps92
    go_wp2_with (first | (go_at_call 99;refine HN.out.mono ?_;rintro e_ w1 ⟨rfl,hx⟩;have HX:=qAA.mk hx;clear hx) | (go_at_call 91;refine (sa.cutY HUU.out HX.out.bel HGG.out HX.out.blk (sa.qBA HC.out HB.out HX.out.fr) HCC.out r1 a HR2.out.1 HR2.out.2 HUL.out HR0.out HCUT.out).mono ?_;rw [HST.out];rintro e_ w2 ⟨rfl,hx⟩;have HX2:=qAA.mk hx;clear hx;obtain ⟨adK,eK,hx_⟩:=Kd.qA9 (sa.texts_fr (sa.texts_fr HK.out HB.out HX.out.fr) HX.out.blk HX2.out.fr) (q:Int) (by omega) (by have:=HQ.out;omega);cases eK;rw [Int.toNat_natCast,HLAST.out] at hx_;have hx:=hx_;clear hx_) | (go_at_call 88;refine (sa.qBc HX2.out.blk (1+(k.size:Int)) a HW.out HL1.out (by omega)).mono ?_;rintro e_ w3 ⟨rfl,hx⟩;have HX3:=qAA.mk hx;clear hx))
    go_ret
    exact ⟨rfl,HX3.out▸HX2.out.blk.set2 _,HX3.out▸(HX.out.fr.trans (HX2.out.fr.trans (sa.Fr.set _ _ _ _))),HX3.out▸HX2.out.bel.setCell HGG.out _⟩
  ·rw [if_pos ⟨hn,hlt⟩]
   have hlf:Op.bytesLess last.toList k.toList=false:=by simpa using hlt
   rw [hq]
   clear hlt hn hq hkc hkl
   go_enter Try.func92,Try.ntmps92
   go_wp2_with (first | (go_at_call 99;refine HN.out.mono ?_;rintro e_ w1 ⟨rfl,hx⟩;have HX:=qAA.mk hx;clear hx) | (go_at_call 91;refine (sa.cutY HUU.out HX.out.bel HGG.out HX.out.blk (sa.qBA HC.out HB.out HX.out.fr) HCC.out r1 a HR2.out.1 HR2.out.2 HUL.out HR0.out HCUT.out).mono ?_;rw [HST.out];rintro e_ w2 ⟨rfl,hx⟩;have HX2:=qAA.mk hx;clear hx;obtain ⟨adK,eK,hx_⟩:=Kd.qA9 (sa.texts_fr (sa.texts_fr HK.out HB.out HX.out.fr) HX.out.blk HX2.out.fr) (q:Int) (by omega) (by have:=HQ.out;omega);cases eK;rw [Int.toNat_natCast,HLAST.out] at hx_;have hx:=hx_;clear hx_) | (go_at_call 87;refine (sa.fails1 41 a _).mono ?_;rintro e_ w_ ⟨rfl,rfl⟩;unfold sa.flt))
   exact ⟨rfl,rfl,HX.out.fr.trans HX2.out.fr,HX2.out.bel⟩
 ·rw [if_neg (fun h=>hn h.1)]
  have h0:ks.length=0:=by omega
  rw [h0]
  clear hn h0 hkc hkl
  by_cases hw:1+(k.size:Int) > l
  ·rw [if_pos hw]
   have HW:=qAA.mk (show l < 1+(k.size:Int) from hw)
   clear hw
   go_enter Try.func92,Try.ntmps92
   go_wp2_with (first | (go_at_call 99;refine HN.out.mono ?_;rintro e_ w1 ⟨rfl,hx⟩;have HX:=qAA.mk hx;clear hx) | (go_at_call 91;refine (sa.cutY HUU.out HX.out.bel HGG.out HX.out.blk (sa.qBA HC.out HB.out HX.out.fr) HCC.out r1 a HR2.out.1 HR2.out.2 HUL.out HR0.out HCUT.out).mono ?_;rw [HST.out];rintro e_ w2 ⟨rfl,hx⟩;have HX2:=qAA.mk hx;clear hx;skip) | (go_at_call 88;refine (sa.weighsN HX2.out.blk (1+(k.size:Int)) a HW.out).mono ?_;rintro e_ w3 ⟨rfl,hx⟩;have HX3:=qAA.mk hx;clear hx;unfold sa.flt))
   exact ⟨rfl,rfl,HX3.out▸HX.out.fr.trans HX2.out.fr,HX3.out▸HX2.out.bel⟩
  ·rw [if_neg hw]
   have HW:=qAA.mk (show 1+(k.size:Int)≤l by omega)
   clear hw
   go_enter Try.func92,Try.ntmps92
   go_wp2_with (first | (go_at_call 99;refine HN.out.mono ?_;rintro e_ w1 ⟨rfl,hx⟩;have HX:=qAA.mk hx;clear hx) | (go_at_call 91;refine (sa.cutY HUU.out HX.out.bel HGG.out HX.out.blk (sa.qBA HC.out HB.out HX.out.fr) HCC.out r1 a HR2.out.1 HR2.out.2 HUL.out HR0.out HCUT.out).mono ?_;rw [HST.out];rintro e_ w2 ⟨rfl,hx⟩;have HX2:=qAA.mk hx;clear hx;skip) | (go_at_call 88;refine (sa.qBc HX2.out.blk (1+(k.size:Int)) a HW.out HL1.out (by omega)).mono ?_;rintro e_ w3 ⟨rfl,hx⟩;have HX3:=qAA.mk hx;clear hx))
   go_ret
   exact ⟨rfl,HX3.out▸HX2.out.blk.set2 _,HX3.out▸(HX.out.fr.trans (HX2.out.fr.trans (sa.Fr.set _ _ _ _))),HX3.out▸HX2.out.bel.setCell HGG.out _⟩
def sa.qCF (u:Int→Int × Int × Int) (tag each a l:Int):sa.R3 Int :=
 if (u a).2.2 ≠ 0 then .bad 41 a else if l / each < (u a).1 then .bad 42 tag else .ok (u a).1 (u a).2.1 l
def sa.arrL (f:Int→Int→sa.R3 S34):Nat→List S34→Int→Int→sa.R3 (List S34)
 | 0,acc,a,l=>.ok acc a l
 | n+1,acc,a,l=>match f a l with
  | .bad e p=>.bad e p
  | .ok x a1 l1=>sa.arrL f n (acc ++ [x]) a1 l1
def sa.recL (bs:List Int) (u:Int→Int × Int × Int) (f:Int→Int→sa.R3 S34):Nat→List ByteArray→List S34→Int→Int→sa.R3 (List ByteArray × List S34)
 | 0,ks,acc,a,l=>.ok (ks,acc) a l
 | n+1,ks,acc,a,l=>match sa.keyS bs u ks a l with
  | .bad e p=>.bad e p
  | .ok k a1 l1=>match f a1 l1 with
   | .bad e p=>.bad e p
   | .ok x a2 l2=>sa.recL bs u f n (ks ++ [k]) (acc ++ [x]) a2 l2
def sa.valS (bs:List Int) (u i:Int→Int × Int × Int):Nat→Int→Int→sa.R3 S34
 | d,a,l =>
  if a=(bs.length:Int) ∨ rd bs a > 6 then .bad 41 a
  else match d with
   | 0=>.bad 42 a
   | d+1=>if 1 > l then .bad 42 a
    else if rd bs a=1 then .ok ⟨1,0,⟨#[]⟩,[],[]⟩ (a+1) (l - 1)
    else if rd bs a=2 then .ok ⟨1,1,⟨#[]⟩,[],[]⟩ (a+1) (l - 1)
    else if rd bs a=3 then (if (i (a+1)).2.2 ≠ 0 then .bad 41 (a+1) else .ok ⟨2,(i (a+1)).1,⟨#[]⟩,[],[]⟩ (i (a+1)).2.1 (l - 1))
    else if rd bs a=4 then (match sa.qCF u a 1 (a+1) (l - 1) with
     | .bad e p=>.bad e p
     | .ok n a1 l1=>if (bs.length:Int) - a1 < n then .bad 41 (a+1) else .ok ⟨3,0,strOfNums ((bs.drop a1.toNat).take n.toNat),[],[]⟩ (a1+n) (l1 - n))
    else if rd bs a=5 then (match sa.qCF u a 1 (a+1) (l - 1) with
     | .bad e p=>.bad e p
     | .ok n a1 l1=>match sa.arrL (sa.valS bs u i d) n.toNat [] a1 l1 with
      | .bad e p=>.bad e p
      | .ok vs a2 l2=>.ok ⟨4,0,⟨#[]⟩,vs,[]⟩ a2 l2)
    else if rd bs a=6 then (match sa.qCF u a 2 (a+1) (l - 1) with
     | .bad e p=>.bad e p
     | .ok n a1 l1=>match sa.recL bs u (sa.valS bs u i d) n.toNat [] [] a1 l1 with
      | .bad e p=>.bad e p
      | .ok (ks,vs) a2 l2=>.ok ⟨5,0,⟨#[]⟩,vs,ks⟩ a2 l2)
    else .ok ⟨0,0,⟨#[]⟩,[],[]⟩ (a+1) (l - 1)
def sa.GotV (r:sa.R3 S34) (w0 w:World) (g:Nat) (A:Option Addr) (m c:Nat) (e:Ending) (w':World):Prop :=
 match r with
 | .ok x a' l'=>(∃ v3 v4:Value,e=.returned (.agg #[.int .i64 x.f0,.int .i64 x.f1,.string x.f2,v3,v4])∧k34.R 34 w' w0.heap.size (fun k=>w.heap.size≤k) v3 x.f3∧Kd.string.R 9 w' w0.heap.size (fun k=>w.heap.size≤k) v4 x.f4)∧sa.Nx w0 w w' g A m c a' l'
 | .bad f p=>e=sa.flt f p∧sa.Nb w0 w w' g
section
variable {ops:Array Oper} {rest:List Oper} {o:Oper} {a:Act} {Q:Exit→Act→World→Prop}
theorem sa.qBT {W:World} (hgd:o.guard=none) (hN:o.dst=none) (p:Tmp) (x:Operand) (ho:o.op=.store 34 (.tmp p) x) (rb:Nat) (haddr:a.eval (.tmp p)=.pointer (some ⟨rb,0,none⟩)) (v0 v1 v2 v3 v4:Value) (hx:a.eval x=.agg #[v0,v1,v2,v3,v4]) (h1:∀ q ∈ [v0,v1,v2,v3,v4],q.oneCell'=true) (cur:Array Value) (hsz:cur.size=5) (hh:W.heap[rb]?=some (.cells cur 34 (0,0)))
  (h:∀ W1,W1.heap[rb]?=some (.cells #[v0,v1,v2,v3,v4] 34 (0,0))→W.grownBy W1 (some rb)→wpList Try.prog ops Q rest a W1):wpList Try.prog ops Q (o :: rest) a W:=by
 have hu:(Value.agg #[v0,v1,v2,v3,v4]).cells.toList=[v0,v1,v2,v3,v4]:=by simp [Value.cells]
 have hrun:(Instr.storeAt 34 (.pointer (some ⟨rb,0,none⟩)) (.agg #[v0,v1,v2,v3,v4])).run Try.prog W=.ok () (W.setCells rb 0 [v0,v1,v2,v3,v4]) :=
  run_store_run 34 _ [v0,v1,v2,v3,v4] hh hu (by kernel_rfl) (by rw [hsz];simp) h1
 obtain ⟨cur',c1,c2,c3⟩:=qB4 [v0,v1,v2,v3,v4] 0 W cur hh (by rw [hsz];simp)
 have hc:cur'=#[v0,v1,v2,v3,v4]:=by
  apply Array.toList_inj.1
  rw [c3]
  have:cur.toList.drop 5=[]:=List.drop_eq_nil_of_le (by rw [Array.length_toList];omega)
  simp [this]
 subst hc
 obtain ⟨s1,s2,s3,s4⟩:=qBs rb [v0,v1,v2,v3,v4] 0 W
 refine wpList_plain hgd fun K hK => ?_
 unfold Oper.wp execOp
 simp only [ho,haddr,hx,Sem.run_bind,Sem.run_pure,Result.andThen_ok,hrun]
 show K (a.put o.dst undef) _
 rw [hN]
 exact hK a _ (h _ c1 ⟨s1,s2,s3,by omega,fun k hk hne=>qB5 _ _ k (fun e=>hne (by rw [e]))⟩)
end
structure sa.Ly (W:World) (g:Nat) (A:Option Addr) (m c:Nat) (a l:Int) (p:Addr) (b:Int) (rb:Nat) (cs:Array Value):Prop where
 blk:sa.Blk W g A m c a l
 byt:W.cell? p=some (.int .u8 b)
 res:W.heap[rb]?=some (.cells cs 34 (0,0))
theorem sa.Ly.below {W W1:World} {g:Nat} {A:Option Addr} {m c:Nat} {a l:Int} {p:Addr} {b:Int} {rb:Nat} {cs:Array Value} (h:sa.Ly W g A m c a l p b rb cs) (hb:Below W.heap.size W W1):sa.Ly W1 g A m c a l p b rb cs :=
 ⟨h.blk.below hb,(hb.cell (qs4 W _ h.byt)).trans h.byt,qAb h.res hb⟩
theorem sa.Ly.ne {W:World} {g:Nat} {A:Option Addr} {m c:Nat} {a l:Int} {p:Addr} {b:Int} {rb:Nat} {cs:Array Value} (h:sa.Ly W g A m c a l p b rb cs):p.block ≠ g∧rb ≠ g:=by
 constructor
 ·intro e1
  have h4:=h.byt
  unfold World.cell? at h4
  rw [e1] at h4
  have hB':W.heap[g]?=some (.cells #[.slice A m c,.int .i64 a,.int .i64 l] 106 (0,0)):=h.blk
  rw [hB'] at h4
  simp only at h4
  split at h4
  ·cases h4
  ·generalize p.off=o at h4
   match o,h4 with
   | 0,h4=>simp at h4
   | 1,h4=>simp at h4
   | 2,h4=>simp at h4
   | o+3,h4=>simp at h4
 ·rintro rfl
  have hB':W.heap[rb]?=some (.cells #[.slice A m c,.int .i64 a,.int .i64 l] 106 (0,0)):=h.blk
  have:=h.res
  rw [hB'] at this
  injection this with this
  injection this with _ this
  exact absurd this (by decide)
theorem sa.Ly.fr {W W1:World} {g:Nat} {A:Option Addr} {m c:Nat} {a l a' l':Int} {p:Addr} {b:Int} {rb:Nat} {cs:Array Value} (h:sa.Ly W g A m c a l p b rb cs) (hF:sa.Fr g W W1) (hB:sa.Blk W1 g A m c a' l'):sa.Ly W1 g A m c a' l' p b rb cs:=by
 have hlt:=qs4 W _ h.byt
 have h6:=hF.2 _ hlt h.ne.1
 exact ⟨hB,by rw [← h.byt];simp [World.cell?,h6],(hF.2 _ (qAp h.res) h.ne.2).trans h.res⟩
theorem sa.fin_nx {w0 w W W5:World} {g:Nat} {A:Option Addr} {m c:Nat} {a l:Int} {rb:Nat} (hF:sa.Fr g w W) (hB:sa.Blk W g A m c a l) (hne:rb ≠ g) (hG:W.grownBy W5 (some rb)) (hrb:w.heap.size≤rb) (hsz:w0.heap.size≤w.heap.size) (hb:Below w0.heap.size w0 W):sa.Nx w0 w W5 g A m c a l :=
 ⟨(hG.block g (qAp hB) (fun e=>hne (Option.some.inj e).symm)).trans hB,
  ⟨Nat.le_trans hF.1 hG.size,fun k hk hne2=>(hG.block k (Nat.lt_of_lt_of_le hk hF.1) (fun e=>absurd (Option.some.inj e) (by omega))).trans (hF.2 k hk hne2)⟩,
  ⟨hG.os.trans hb.os,hG.tape.trans hb.tape,hG.output.trans hb.output,Nat.le_trans hb.size hG.size,fun k hk=>(hG.block k (by have:=hb.size;omega) (fun e=>absurd (Option.some.inj e) (by omega))).trans (hb.block k hk)⟩⟩
def sa.arrV:sa.R3 (List S34)→sa.R3 S34
 | .bad e p=>.bad e p
 | .ok vs a l=>.ok ⟨4,0,⟨#[]⟩,vs,[]⟩ a l
def sa.recV:sa.R3 (List ByteArray × List S34)→sa.R3 S34
 | .bad e p=>.bad e p
 | .ok (ks,vs) a l=>.ok ⟨5,0,⟨#[]⟩,vs,ks⟩ a l
section
variable {P:Program} {ops:Array Oper} {Q:Exit→Act→World→Prop}
theorem sa.goesT {oi:Oper} {N:Option Tmp} {a:Act} {w:World} {K:Act→World→Prop} {f:FuncId} {fn:Func} {ao:Array Operand} {ts:Array TypeId} (hf:P.funcs[f]?=some fn) (hname:(fn.name == "runtime.NumGoroutine")=false) (hb:fn.body.isSome=true) (args:Array Value)
  (hw:Region.wanted oi (yielded ops a.tmps)=true) (hN:oi.dst=N) (hop:oi.op=.call { callee:=.value (.func f),args:=ao,argTypes:=ts }) (hargs:ao.map a.eval=args)
  (h:Calls P f args w fun e w'=>(∃ v,e=.returned v∧K (a.put N v) w') ∨ (∃ ps,e=.panicked ps∧Q (.panic ps) a w')):if Region.wanted oi (yielded ops a.tmps)=true then Oper.wp P oi a w K Q else K (a.put N undef) w:=by
 have hrun:(execOp a.eval oi).run P w=.ok (.enter f args) w:=by
  have he:=enters_ hf hname hb args w
  unfold execOp
  simp [hop,resolve,Deferred.ofValue,invoke,Act.eval,hargs,he]
 rw [if_pos hw]
 subst hN
 unfold Oper.wp
 rw [hrun,Oper.upon_enter]
 refine h.mono fun e w'' hh => ?_
 rcases hh with ⟨v,rfl,hk⟩ | ⟨ps,rfl,hk⟩
 ·exact hk
 ·exact hk
end
end
end Go.Proofs.Ytdommiicjpjfpaa.X
namespace Go.Proofs.Ytdommiicjpjfpaa.X
open Go.RowKit Go.Proofs.YtdommiicjpjfpaaW.PrintWords Go.Proofs.YtdommiicjpjfpaaW.PrintLast Go.Proofs.YtdommiicjpjfpaaW.PrintMore Go.Proofs.YtdommiicjpjfpaaW
section
set_option maxHeartbeats 4000000
set_option maxRecDepth 100000
theorem sa.val_t1 {bs:List Int} {u i:Int→Int × Int × Int} (hU:sa.Uin bs u i) {w0 w:World} {g:Nat} {A:Option Addr} {c:Nat} {a l:Int} (hb:Below w0.heap.size w0 w) (hg:w0.heap.size≤g) (hB:sa.Blk w g A bs.length c a l) (hC:(Kd.int .u8).C w A bs.length bs) (hc:bs.length≤c) (within:Int) (hw:(within == 8)=false) (ha0:0≤a) (ha1:a < (bs.length:Int)) (hl0:1≤l) (hl1:l≤2048) (ht:rd bs a=1) :
  Calls Try.prog 73 #[.pointer (some ⟨g,0,none⟩),.int .i64 within] w (sa.GotV (.ok ⟨1,0,⟨#[]⟩,[],[]⟩ (a+1) (l - 1)) w0 w g A bs.length c):=by
 have HB:=qAA.mk hB
 have HC:=qAA.mk hC
 have HCC:=qAA.mk hc
 have HBB:=qAA.mk hb
 have HGG:=qAA.mk hg
 have HLL:=qAA.mk hU.L
 have HUU:=qAA.mk hU
 have hgl:g < w.heap.size:=qAp hB
 have hu25:=Try.underlying34
 obtain ⟨a,rfl⟩:=Int.eq_ofNat_of_zero_le ha0
 have t0:((a:Int) == (bs.length:Int))=false:=beq_eq_false_iff_ne.2 (by omega)
 have t1:(a=bs.length)=False:=eq_false (by omega)
 have t2:decide (a=bs.length)=false:=decide_eq_false (by omega)
 have t3:(a:Int) < (bs.length:Int):=ha1
 have t4:a < bs.length:=by omega
 have t5:decide (a < bs.length)=true:=decide_eq_true t4
 have hwr:=qAA.mk (show wrap64 ((a:Int)+1)=(a:Int)+1 by have:=hU.L;unfold wrap64;omega)
 have HL0:=qAA.mk hl0
 have HL1:=qAA.mk hl1
 obtain ⟨ad,hA,hx0⟩:=Kd.qBl hC (a:Int) (by omega) ha1
 subst hA
 rw [Int.toNat_natCast,ht] at hx0
 have HBW:=qAA.mk ((Below.refl w.heap.size w).alloc (Nat.le_refl _) (.cells #[.int .i64 0,.int .i64 0,.string ⟨#[]⟩,.slice none 0 0,.slice none 0 0] 34))
 have L1:=qAA.mk (show sa.Ly (w.alloc (.cells #[.int .i64 0,.int .i64 0,.string ⟨#[]⟩,.slice none 0 0,.slice none 0 0] 34)) g (some ad) bs.length c (a:Int) l (ad.add a) 1 w.heap.size #[.int .i64 0,.int .i64 0,.string ⟨#[]⟩,.slice none 0 0,.slice none 0 0] from ⟨HB.out.below HBW.out,(HBW.out.cell (qs4 w _ hx0)).trans hx0,by simpa using heap_alloc_new w _⟩)
 clear hx0
 have h0:=L1.out.blk.c0;have h1:=L1.out.blk.c1;have h2:=L1.out.blk.c2;have f1:=L1.out.blk.fz 1;have f2:=L1.out.blk.fz 2;have hx0:=L1.out.byt;have fr_:=qAC L1.out.res 0
 have HF4:∀ W4,W4=((w.alloc (.cells #[.int .i64 0,.int .i64 0,.string ⟨#[]⟩,.slice none 0 0,.slice none 0 0] 34)).setCell ⟨g,2,none⟩ (.int .i64 (l - 1))).setCell ⟨g,1,none⟩ (.int .i64 ((a:Int)+1))→sa.Fr g w W4∧Below w0.heap.size w0 W4:=by
  rintro _ rfl
  exact ⟨((sa.Fr.of_below HBW.out).trans (sa.Fr.set _ _ _ _)).trans (sa.Fr.set _ _ _ _),((HBB.out.alloc HBB.out.size _).setCell hg _).setCell hg _⟩
 have HF4:=qAA.mk HF4
 clear hU hb hg hB hC hc ha1 hl0 hl1 ha0 hgl
 generalize bs.length=m at *
 go_enter Try.func73,Try.ntmps73
 go_wp2_with (first | (go_at_call 88;refine (sa.qBc L1.out.blk 1 (a:Int) HL0.out HL1.out (by omega)).mono ?_;rintro e_ w3 ⟨rfl,hx⟩;have L3:=qAA.mk (L1.out.fr (hx▸sa.Fr.set _ _ _ _) (hx▸L1.out.blk.set2 _));have HX3:=qAA.mk hx;clear hx;clear h0 h1 h2 f1 f2 hx0 fr_;have h0:=L3.out.blk.c0;have h1:=L3.out.blk.c1;have h2:=L3.out.blk.c2;have f1:=L3.out.blk.fz 1;have f2:=L3.out.blk.fz 2;have hx0:=L3.out.byt;have fr_:=qAC L3.out.res 0) | ((with_reducible refine qAn (p:=48) rfl ?_);go_must (refine qA0 ?hg (t:=3) (p:=48) (v:=.tmp 46) (w1:=w3.setCell ⟨g,1,none⟩ (.int .i64 (wrap64 ((a:Int)+1)))) ?ho ?hN ?hr ?_);(case ho=>rfl);(case hN=>rfl);(case hg=>rfl);(case hr=>first | (go_simp;done) | (go_simp;rfl));intro w4 e4;rw [hwr.out] at e4;have L4:=qAA.mk (L3.out.fr (e4▸sa.Fr.set _ _ _ _) (e4▸L3.out.blk.set1 _));have HX4:=qAA.mk e4;clear e4;have HFW:=qAA.mk (HF4.out _ (HX4.out.trans (by rw [HX3.out])));clear h0 h1 h2 f1 f2 hx0 fr_;have h0:=L4.out.blk.c0;have h1:=L4.out.blk.c1;have h2:=L4.out.blk.c2;have f1:=L4.out.blk.fz 1;have f2:=L4.out.blk.fz 2;have hx0:=L4.out.byt;have fr_:=qAC L4.out.res 0) | ((with_reducible refine qAn (p:=4) rfl ?_);refine sa.qBT rfl rfl 4 _ rfl w.heap.size rfl (.int .i64 1) (.int .i64 0) (.string ⟨#[]⟩) (.slice none 0 0) (.slice none 0 0) rfl (fun q hq=>by simp at hq;rcases hq with rfl | rfl | rfl | rfl | rfl <;> rfl) _ rfl L4.out.res ?_;intro w5 hres hgr;have HRES:=qAA.mk hres;have HGR:=qAA.mk hgr;clear hgr hres))
 go_wp2
 refine bodyPost_ret (results_cell_row rfl _ _ w.heap.size 34 _ (0,0) _ rfl HRES.out Try.underlying34 rfl (by kernel_rfl)) rfl ?_
 exact ⟨⟨_,_,rfl,Kd.qBn _ _ _ _ _,Kd.qBn _ _ _ _ _⟩,sa.fin_nx HFW.out.1 L4.out.blk L4.out.ne.2 HGR.out (Nat.le_refl _) HBB.out.size HFW.out.2⟩
theorem sa.val_t2 {bs:List Int} {u i:Int→Int × Int × Int} (hU:sa.Uin bs u i) {w0 w:World} {g:Nat} {A:Option Addr} {c:Nat} {a l:Int} (hb:Below w0.heap.size w0 w) (hg:w0.heap.size≤g) (hB:sa.Blk w g A bs.length c a l) (hC:(Kd.int .u8).C w A bs.length bs) (hc:bs.length≤c) (within:Int) (hw:(within == 8)=false) (ha0:0≤a) (ha1:a < (bs.length:Int)) (hl0:1≤l) (hl1:l≤2048) (ht:rd bs a=2) :
  Calls Try.prog 73 #[.pointer (some ⟨g,0,none⟩),.int .i64 within] w (sa.GotV (.ok ⟨1,1,⟨#[]⟩,[],[]⟩ (a+1) (l - 1)) w0 w g A bs.length c):=by
 have HB:=qAA.mk hB
 have HC:=qAA.mk hC
 have HCC:=qAA.mk hc
 have HBB:=qAA.mk hb
 have HGG:=qAA.mk hg
 have HLL:=qAA.mk hU.L
 have HUU:=qAA.mk hU
 have hgl:g < w.heap.size:=qAp hB
 have hu25:=Try.underlying34
 obtain ⟨a,rfl⟩:=Int.eq_ofNat_of_zero_le ha0
 have t0:((a:Int) == (bs.length:Int))=false:=beq_eq_false_iff_ne.2 (by omega)
 have t1:(a=bs.length)=False:=eq_false (by omega)
 have t2:decide (a=bs.length)=false:=decide_eq_false (by omega)
 have t3:(a:Int) < (bs.length:Int):=ha1
 have t4:a < bs.length:=by omega
 have t5:decide (a < bs.length)=true:=decide_eq_true t4
 have hwr:=qAA.mk (show wrap64 ((a:Int)+1)=(a:Int)+1 by have:=hU.L;unfold wrap64;omega)
 have HL0:=qAA.mk hl0
 have HL1:=qAA.mk hl1
 obtain ⟨ad,hA,hx0⟩:=Kd.qBl hC (a:Int) (by omega) ha1
 subst hA
 rw [Int.toNat_natCast,ht] at hx0
 have HBW:=qAA.mk ((Below.refl w.heap.size w).alloc (Nat.le_refl _) (.cells #[.int .i64 0,.int .i64 0,.string ⟨#[]⟩,.slice none 0 0,.slice none 0 0] 34))
 have L1:=qAA.mk (show sa.Ly (w.alloc (.cells #[.int .i64 0,.int .i64 0,.string ⟨#[]⟩,.slice none 0 0,.slice none 0 0] 34)) g (some ad) bs.length c (a:Int) l (ad.add a) 2 w.heap.size #[.int .i64 0,.int .i64 0,.string ⟨#[]⟩,.slice none 0 0,.slice none 0 0] from ⟨HB.out.below HBW.out,(HBW.out.cell (qs4 w _ hx0)).trans hx0,by simpa using heap_alloc_new w _⟩)
 clear hx0
 have h0:=L1.out.blk.c0;have h1:=L1.out.blk.c1;have h2:=L1.out.blk.c2;have f1:=L1.out.blk.fz 1;have f2:=L1.out.blk.fz 2;have hx0:=L1.out.byt;have fr_:=qAC L1.out.res 0
 have HF4:∀ W4,W4=((w.alloc (.cells #[.int .i64 0,.int .i64 0,.string ⟨#[]⟩,.slice none 0 0,.slice none 0 0] 34)).setCell ⟨g,2,none⟩ (.int .i64 (l - 1))).setCell ⟨g,1,none⟩ (.int .i64 ((a:Int)+1))→sa.Fr g w W4∧Below w0.heap.size w0 W4:=by
  rintro _ rfl
  exact ⟨((sa.Fr.of_below HBW.out).trans (sa.Fr.set _ _ _ _)).trans (sa.Fr.set _ _ _ _),((HBB.out.alloc HBB.out.size _).setCell hg _).setCell hg _⟩
 have HF4:=qAA.mk HF4
 clear hU hb hg hB hC hc ha1 hl0 hl1 ha0 hgl
 generalize bs.length=m at *
 go_enter Try.func73,Try.ntmps73
 go_wp2_with (first | (go_at_call 88;refine (sa.qBc L1.out.blk 1 (a:Int) HL0.out HL1.out (by omega)).mono ?_;rintro e_ w3 ⟨rfl,hx⟩;have L3:=qAA.mk (L1.out.fr (hx▸sa.Fr.set _ _ _ _) (hx▸L1.out.blk.set2 _));have HX3:=qAA.mk hx;clear hx;clear h0 h1 h2 f1 f2 hx0 fr_;have h0:=L3.out.blk.c0;have h1:=L3.out.blk.c1;have h2:=L3.out.blk.c2;have f1:=L3.out.blk.fz 1;have f2:=L3.out.blk.fz 2;have hx0:=L3.out.byt;have fr_:=qAC L3.out.res 0) | ((with_reducible refine qAn (p:=48) rfl ?_);go_must (refine qA0 ?hg (t:=3) (p:=48) (v:=.tmp 46) (w1:=w3.setCell ⟨g,1,none⟩ (.int .i64 (wrap64 ((a:Int)+1)))) ?ho ?hN ?hr ?_);(case ho=>rfl);(case hN=>rfl);(case hg=>rfl);(case hr=>first | (go_simp;done) | (go_simp;rfl));intro w4 e4;rw [hwr.out] at e4;have L4:=qAA.mk (L3.out.fr (e4▸sa.Fr.set _ _ _ _) (e4▸L3.out.blk.set1 _));have HX4:=qAA.mk e4;clear e4;have HFW:=qAA.mk (HF4.out _ (HX4.out.trans (by rw [HX3.out])));clear h0 h1 h2 f1 f2 hx0 fr_;have h0:=L4.out.blk.c0;have h1:=L4.out.blk.c1;have h2:=L4.out.blk.c2;have f1:=L4.out.blk.fz 1;have f2:=L4.out.blk.fz 2;have hx0:=L4.out.byt;have fr_:=qAC L4.out.res 0) | ((with_reducible refine qAn (p:=4) rfl ?_);refine sa.qBT rfl rfl 4 _ rfl w.heap.size rfl (.int .i64 1) (.int .i64 1) (.string ⟨#[]⟩) (.slice none 0 0) (.slice none 0 0) rfl (fun q hq=>by simp at hq;rcases hq with rfl | rfl | rfl | rfl | rfl <;> rfl) _ rfl L4.out.res ?_;intro w5 hres hgr;have HRES:=qAA.mk hres;have HGR:=qAA.mk hgr;clear hgr hres))
 go_wp2
 refine bodyPost_ret (results_cell_row rfl _ _ w.heap.size 34 _ (0,0) _ rfl HRES.out Try.underlying34 rfl (by kernel_rfl)) rfl ?_
 exact ⟨⟨_,_,rfl,Kd.qBn _ _ _ _ _,Kd.qBn _ _ _ _ _⟩,sa.fin_nx HFW.out.1 L4.out.blk L4.out.ne.2 HGR.out (Nat.le_refl _) HBB.out.size HFW.out.2⟩
theorem sa.val_t0 {bs:List Int} {u i:Int→Int × Int × Int} (hU:sa.Uin bs u i) {w0 w:World} {g:Nat} {A:Option Addr} {c:Nat} {a l:Int} (hb:Below w0.heap.size w0 w) (hg:w0.heap.size≤g) (hB:sa.Blk w g A bs.length c a l) (hC:(Kd.int .u8).C w A bs.length bs) (hc:bs.length≤c) (within:Int) (hw:(within == 8)=false) (ha0:0≤a) (ha1:a < (bs.length:Int)) (hl0:1≤l) (hl1:l≤2048) (ht:rd bs a=0) :
  Calls Try.prog 73 #[.pointer (some ⟨g,0,none⟩),.int .i64 within] w (sa.GotV (.ok ⟨0,0,⟨#[]⟩,[],[]⟩ (a+1) (l - 1)) w0 w g A bs.length c):=by
 have HB:=qAA.mk hB
 have HC:=qAA.mk hC
 have HCC:=qAA.mk hc
 have HBB:=qAA.mk hb
 have HGG:=qAA.mk hg
 have HLL:=qAA.mk hU.L
 have HUU:=qAA.mk hU
 have hgl:g < w.heap.size:=qAp hB
 have hu25:=Try.underlying34
 obtain ⟨a,rfl⟩:=Int.eq_ofNat_of_zero_le ha0
 have t0:((a:Int) == (bs.length:Int))=false:=beq_eq_false_iff_ne.2 (by omega)
 have t1:(a=bs.length)=False:=eq_false (by omega)
 have t2:decide (a=bs.length)=false:=decide_eq_false (by omega)
 have t3:(a:Int) < (bs.length:Int):=ha1
 have t4:a < bs.length:=by omega
 have t5:decide (a < bs.length)=true:=decide_eq_true t4
 have hwr:=qAA.mk (show wrap64 ((a:Int)+1)=(a:Int)+1 by have:=hU.L;unfold wrap64;omega)
 have HL0:=qAA.mk hl0
 have HL1:=qAA.mk hl1
 obtain ⟨ad,hA,hx0⟩:=Kd.qBl hC (a:Int) (by omega) ha1
 subst hA
 rw [Int.toNat_natCast,ht] at hx0
 have HBW:=qAA.mk ((Below.refl w.heap.size w).alloc (Nat.le_refl _) (.cells #[.int .i64 0,.int .i64 0,.string ⟨#[]⟩,.slice none 0 0,.slice none 0 0] 34))
 have L1:=qAA.mk (show sa.Ly (w.alloc (.cells #[.int .i64 0,.int .i64 0,.string ⟨#[]⟩,.slice none 0 0,.slice none 0 0] 34)) g (some ad) bs.length c (a:Int) l (ad.add a) 0 w.heap.size #[.int .i64 0,.int .i64 0,.string ⟨#[]⟩,.slice none 0 0,.slice none 0 0] from ⟨HB.out.below HBW.out,(HBW.out.cell (qs4 w _ hx0)).trans hx0,by simpa using heap_alloc_new w _⟩)
 clear hx0
 have h0:=L1.out.blk.c0;have h1:=L1.out.blk.c1;have h2:=L1.out.blk.c2;have f1:=L1.out.blk.fz 1;have f2:=L1.out.blk.fz 2;have hx0:=L1.out.byt;have fr_:=qAC L1.out.res 0
 have HF4:∀ W4,W4=((w.alloc (.cells #[.int .i64 0,.int .i64 0,.string ⟨#[]⟩,.slice none 0 0,.slice none 0 0] 34)).setCell ⟨g,2,none⟩ (.int .i64 (l - 1))).setCell ⟨g,1,none⟩ (.int .i64 ((a:Int)+1))→sa.Fr g w W4∧Below w0.heap.size w0 W4:=by
  rintro _ rfl
  exact ⟨((sa.Fr.of_below HBW.out).trans (sa.Fr.set _ _ _ _)).trans (sa.Fr.set _ _ _ _),((HBB.out.alloc HBB.out.size _).setCell hg _).setCell hg _⟩
 have HF4:=qAA.mk HF4
 clear hU hb hg hB hC hc ha1 hl0 hl1 ha0 hgl
 generalize bs.length=m at *
 go_enter Try.func73,Try.ntmps73
 go_wp2_with (first | (go_at_call 88;refine (sa.qBc L1.out.blk 1 (a:Int) HL0.out HL1.out (by omega)).mono ?_;rintro e_ w3 ⟨rfl,hx⟩;have L3:=qAA.mk (L1.out.fr (hx▸sa.Fr.set _ _ _ _) (hx▸L1.out.blk.set2 _));have HX3:=qAA.mk hx;clear hx;clear h0 h1 h2 f1 f2 hx0 fr_;have h0:=L3.out.blk.c0;have h1:=L3.out.blk.c1;have h2:=L3.out.blk.c2;have f1:=L3.out.blk.fz 1;have f2:=L3.out.blk.fz 2;have hx0:=L3.out.byt;have fr_:=qAC L3.out.res 0) | ((with_reducible refine qAn (p:=48) rfl ?_);go_must (refine qA0 ?hg (t:=3) (p:=48) (v:=.tmp 46) (w1:=w3.setCell ⟨g,1,none⟩ (.int .i64 (wrap64 ((a:Int)+1)))) ?ho ?hN ?hr ?_);(case ho=>rfl);(case hN=>rfl);(case hg=>rfl);(case hr=>first | (go_simp;done) | (go_simp;rfl));intro w4 e4;rw [hwr.out] at e4;have L4:=qAA.mk (L3.out.fr (e4▸sa.Fr.set _ _ _ _) (e4▸L3.out.blk.set1 _));have HX4:=qAA.mk e4;clear e4;have HFW:=qAA.mk (HF4.out _ (HX4.out.trans (by rw [HX3.out])));clear h0 h1 h2 f1 f2 hx0 fr_;have h0:=L4.out.blk.c0;have h1:=L4.out.blk.c1;have h2:=L4.out.blk.c2;have f1:=L4.out.blk.fz 1;have f2:=L4.out.blk.fz 2;have hx0:=L4.out.byt;have fr_:=qAC L4.out.res 0) | ((with_reducible refine qAn (p:=4) rfl ?_);refine sa.qBT rfl rfl 4 _ rfl w.heap.size rfl (.int .i64 0) (.int .i64 0) (.string ⟨#[]⟩) (.slice none 0 0) (.slice none 0 0) rfl (fun q hq=>by simp at hq;rcases hq with rfl | rfl | rfl | rfl | rfl <;> rfl) _ rfl L4.out.res ?_;intro w5 hres hgr;have HRES:=qAA.mk hres;have HGR:=qAA.mk hgr;clear hgr hres))
 go_wp2
 refine bodyPost_ret (results_cell_row rfl _ _ w.heap.size 34 _ (0,0) _ rfl HRES.out Try.underlying34 rfl (by kernel_rfl)) rfl ?_
 exact ⟨⟨_,_,rfl,Kd.qBn _ _ _ _ _,Kd.qBn _ _ _ _ _⟩,sa.fin_nx HFW.out.1 L4.out.blk L4.out.ne.2 HGR.out (Nat.le_refl _) HBB.out.size HFW.out.2⟩
theorem sa.val_t3 {bs:List Int} {u i:Int→Int × Int × Int} (hU:sa.Uin bs u i) {w0 w:World} {g:Nat} {A:Option Addr} {c:Nat} {a l:Int} (hb:Below w0.heap.size w0 w) (hg:w0.heap.size≤g) (hB:sa.Blk w g A bs.length c a l) (hC:(Kd.int .u8).C w A bs.length bs) (hc:bs.length≤c) (within:Int) (hw:(within == 8)=false) (ha0:0≤a) (ha1:a < (bs.length:Int)) (hl0:1≤l) (hl1:l≤2048) (ht:rd bs a=3) (he:(i (a+1)).2.2=0) :
  Calls Try.prog 73 #[.pointer (some ⟨g,0,none⟩),.int .i64 within] w (sa.GotV (.ok ⟨2,(i (a+1)).1,⟨#[]⟩,[],[]⟩ (i (a+1)).2.1 (l - 1)) w0 w g A bs.length c):=by
 have HB:=qAA.mk hB
 have HC:=qAA.mk hC
 have HCC:=qAA.mk hc
 have HBB:=qAA.mk hb
 have HGG:=qAA.mk hg
 have HLL:=qAA.mk hU.L
 have HUU:=qAA.mk hU
 have hgl:g < w.heap.size:=qAp hB
 have hu25:=Try.underlying34
 obtain ⟨a,rfl⟩:=Int.eq_ofNat_of_zero_le ha0
 have t0:((a:Int) == (bs.length:Int))=false:=beq_eq_false_iff_ne.2 (by omega)
 have t1:(a=bs.length)=False:=eq_false (by omega)
 have t2:decide (a=bs.length)=false:=decide_eq_false (by omega)
 have t3:(a:Int) < (bs.length:Int):=ha1
 have t4:a < bs.length:=by omega
 have t5:decide (a < bs.length)=true:=decide_eq_true t4
 have hwr:=qAA.mk (show wrap64 ((a:Int)+1)=(a:Int)+1 by have:=hU.L;unfold wrap64;omega)
 have HL0:=qAA.mk hl0
 have HL1:=qAA.mk hl1
 obtain ⟨ad,hA,hx0⟩:=Kd.qBl hC (a:Int) (by omega) ha1
 subst hA
 rw [Int.toNat_natCast,ht] at hx0
 have HBW:=qAA.mk ((Below.refl w.heap.size w).alloc (Nat.le_refl _) (.cells #[.int .i64 0,.int .i64 0,.string ⟨#[]⟩,.slice none 0 0,.slice none 0 0] 34))
 have L1:=qAA.mk (show sa.Ly (w.alloc (.cells #[.int .i64 0,.int .i64 0,.string ⟨#[]⟩,.slice none 0 0,.slice none 0 0] 34)) g (some ad) bs.length c (a:Int) l (ad.add a) 3 w.heap.size #[.int .i64 0,.int .i64 0,.string ⟨#[]⟩,.slice none 0 0,.slice none 0 0] from ⟨HB.out.below HBW.out,(HBW.out.cell (qs4 w _ hx0)).trans hx0,by simpa using heap_alloc_new w _⟩)
 clear hx0
 have h0:=L1.out.blk.c0;have h1:=L1.out.blk.c1;have h2:=L1.out.blk.c2;have f1:=L1.out.blk.fz 1;have f2:=L1.out.blk.fz 2;have hx0:=L1.out.byt;have fr_:=qAC L1.out.res 0
 have HF4:∀ W4,W4=((w.alloc (.cells #[.int .i64 0,.int .i64 0,.string ⟨#[]⟩,.slice none 0 0,.slice none 0 0] 34)).setCell ⟨g,2,none⟩ (.int .i64 (l - 1))).setCell ⟨g,1,none⟩ (.int .i64 ((a:Int)+1))→sa.Fr g w W4∧Below w0.heap.size w0 W4:=by
  rintro _ rfl
  exact ⟨((sa.Fr.of_below HBW.out).trans (sa.Fr.set _ _ _ _)).trans (sa.Fr.set _ _ _ _),((HBB.out.alloc HBB.out.size _).setCell hg _).setCell hg _⟩
 have HF4:=qAA.mk HF4
 obtain ⟨K,hK⟩:=hU.I
 have HK:=qAA.mk (hK ((a:Int)+1))
 obtain ⟨r1,r2,r3,hr⟩:∃ r1 r2 r3,i ((a:Int)+1)=(r1,r2,r3):=⟨_,_,_,rfl⟩
 rw [hr] at he HK ⊢
 dsimp only at he ⊢
 subst he
 clear hK hr
 clear hU hb hg hB hC hc ha1 hl0 hl1 ha0 hgl
 generalize bs.length=m at *
 go_enter Try.func73,Try.ntmps73
 go_wp2_with (first | (go_at_call 88;refine (sa.qBc L1.out.blk 1 (a:Int) HL0.out HL1.out (by omega)).mono ?_;rintro e_ w3 ⟨rfl,hx⟩;have L3:=qAA.mk (L1.out.fr (hx▸sa.Fr.set _ _ _ _) (hx▸L1.out.blk.set2 _));have HX3:=qAA.mk hx;clear hx;clear h0 h1 h2 f1 f2 hx0 fr_;have h0:=L3.out.blk.c0;have h1:=L3.out.blk.c1;have h2:=L3.out.blk.c2;have f1:=L3.out.blk.fz 1;have f2:=L3.out.blk.fz 2;have hx0:=L3.out.byt;have fr_:=qAC L3.out.res 0) | ((with_reducible refine qAn (p:=48) rfl ?_);go_must (refine qA0 ?hg (t:=3) (p:=48) (v:=.tmp 46) (w1:=w3.setCell ⟨g,1,none⟩ (.int .i64 (wrap64 ((a:Int)+1)))) ?ho ?hN ?hr ?_);(case ho=>rfl);(case hN=>rfl);(case hg=>rfl);(case hr=>first | (go_simp;done) | (go_simp;rfl));intro w4 e4;rw [hwr.out] at e4;have L4:=qAA.mk (L3.out.fr (e4▸sa.Fr.set _ _ _ _) (e4▸L3.out.blk.set1 _));have HX4:=qAA.mk e4;clear e4;have HFW:=qAA.mk (HF4.out _ (HX4.out.trans (by rw [HX3.out])));clear h0 h1 h2 f1 f2 hx0 fr_;have h0:=L4.out.blk.c0;have h1:=L4.out.blk.c1;have h2:=L4.out.blk.c2;have f1:=L4.out.blk.fz 1;have f2:=L4.out.blk.fz 2;have hx0:=L4.out.byt;have fr_:=qAC L4.out.res 0))
 clear h0 h1 h2 f1 f2 hx0 fr_
 refine qAy (n:=16) (S:=fun w'=>w'.cell? ⟨g,0,none⟩=some (.slice (some ad) m c)∧w'.cell? ⟨g,1,none⟩=some (.int .i64 ((a:Int)+1))) (ds:=[]) #[qF,qF,qF,qF,qF,qF,qF,qF,qF,qF,qF,qF,qF,qF,qF,qF] (by kernel_rfl) rfl rfl ⟨(L4.out.below (qAX (Below.refl _ _))).blk.c0,(L4.out.below (qAX (Below.refl _ _))).blk.c1⟩ (fun hHeld => ?_)
 generalize hwd:w4.drew=wd at hHeld ⊢
 have Ld:=qAA.mk (hwd▸L4.out.below (qAX (Below.refl _ _)))
 have HFd:=qAA.mk (hwd▸(⟨HFW.out.1.trans (sa.Fr.of_below (qAX (Below.refl _ _))),qAX HFW.out.2⟩:sa.Fr g w w4.drew∧Below w0.heap.size w0 w4.drew))
 clear hwd
 refine qAL (i:=0) (N:=some 65) (v := ?_) (a' := ?_) #[qT,qF,qF,qF,qF,qF,qF,qF,qF,qF,qF,qF,qF,qF,qF,qF] rfl rfl (by kernel_rfl) (fun _ _ _ h=>h) (Or.inl ⟨by rfl, ?_⟩) ?_ ?_
 rotate_left
 ·intro w'
  go_simp
  with_reducible rfl
 rotate_left
 ·simp only [Act.put,qs1,qs2,qs3,qAH,qAI]
  rfl
 refine qAL (i:=1) (N:=some 66) (v := ?_) (a' := ?_) #[qT,qT,qF,qF,qF,qF,qF,qF,qF,qF,qF,qF,qF,qF,qF,qF] rfl rfl (by kernel_rfl) (fun _ _ _ h=>h) (Or.inl ⟨by rfl, ?_⟩) ?_ ?_
 rotate_left
 ·intro w'
  go_simp
  with_reducible rfl
 rotate_left
 ·simp only [Act.put,qs1,qs2,qs3,qAH,qAI]
  rfl
 refine qAL (i:=2) (N:=some 67) (v := ?_) (a' := ?_) #[qT,qT,qT,qF,qF,qF,qF,qF,qF,qF,qF,qF,qF,qF,qF,qF] rfl rfl (by kernel_rfl) (fun _ _ _ h=>h) (Or.inl ⟨by rfl, ?_⟩) ?_ ?_
 rotate_left
 ·intro w'
  go_simp
  with_reducible rfl
 rotate_left
 ·simp only [Act.put,qs1,qs2,qs3,qAH,qAI]
  rfl
 refine qAL (i:=4) (N:=some 69) (v := ?_) (a' := ?_) #[qT,qT,qT,qF,qT,qF,qF,qF,qF,qF,qF,qF,qF,qF,qF,qF] rfl rfl (by kernel_rfl) (fun _ _ _ h=>h) (Or.inl ⟨by rfl, ?_⟩) ?_ ?_
 rotate_left
 ·intro w'
  go_simp
  with_reducible rfl
 rotate_left
 ·simp only [Act.put,qs1,qs2,qs3,qAH,qAI]
  rfl
 refine qAL (i:=5) (N:=some 70) (v := ?_) (a' := ?_) #[qT,qT,qT,qF,qT,qT,qF,qF,qF,qF,qF,qF,qF,qF,qF,qF] rfl rfl (by kernel_rfl) (fun _ _ _ h=>h) (Or.inl ⟨by rfl, ?_⟩) ?_ ?_
 rotate_left
 ·intro w'
  go_simp
  with_reducible rfl
 rotate_left
 ·simp only [Act.put,qs1,qs2,qs3,qAH,qAI]
  rfl
 refine qAL (i:=6) (N:=some 71) (v := ?_) (a' := ?_) #[qT,qT,qT,qF,qT,qT,qT,qF,qF,qF,qF,qF,qF,qF,qF,qF] rfl rfl (by kernel_rfl) (fun _ _ _ h=>h) (Or.inl ⟨by rfl, ?_⟩) ?_ ?_
 rotate_left
 ·intro w'
  go_simp
  with_reducible rfl
 rotate_left
 ·simp only [Act.put,qs1,qs2,qs3,qAH,qAI]
  rfl
 refine qAt (i:=3) (N:=some 68) (v := ?_) (a' := ?_) #[qT,qT,qT,qT,qT,qT,qT,qF,qF,qF,qF,qF,qF,qF,qF,qF] rfl rfl (by kernel_rfl) (fun _ _ _ h=>h) (Or.inl ⟨by rfl, ?_⟩) hHeld ?_ ?_
 rotate_left
 ·rintro w' ⟨s0,s1⟩
  go_simp
  with_reducible rfl
 rotate_left
 ·simp only [Act.put,qs1,qs2,qs3,qAH,qAI]
  rfl
 refine qAt (i:=7) (N:=some 72) (v := ?_) (a' := ?_) #[qT,qT,qT,qT,qT,qT,qT,qT,qF,qF,qF,qF,qF,qF,qF,qF] rfl rfl (by kernel_rfl) (fun _ _ _ h=>h) (Or.inl ⟨by rfl, ?_⟩) hHeld ?_ ?_
 rotate_left
 ·rintro w' ⟨s0,s1⟩
  go_simp
  with_reducible rfl
 rotate_left
 ·simp only [Act.put,qs1,qs2,qs3,qAH,qAI]
  rfl
 refine one_ (i:=8) (N:=some 73) #[qT,qT,qT,qT,qT,qT,qT,qT,qT,qF,qF,qF,qF,qF,qF,qF] rfl rfl (by kernel_rfl) (by decide) (fun K hK => ?_)
 refine qBe Try.func89 (by kernel_rfl) rfl #[.slice (some ad) m c,.int .i64 ((a:Int)+1)] (by rfl) rfl rfl (by (try simp only [List.map_toArray,List.map_cons,List.map_nil]);first | done | rfl) ?_
 refine (sa.int1 HK.out (sa.qBA HC.out HB.out HFd.out.1) HCC.out).mono ?_
 rintro e w5 ⟨rfl,hd⟩
 refine ⟨_,rfl, ?_⟩
 have HD:=qAA.mk hd
 have L5:=qAA.mk (Ld.out.below hd.below)
 clear hd
 refine hK.out _ _ ⟨L5.out.blk.c0,L5.out.blk.c1⟩ (fun hHeld => ?_)
 clear hK K
 refine qBH (a' := ?_) ?_ ?_
 rotate_left
 ·show Act.put _ (some 73) _=_
  simp only [Act.put,qs1,qs2,qs3,qAH,qAI]
  rfl
 refine qAL (i:=9) (N:=some 64) (v := ?_) (a' := ?_) #[qT,qT,qT,qT,qT,qT,qT,qT,qT,qT,qF,qF,qF,qF,qF,qF] rfl rfl (by kernel_rfl) (fun _ _ _ h=>h) (Or.inl ⟨by rfl, ?_⟩) ?_ ?_
 rotate_left
 ·intro w'
  go_simp
  with_reducible rfl
 rotate_left
 ·simp only [Act.put,qs1,qs2,qs3,qAH,qAI]
  rfl
 refine qAL (i:=10) (N:=some 74) (v := ?_) (a' := ?_) #[qT,qT,qT,qT,qT,qT,qT,qT,qT,qT,qT,qF,qF,qF,qF,qF] rfl rfl (by kernel_rfl) (fun _ _ _ h=>h) (Or.inl ⟨by rfl, ?_⟩) ?_ ?_
 rotate_left
 ·intro w'
  go_simp
  with_reducible rfl
 rotate_left
 ·simp only [Act.put,qs1,qs2,qs3,qAH,qAI]
  rfl
 refine qAL (i:=11) (N:=some 75) (v := ?_) (a' := ?_) #[qT,qT,qT,qT,qT,qT,qT,qT,qT,qT,qT,qT,qF,qF,qF,qF] rfl rfl (by kernel_rfl) (fun _ _ _ h=>h) (Or.inl ⟨by rfl, ?_⟩) ?_ ?_
 rotate_left
 ·intro w'
  go_simp
  with_reducible rfl
 rotate_left
 ·simp only [Act.put,qs1,qs2,qs3,qAH,qAI]
  rfl
 refine qAL (i:=12) (N:=some 76) (v := ?_) (a' := ?_) #[qT,qT,qT,qT,qT,qT,qT,qT,qT,qT,qT,qT,qT,qF,qF,qF] rfl rfl (by kernel_rfl) (fun _ _ _ h=>h) (Or.inl ⟨by rfl, ?_⟩) ?_ ?_
 rotate_left
 ·intro w'
  go_simp
  with_reducible rfl
 rotate_left
 ·simp only [Act.put,qs1,qs2,qs3,qAH,qAI]
  rfl
 refine qAL (i:=13) (N:=some 6) (v := ?_) (a' := ?_) #[qT,qT,qT,qT,qT,qT,qT,qT,qT,qT,qT,qT,qT,qT,qF,qF] rfl rfl (by kernel_rfl) (fun _ _ _ h=>h) (Or.inl ⟨by rfl, ?_⟩) ?_ ?_
 rotate_left
 ·intro w'
  go_simp
  with_reducible rfl
 rotate_left
 ·simp only [Act.put,qs1,qs2,qs3,qAH,qAI]
  rfl
 refine qAL (i:=14) (N:=some 7) (v := ?_) (a' := ?_) #[qT,qT,qT,qT,qT,qT,qT,qT,qT,qT,qT,qT,qT,qT,qT,qF] rfl rfl (by kernel_rfl) (fun _ _ _ h=>h) (Or.inl ⟨by rfl, ?_⟩) ?_ ?_
 rotate_left
 ·intro w'
  go_simp
  with_reducible rfl
 rotate_left
 ·simp only [Act.put,qs1,qs2,qs3,qAH,qAI]
  rfl
 refine qAL (i:=15) (N:=some 8) (v := ?_) (a' := ?_) #[qT,qT,qT,qT,qT,qT,qT,qT,qT,qT,qT,qT,qT,qT,qT,qT] rfl rfl (by kernel_rfl) (fun _ _ _ h=>h) (Or.inl ⟨by rfl, ?_⟩) ?_ ?_
 rotate_left
 ·intro w'
  go_simp
  with_reducible rfl
 rotate_left
 ·simp only [Act.put,qs1,qs2,qs3,qAH,qAI]
  rfl
 refine qBM (by kernel_rfl) ?_
 have h0:=L5.out.blk.c0;have h1:=L5.out.blk.c1;have h2:=L5.out.blk.c2;have f1:=L5.out.blk.fz 1;have f2:=L5.out.blk.fz 2;have hx0:=L5.out.byt;have fr_:=qAC L5.out.res 0
 go_wp2_with (first | ((with_reducible refine qAn (p:=87) rfl ?_);go_must (refine qA0 ?hg (t:=3) (p:=87) (v:=.tmp 85) (w1:=w5.setCell ⟨g,1,none⟩ (.int .i64 r2)) ?ho ?hN ?hr ?_);(case ho=>rfl);(case hN=>rfl);(case hg=>rfl);(case hr=>first | (go_simp;done) | (go_simp;rfl));intro w6 ex;have L6:=qAA.mk (L5.out.fr (ex▸sa.Fr.set _ _ _ _) (ex▸L5.out.blk.set1 _));have HX6:=qAA.mk ex;clear ex;clear h0 h1 h2 f1 f2 hx0 fr_;have h0:=L6.out.blk.c0;have h1:=L6.out.blk.c1;have h2:=L6.out.blk.c2;have f1:=L6.out.blk.fz 1;have f2:=L6.out.blk.fz 2;have hx0:=L6.out.byt;have fr_:=qAC L6.out.res 0) | ((with_reducible refine qAn (p:=4) rfl ?_);refine sa.qBT rfl rfl 4 _ rfl w.heap.size rfl (.int .i64 2) (.int .i64 r1) (.string ⟨#[]⟩) (.slice none 0 0) (.slice none 0 0) rfl (fun q hq=>by simp at hq;rcases hq with rfl | rfl | rfl | rfl | rfl <;> rfl) _ rfl L6.out.res ?_;intro w5 hres hgr;have HRES:=qAA.mk hres;have HGR:=qAA.mk hgr;clear hgr hres))
 go_wp2
 refine bodyPost_ret (results_cell_row rfl _ _ w.heap.size 34 _ (0,0) _ rfl HRES.out Try.underlying34 rfl (by kernel_rfl)) rfl ?_
 exact ⟨⟨_,_,rfl,Kd.qBn _ _ _ _ _,Kd.qBn _ _ _ _ _⟩,sa.fin_nx (HX6.out▸(HFd.out.1.trans (sa.Fr.of_below HD.out.below)).trans (sa.Fr.set _ _ _ _)) L6.out.blk L6.out.ne.2 HGR.out (Nat.le_refl _) HBB.out.size (HX6.out▸(qAf HFd.out.2 HFd.out.2.size HD.out.below).setCell HGG.out _)⟩
theorem sa.val_t3N {bs:List Int} {u i:Int→Int × Int × Int} (hU:sa.Uin bs u i) {w0 w:World} {g:Nat} {A:Option Addr} {c:Nat} {a l:Int} (hb:Below w0.heap.size w0 w) (hg:w0.heap.size≤g) (hB:sa.Blk w g A bs.length c a l) (hC:(Kd.int .u8).C w A bs.length bs) (hc:bs.length≤c) (within:Int) (hw:(within == 8)=false) (ha0:0≤a) (ha1:a < (bs.length:Int)) (hl0:1≤l) (hl1:l≤2048) (ht:rd bs a=3) (he:(i (a+1)).2.2 ≠ 0) :
  Calls Try.prog 73 #[.pointer (some ⟨g,0,none⟩),.int .i64 within] w (sa.GotV (.bad 41 (a+1)) w0 w g A bs.length c):=by
 have HB:=qAA.mk hB
 have HC:=qAA.mk hC
 have HCC:=qAA.mk hc
 have HBB:=qAA.mk hb
 have HGG:=qAA.mk hg
 have HLL:=qAA.mk hU.L
 have HUU:=qAA.mk hU
 have hgl:g < w.heap.size:=qAp hB
 have hu25:=Try.underlying34
 obtain ⟨a,rfl⟩:=Int.eq_ofNat_of_zero_le ha0
 have t0:((a:Int) == (bs.length:Int))=false:=beq_eq_false_iff_ne.2 (by omega)
 have t1:(a=bs.length)=False:=eq_false (by omega)
 have t2:decide (a=bs.length)=false:=decide_eq_false (by omega)
 have t3:(a:Int) < (bs.length:Int):=ha1
 have t4:a < bs.length:=by omega
 have t5:decide (a < bs.length)=true:=decide_eq_true t4
 have hwr:=qAA.mk (show wrap64 ((a:Int)+1)=(a:Int)+1 by have:=hU.L;unfold wrap64;omega)
 have HL0:=qAA.mk hl0
 have HL1:=qAA.mk hl1
 obtain ⟨ad,hA,hx0⟩:=Kd.qBl hC (a:Int) (by omega) ha1
 subst hA
 rw [Int.toNat_natCast,ht] at hx0
 have HBW:=qAA.mk ((Below.refl w.heap.size w).alloc (Nat.le_refl _) (.cells #[.int .i64 0,.int .i64 0,.string ⟨#[]⟩,.slice none 0 0,.slice none 0 0] 34))
 have L1:=qAA.mk (show sa.Ly (w.alloc (.cells #[.int .i64 0,.int .i64 0,.string ⟨#[]⟩,.slice none 0 0,.slice none 0 0] 34)) g (some ad) bs.length c (a:Int) l (ad.add a) 3 w.heap.size #[.int .i64 0,.int .i64 0,.string ⟨#[]⟩,.slice none 0 0,.slice none 0 0] from ⟨HB.out.below HBW.out,(HBW.out.cell (qs4 w _ hx0)).trans hx0,by simpa using heap_alloc_new w _⟩)
 clear hx0
 have h0:=L1.out.blk.c0;have h1:=L1.out.blk.c1;have h2:=L1.out.blk.c2;have f1:=L1.out.blk.fz 1;have f2:=L1.out.blk.fz 2;have hx0:=L1.out.byt;have fr_:=qAC L1.out.res 0
 have HF4:∀ W4,W4=((w.alloc (.cells #[.int .i64 0,.int .i64 0,.string ⟨#[]⟩,.slice none 0 0,.slice none 0 0] 34)).setCell ⟨g,2,none⟩ (.int .i64 (l - 1))).setCell ⟨g,1,none⟩ (.int .i64 ((a:Int)+1))→sa.Fr g w W4∧Below w0.heap.size w0 W4:=by
  rintro _ rfl
  exact ⟨((sa.Fr.of_below HBW.out).trans (sa.Fr.set _ _ _ _)).trans (sa.Fr.set _ _ _ _),((HBB.out.alloc HBB.out.size _).setCell hg _).setCell hg _⟩
 have HF4:=qAA.mk HF4
 obtain ⟨K,hK⟩:=hU.I
 have HK:=qAA.mk (hK ((a:Int)+1))
 obtain ⟨r1,r2,r3,hr⟩:∃ r1 r2 r3,i ((a:Int)+1)=(r1,r2,r3):=⟨_,_,_,rfl⟩
 rw [hr] at he HK
 dsimp only at he
 have d1:(r3 != 0)=true:=bne_iff_ne.2 he
 have d2:(r3 == 0)=false:=beq_eq_false_iff_ne.2 he
 have d3:decide (r3=0)=false:=decide_eq_false he
 clear hK hr he
 clear hU hb hg hB hC hc ha1 hl0 hl1 ha0 hgl
 generalize bs.length=m at *
 go_enter Try.func73,Try.ntmps73
 go_wp2_with (first | (go_at_call 88;refine (sa.qBc L1.out.blk 1 (a:Int) HL0.out HL1.out (by omega)).mono ?_;rintro e_ w3 ⟨rfl,hx⟩;have L3:=qAA.mk (L1.out.fr (hx▸sa.Fr.set _ _ _ _) (hx▸L1.out.blk.set2 _));have HX3:=qAA.mk hx;clear hx;clear h0 h1 h2 f1 f2 hx0 fr_;have h0:=L3.out.blk.c0;have h1:=L3.out.blk.c1;have h2:=L3.out.blk.c2;have f1:=L3.out.blk.fz 1;have f2:=L3.out.blk.fz 2;have hx0:=L3.out.byt;have fr_:=qAC L3.out.res 0) | ((with_reducible refine qAn (p:=48) rfl ?_);go_must (refine qA0 ?hg (t:=3) (p:=48) (v:=.tmp 46) (w1:=w3.setCell ⟨g,1,none⟩ (.int .i64 (wrap64 ((a:Int)+1)))) ?ho ?hN ?hr ?_);(case ho=>rfl);(case hN=>rfl);(case hg=>rfl);(case hr=>first | (go_simp;done) | (go_simp;rfl));intro w4 e4;rw [hwr.out] at e4;have L4:=qAA.mk (L3.out.fr (e4▸sa.Fr.set _ _ _ _) (e4▸L3.out.blk.set1 _));have HX4:=qAA.mk e4;clear e4;have HFW:=qAA.mk (HF4.out _ (HX4.out.trans (by rw [HX3.out])));clear h0 h1 h2 f1 f2 hx0 fr_;have h0:=L4.out.blk.c0;have h1:=L4.out.blk.c1;have h2:=L4.out.blk.c2;have f1:=L4.out.blk.fz 1;have f2:=L4.out.blk.fz 2;have hx0:=L4.out.byt;have fr_:=qAC L4.out.res 0))
 clear h0 h1 h2 f1 f2 hx0 fr_
 refine qAy (n:=16) (S:=fun w'=>w'.cell? ⟨g,0,none⟩=some (.slice (some ad) m c)∧w'.cell? ⟨g,1,none⟩=some (.int .i64 ((a:Int)+1))) (ds:=[]) #[qF,qF,qF,qF,qF,qF,qF,qF,qF,qF,qF,qF,qF,qF,qF,qF] (by kernel_rfl) rfl rfl ⟨(L4.out.below (qAX (Below.refl _ _))).blk.c0,(L4.out.below (qAX (Below.refl _ _))).blk.c1⟩ (fun hHeld => ?_)
 generalize hwd:w4.drew=wd at hHeld ⊢
 have Ld:=qAA.mk (hwd▸L4.out.below (qAX (Below.refl _ _)))
 have HFd:=qAA.mk (hwd▸(⟨HFW.out.1.trans (sa.Fr.of_below (qAX (Below.refl _ _))),qAX HFW.out.2⟩:sa.Fr g w w4.drew∧Below w0.heap.size w0 w4.drew))
 clear hwd
 refine qAL (i:=0) (N:=some 65) (v := ?_) (a' := ?_) #[qT,qF,qF,qF,qF,qF,qF,qF,qF,qF,qF,qF,qF,qF,qF,qF] rfl rfl (by kernel_rfl) (fun _ _ _ h=>h) (Or.inl ⟨by rfl, ?_⟩) ?_ ?_
 rotate_left
 ·intro w'
  go_simp
  with_reducible rfl
 rotate_left
 ·simp only [Act.put,qs1,qs2,qs3,qAH,qAI]
  rfl
 refine qAL (i:=1) (N:=some 66) (v := ?_) (a' := ?_) #[qT,qT,qF,qF,qF,qF,qF,qF,qF,qF,qF,qF,qF,qF,qF,qF] rfl rfl (by kernel_rfl) (fun _ _ _ h=>h) (Or.inl ⟨by rfl, ?_⟩) ?_ ?_
 rotate_left
 ·intro w'
  go_simp
  with_reducible rfl
 rotate_left
 ·simp only [Act.put,qs1,qs2,qs3,qAH,qAI]
  rfl
 refine qAL (i:=2) (N:=some 67) (v := ?_) (a' := ?_) #[qT,qT,qT,qF,qF,qF,qF,qF,qF,qF,qF,qF,qF,qF,qF,qF] rfl rfl (by kernel_rfl) (fun _ _ _ h=>h) (Or.inl ⟨by rfl, ?_⟩) ?_ ?_
 rotate_left
 ·intro w'
  go_simp
  with_reducible rfl
 rotate_left
 ·simp only [Act.put,qs1,qs2,qs3,qAH,qAI]
  rfl
 refine qAL (i:=4) (N:=some 69) (v := ?_) (a' := ?_) #[qT,qT,qT,qF,qT,qF,qF,qF,qF,qF,qF,qF,qF,qF,qF,qF] rfl rfl (by kernel_rfl) (fun _ _ _ h=>h) (Or.inl ⟨by rfl, ?_⟩) ?_ ?_
 rotate_left
 ·intro w'
  go_simp
  with_reducible rfl
 rotate_left
 ·simp only [Act.put,qs1,qs2,qs3,qAH,qAI]
  rfl
 refine qAL (i:=5) (N:=some 70) (v := ?_) (a' := ?_) #[qT,qT,qT,qF,qT,qT,qF,qF,qF,qF,qF,qF,qF,qF,qF,qF] rfl rfl (by kernel_rfl) (fun _ _ _ h=>h) (Or.inl ⟨by rfl, ?_⟩) ?_ ?_
 rotate_left
 ·intro w'
  go_simp
  with_reducible rfl
 rotate_left
 ·simp only [Act.put,qs1,qs2,qs3,qAH,qAI]
  rfl
 refine qAL (i:=6) (N:=some 71) (v := ?_) (a' := ?_) #[qT,qT,qT,qF,qT,qT,qT,qF,qF,qF,qF,qF,qF,qF,qF,qF] rfl rfl (by kernel_rfl) (fun _ _ _ h=>h) (Or.inl ⟨by rfl, ?_⟩) ?_ ?_
 rotate_left
 ·intro w'
  go_simp
  with_reducible rfl
 rotate_left
 ·simp only [Act.put,qs1,qs2,qs3,qAH,qAI]
  rfl
 refine qAt (i:=3) (N:=some 68) (v := ?_) (a' := ?_) #[qT,qT,qT,qT,qT,qT,qT,qF,qF,qF,qF,qF,qF,qF,qF,qF] rfl rfl (by kernel_rfl) (fun _ _ _ h=>h) (Or.inl ⟨by rfl, ?_⟩) hHeld ?_ ?_
 rotate_left
 ·rintro w' ⟨s0,s1⟩
  go_simp
  with_reducible rfl
 rotate_left
 ·simp only [Act.put,qs1,qs2,qs3,qAH,qAI]
  rfl
 refine qAt (i:=7) (N:=some 72) (v := ?_) (a' := ?_) #[qT,qT,qT,qT,qT,qT,qT,qT,qF,qF,qF,qF,qF,qF,qF,qF] rfl rfl (by kernel_rfl) (fun _ _ _ h=>h) (Or.inl ⟨by rfl, ?_⟩) hHeld ?_ ?_
 rotate_left
 ·rintro w' ⟨s0,s1⟩
  go_simp
  with_reducible rfl
 rotate_left
 ·simp only [Act.put,qs1,qs2,qs3,qAH,qAI]
  rfl
 refine one_ (i:=8) (N:=some 73) #[qT,qT,qT,qT,qT,qT,qT,qT,qT,qF,qF,qF,qF,qF,qF,qF] rfl rfl (by kernel_rfl) (by decide) (fun K hK => ?_)
 refine qBe Try.func89 (by kernel_rfl) rfl #[.slice (some ad) m c,.int .i64 ((a:Int)+1)] (by rfl) rfl rfl (by (try simp only [List.map_toArray,List.map_cons,List.map_nil]);first | done | rfl) ?_
 refine (sa.int1 HK.out (sa.qBA HC.out HB.out HFd.out.1) HCC.out).mono ?_
 rintro e w5 ⟨rfl,hd⟩
 refine ⟨_,rfl, ?_⟩
 have HD:=qAA.mk hd
 have L5:=qAA.mk (Ld.out.below hd.below)
 clear hd
 refine hK.out _ _ ⟨L5.out.blk.c0,L5.out.blk.c1⟩ (fun hHeld => ?_)
 clear hK K
 refine qBH (a' := ?_) ?_ ?_
 rotate_left
 ·show Act.put _ (some 73) _=_
  simp only [Act.put,qs1,qs2,qs3,qAH,qAI]
  rfl
 refine qAL (i:=9) (N:=some 64) (v := ?_) (a' := ?_) #[qT,qT,qT,qT,qT,qT,qT,qT,qT,qT,qF,qF,qF,qF,qF,qF] rfl rfl (by kernel_rfl) (fun _ _ _ h=>h) (Or.inl ⟨by rfl, ?_⟩) ?_ ?_
 rotate_left
 ·intro w'
  go_simp
  with_reducible rfl
 rotate_left
 ·simp only [Act.put,qs1,qs2,qs3,qAH,qAI]
  rfl
 refine qAL (i:=10) (N:=some 74) (v := ?_) (a' := ?_) #[qT,qT,qT,qT,qT,qT,qT,qT,qT,qT,qT,qF,qF,qF,qF,qF] rfl rfl (by kernel_rfl) (fun _ _ _ h=>h) (Or.inl ⟨by rfl, ?_⟩) ?_ ?_
 rotate_left
 ·intro w'
  go_simp
  with_reducible rfl
 rotate_left
 ·simp only [Act.put,qs1,qs2,qs3,qAH,qAI]
  rfl
 refine qAL (i:=11) (N:=some 75) (v := ?_) (a' := ?_) #[qT,qT,qT,qT,qT,qT,qT,qT,qT,qT,qT,qT,qF,qF,qF,qF] rfl rfl (by kernel_rfl) (fun _ _ _ h=>h) (Or.inl ⟨by rfl, ?_⟩) ?_ ?_
 rotate_left
 ·intro w'
  go_simp
  with_reducible rfl
 rotate_left
 ·simp only [Act.put,qs1,qs2,qs3,qAH,qAI]
  rfl
 refine qAL (i:=12) (N:=some 76) (v := ?_) (a' := ?_) #[qT,qT,qT,qT,qT,qT,qT,qT,qT,qT,qT,qT,qT,qF,qF,qF] rfl rfl (by kernel_rfl) (fun _ _ _ h=>h) (Or.inl ⟨by rfl, ?_⟩) ?_ ?_
 rotate_left
 ·intro w'
  go_simp
  with_reducible rfl
 rotate_left
 ·simp only [Act.put,qs1,qs2,qs3,qAH,qAI]
  rfl
 refine qAL (i:=13) (N:=some 6) (v := ?_) (a' := ?_) #[qT,qT,qT,qT,qT,qT,qT,qT,qT,qT,qT,qT,qT,qT,qF,qF] rfl rfl (by kernel_rfl) (fun _ _ _ h=>h) (Or.inl ⟨by rfl, ?_⟩) ?_ ?_
 rotate_left
 ·intro w'
  go_simp
  with_reducible rfl
 rotate_left
 ·simp only [Act.put,qs1,qs2,qs3,qAH,qAI]
  rfl
 refine qAL (i:=14) (N:=some 7) (v := ?_) (a' := ?_) #[qT,qT,qT,qT,qT,qT,qT,qT,qT,qT,qT,qT,qT,qT,qT,qF] rfl rfl (by kernel_rfl) (fun _ _ _ h=>h) (Or.inl ⟨by rfl, ?_⟩) ?_ ?_
 rotate_left
 ·intro w'
  go_simp
  with_reducible rfl
 rotate_left
 ·simp only [Act.put,qs1,qs2,qs3,qAH,qAI]
  rfl
 refine qAL (i:=15) (N:=some 8) (v := ?_) (a' := ?_) #[qT,qT,qT,qT,qT,qT,qT,qT,qT,qT,qT,qT,qT,qT,qT,qT] rfl rfl (by kernel_rfl) (fun _ _ _ h=>h) (Or.inl ⟨by rfl, ?_⟩) ?_ ?_
 rotate_left
 ·intro w'
  go_simp
  with_reducible rfl
 rotate_left
 ·simp only [Act.put,qs1,qs2,qs3,qAH,qAI]
  rfl
 refine qBM (by kernel_rfl) ?_
 have h0:=L5.out.blk.c0;have h1:=L5.out.blk.c1;have h2:=L5.out.blk.c2;have f1:=L5.out.blk.fz 1;have f2:=L5.out.blk.fz 2;have hx0:=L5.out.byt;have fr_:=qAC L5.out.res 0
 go_wp2_with (first | (go_at_call 87;refine (sa.fails1 41 ((a:Int)+1) _).mono ?_;rintro e_ w_ ⟨rfl,rfl⟩;unfold sa.flt))
 exact ⟨rfl,rfl,HFd.out.1.trans (sa.Fr.of_below HD.out.below),qAf HFd.out.2 HFd.out.2.size HD.out.below⟩
theorem sa.val_t4 {bs:List Int} {u i:Int→Int × Int × Int} (hU:sa.Uin bs u i) {w0 w:World} {g:Nat} {A:Option Addr} {c:Nat} {a l:Int} (hb:Below w0.heap.size w0 w) (hg:w0.heap.size≤g) (hB:sa.Blk w g A bs.length c a l) (hC:(Kd.int .u8).C w A bs.length bs) (hc:bs.length≤c) (within:Int) (hw:(within == 8)=false) (ha0:0≤a) (ha1:a < (bs.length:Int)) (hl0:1≤l) (hl1:l≤2048) (ht:rd bs a=4) (he:(u (a+1)).2.2=0) (hn:(u (a+1)).1≤(l - 1) / 1) (hq:(u (a+1)).1≤(bs.length:Int) - (u (a+1)).2.1) :
  Calls Try.prog 73 #[.pointer (some ⟨g,0,none⟩),.int .i64 within] w (sa.GotV (.ok ⟨3,0,strOfNums ((bs.drop (u (a+1)).2.1.toNat).take (u (a+1)).1.toNat),[],[]⟩ ((u (a+1)).2.1+(u (a+1)).1) (l - 1 - (u (a+1)).1)) w0 w g A bs.length c):=by
 have HB:=qAA.mk hB
 have HC:=qAA.mk hC
 have HCC:=qAA.mk hc
 have HBB:=qAA.mk hb
 have HGG:=qAA.mk hg
 have HLL:=qAA.mk hU.L
 have HUU:=qAA.mk hU
 have hgl:g < w.heap.size:=qAp hB
 have hu25:=Try.underlying34
 obtain ⟨a,rfl⟩:=Int.eq_ofNat_of_zero_le ha0
 have t0:((a:Int) == (bs.length:Int))=false:=beq_eq_false_iff_ne.2 (by omega)
 have t1:(a=bs.length)=False:=eq_false (by omega)
 have t2:decide (a=bs.length)=false:=decide_eq_false (by omega)
 have t3:(a:Int) < (bs.length:Int):=ha1
 have t4:a < bs.length:=by omega
 have t5:decide (a < bs.length)=true:=decide_eq_true t4
 have hwr:=qAA.mk (show wrap64 ((a:Int)+1)=(a:Int)+1 by have:=hU.L;unfold wrap64;omega)
 have HL0:=qAA.mk hl0
 have HL1:=qAA.mk hl1
 obtain ⟨ad,hA,hx0⟩:=Kd.qBl hC (a:Int) (by omega) ha1
 subst hA
 rw [Int.toNat_natCast,ht] at hx0
 have HBW:=qAA.mk ((Below.refl w.heap.size w).alloc (Nat.le_refl _) (.cells #[.int .i64 0,.int .i64 0,.string ⟨#[]⟩,.slice none 0 0,.slice none 0 0] 34))
 have L1:=qAA.mk (show sa.Ly (w.alloc (.cells #[.int .i64 0,.int .i64 0,.string ⟨#[]⟩,.slice none 0 0,.slice none 0 0] 34)) g (some ad) bs.length c (a:Int) l (ad.add a) 4 w.heap.size #[.int .i64 0,.int .i64 0,.string ⟨#[]⟩,.slice none 0 0,.slice none 0 0] from ⟨HB.out.below HBW.out,(HBW.out.cell (qs4 w _ hx0)).trans hx0,by simpa using heap_alloc_new w _⟩)
 clear hx0
 have h0:=L1.out.blk.c0;have h1:=L1.out.blk.c1;have h2:=L1.out.blk.c2;have f1:=L1.out.blk.fz 1;have f2:=L1.out.blk.fz 2;have hx0:=L1.out.byt;have fr_:=qAC L1.out.res 0
 have HF4:∀ W4,W4=((w.alloc (.cells #[.int .i64 0,.int .i64 0,.string ⟨#[]⟩,.slice none 0 0,.slice none 0 0] 34)).setCell ⟨g,2,none⟩ (.int .i64 (l - 1))).setCell ⟨g,1,none⟩ (.int .i64 ((a:Int)+1))→sa.Fr g w W4∧Below w0.heap.size w0 W4:=by
  rintro _ rfl
  exact ⟨((sa.Fr.of_below HBW.out).trans (sa.Fr.set _ _ _ _)).trans (sa.Fr.set _ _ _ _),((HBB.out.alloc HBB.out.size _).setCell hg _).setCell hg _⟩
 have HF4:=qAA.mk HF4
 have hs0:wrap64 ((a:Int)+1)=(a:Int)+1:=hwr.out
 have HCN:=qAA.mk (fun (W:World) (x1:Below w0.heap.size w0 W) (x2:sa.Blk W g (some ad) bs.length c ((a:Int)+1) (l - 1)) (x3:(Kd.int .u8).C W (some ad) bs.length bs)=>sa.countY hU x1 hg x2 x3 hc (a:Int) 1 he (by omega) (by omega) (by omega) (by omega) hn)
 have hrR:=hU.R ((a:Int)+1)
 have hrN:=hU.N ((a:Int)+1) he
 obtain ⟨r1,r2,r3,hr⟩:∃ r1 r2 r3,u ((a:Int)+1)=(r1,r2,r3):=⟨_,_,_,rfl⟩
 rw [hr] at HCN hn hq hrR hrN ⊢
 dsimp only at HCN hn hq hrR hrN ⊢
 have HR2:=qAA.mk (show 0≤r2∧r2≤bs.length by omega)
 have HR1:=qAA.mk (show 0≤r1 by omega)
 have HQ:=qAA.mk hq
 have hs1:wrap64 (l - 1 - r1)=l - 1 - r1:=by
  rw [Int.ediv_one] at hn
  unfold wrap64;omega
 clear hn hq hrR hrN he hr
 clear hU hb hg hB hC hc ha1 hl0 hl1 ha0 hgl
 go_enter Try.func73,Try.ntmps73
 go_wp2_with (first | (go_at_call 88;refine (sa.qBc L1.out.blk 1 (a:Int) HL0.out HL1.out (by omega)).mono ?_;rintro e_ w3 ⟨rfl,hx⟩;have L3:=qAA.mk (L1.out.fr (hx▸sa.Fr.set _ _ _ _) (hx▸L1.out.blk.set2 _));have HX3:=qAA.mk hx;clear hx;clear h0 h1 h2 f1 f2 hx0 fr_;have h0:=L3.out.blk.c0;have h1:=L3.out.blk.c1;have h2:=L3.out.blk.c2;have f1:=L3.out.blk.fz 1;have f2:=L3.out.blk.fz 2;have hx0:=L3.out.byt;have fr_:=qAC L3.out.res 0) | ((with_reducible refine qAn (p:=48) rfl ?_);go_must (refine qA0 ?hg (t:=3) (p:=48) (v:=.tmp 46) (w1:=w3.setCell ⟨g,1,none⟩ (.int .i64 (wrap64 ((a:Int)+1)))) ?ho ?hN ?hr ?_);(case ho=>rfl);(case hN=>rfl);(case hg=>rfl);(case hr=>first | (go_simp;done) | (go_simp;rfl));intro w4 e4;rw [hwr.out] at e4;have L4:=qAA.mk (L3.out.fr (e4▸sa.Fr.set _ _ _ _) (e4▸L3.out.blk.set1 _));have HX4:=qAA.mk e4;clear e4;have HFW:=qAA.mk (HF4.out _ (HX4.out.trans (by rw [HX3.out])));clear h0 h1 h2 f1 f2 hx0 fr_;have h0:=L4.out.blk.c0;have h1:=L4.out.blk.c1;have h2:=L4.out.blk.c2;have f1:=L4.out.blk.fz 1;have f2:=L4.out.blk.fz 2;have hx0:=L4.out.byt;have fr_:=qAC L4.out.res 0) | (go_at_call 90;refine (HCN.out _ HFW.out.2 L4.out.blk (sa.qBA HC.out HB.out HFW.out.1)).mono ?_;rintro e_ w5 ⟨rfl,hx⟩;have HX5:=qAA.mk hx;clear hx;have L5:=qAA.mk (L4.out.fr HX5.out.fr HX5.out.blk);clear h0 h1 h2 f1 f2 hx0 fr_;have h0:=L5.out.blk.c0;have h1:=L5.out.blk.c1;have h2:=L5.out.blk.c2;have f1:=L5.out.blk.fz 1;have f2:=L5.out.blk.fz 2;have hx0:=L5.out.byt;have fr_:=qAC L5.out.res 0) | ((with_reducible refine qAn (p:=102) rfl ?_);go_must (refine qA0 ?hg (t:=3) (p:=102) (v:=.tmp 100) (w1:=w5.setCell ⟨g,2,none⟩ (.int .i64 (l - 1 - r1))) ?ho ?hN ?hr ?_);(case ho=>rfl);(case hN=>rfl);(case hg=>rfl);(case hr=>first | (go_simp;done) | (go_simp;rfl));intro w6 ex;have L6:=qAA.mk (L5.out.fr (ex▸sa.Fr.set _ _ _ _) (ex▸L5.out.blk.set2 _));have HX6:=qAA.mk ex;clear ex;clear h0 h1 h2 f1 f2 hx0 fr_;have h0:=L6.out.blk.c0;have h1:=L6.out.blk.c1;have h2:=L6.out.blk.c2;have f1:=L6.out.blk.fz 1;have f2:=L6.out.blk.fz 2;have hx0:=L6.out.byt;have fr_:=qAC L6.out.res 0) | (go_at_call 91;refine (sa.cutY HUU.out (HX6.out▸HX5.out.bel.setCell HGG.out _) HGG.out L6.out.blk (sa.qBA HC.out HB.out (HX6.out▸(HFW.out.1.trans HX5.out.fr).trans (sa.Fr.set _ _ _ _):sa.Fr g w w6)) HCC.out r1 ((a:Int)+1) HR2.out.1 HR2.out.2 HLL.out HR1.out HQ.out).mono ?_;rintro e_ w7 ⟨rfl,hx⟩;have HX7:=qAA.mk hx;clear hx;have L7:=qAA.mk (L6.out.fr HX7.out.fr HX7.out.blk);clear h0 h1 h2 f1 f2 hx0 fr_;have h0:=L7.out.blk.c0;have h1:=L7.out.blk.c1;have h2:=L7.out.blk.c2;have f1:=L7.out.blk.fz 1;have f2:=L7.out.blk.fz 2;have hx0:=L7.out.byt;have fr_:=qAC L7.out.res 0) | ((with_reducible refine qAn (p:=4) rfl ?_);refine sa.qBT rfl rfl 4 _ rfl w.heap.size rfl (.int .i64 3) (.int .i64 0) (.string (strOfNums ((bs.drop r2.toNat).take r1.toNat))) (.slice none 0 0) (.slice none 0 0) rfl (fun q hq=>by simp at hq;rcases hq with rfl | rfl | rfl | rfl | rfl <;> rfl) _ rfl L7.out.res ?_;intro w5 hres hgr;have HRES:=qAA.mk hres;have HGR:=qAA.mk hgr;clear hgr hres))
 go_wp2
 refine bodyPost_ret (results_cell_row rfl _ _ w.heap.size 34 _ (0,0) _ rfl HRES.out Try.underlying34 rfl (by kernel_rfl)) rfl ?_
 exact ⟨⟨_,_,rfl,Kd.qBn _ _ _ _ _,Kd.qBn _ _ _ _ _⟩,sa.fin_nx ((HX6.out▸(HFW.out.1.trans HX5.out.fr).trans (sa.Fr.set _ _ _ _):sa.Fr g w w6).trans HX7.out.fr) L7.out.blk L7.out.ne.2 HGR.out (Nat.le_refl _) HBB.out.size HX7.out.bel⟩
theorem sa.val_t4C {bs:List Int} {u i:Int→Int × Int × Int} (hU:sa.Uin bs u i) {w0 w:World} {g:Nat} {A:Option Addr} {c:Nat} {a l:Int} (hb:Below w0.heap.size w0 w) (hg:w0.heap.size≤g) (hB:sa.Blk w g A bs.length c a l) (hC:(Kd.int .u8).C w A bs.length bs) (hc:bs.length≤c) (within:Int) (hw:(within == 8)=false) (ha0:0≤a) (ha1:a < (bs.length:Int)) (hl0:1≤l) (hl1:l≤2048) (ht:rd bs a=4) (he:(u (a+1)).2.2=0) (hn:(u (a+1)).1≤(l - 1) / 1) (hq:(bs.length:Int) - (u (a+1)).2.1 < (u (a+1)).1) :
  Calls Try.prog 73 #[.pointer (some ⟨g,0,none⟩),.int .i64 within] w (sa.GotV (.bad 41 (a+1)) w0 w g A bs.length c):=by
 have HB:=qAA.mk hB
 have HC:=qAA.mk hC
 have HCC:=qAA.mk hc
 have HBB:=qAA.mk hb
 have HGG:=qAA.mk hg
 have HLL:=qAA.mk hU.L
 have HUU:=qAA.mk hU
 have hgl:g < w.heap.size:=qAp hB
 have hu25:=Try.underlying34
 obtain ⟨a,rfl⟩:=Int.eq_ofNat_of_zero_le ha0
 have t0:((a:Int) == (bs.length:Int))=false:=beq_eq_false_iff_ne.2 (by omega)
 have t1:(a=bs.length)=False:=eq_false (by omega)
 have t2:decide (a=bs.length)=false:=decide_eq_false (by omega)
 have t3:(a:Int) < (bs.length:Int):=ha1
 have t4:a < bs.length:=by omega
 have t5:decide (a < bs.length)=true:=decide_eq_true t4
 have hwr:=qAA.mk (show wrap64 ((a:Int)+1)=(a:Int)+1 by have:=hU.L;unfold wrap64;omega)
 have HL0:=qAA.mk hl0
 have HL1:=qAA.mk hl1
 obtain ⟨ad,hA,hx0⟩:=Kd.qBl hC (a:Int) (by omega) ha1
 subst hA
 rw [Int.toNat_natCast,ht] at hx0
 have HBW:=qAA.mk ((Below.refl w.heap.size w).alloc (Nat.le_refl _) (.cells #[.int .i64 0,.int .i64 0,.string ⟨#[]⟩,.slice none 0 0,.slice none 0 0] 34))
 have L1:=qAA.mk (show sa.Ly (w.alloc (.cells #[.int .i64 0,.int .i64 0,.string ⟨#[]⟩,.slice none 0 0,.slice none 0 0] 34)) g (some ad) bs.length c (a:Int) l (ad.add a) 4 w.heap.size #[.int .i64 0,.int .i64 0,.string ⟨#[]⟩,.slice none 0 0,.slice none 0 0] from ⟨HB.out.below HBW.out,(HBW.out.cell (qs4 w _ hx0)).trans hx0,by simpa using heap_alloc_new w _⟩)
 clear hx0
 have h0:=L1.out.blk.c0;have h1:=L1.out.blk.c1;have h2:=L1.out.blk.c2;have f1:=L1.out.blk.fz 1;have f2:=L1.out.blk.fz 2;have hx0:=L1.out.byt;have fr_:=qAC L1.out.res 0
 have HF4:∀ W4,W4=((w.alloc (.cells #[.int .i64 0,.int .i64 0,.string ⟨#[]⟩,.slice none 0 0,.slice none 0 0] 34)).setCell ⟨g,2,none⟩ (.int .i64 (l - 1))).setCell ⟨g,1,none⟩ (.int .i64 ((a:Int)+1))→sa.Fr g w W4∧Below w0.heap.size w0 W4:=by
  rintro _ rfl
  exact ⟨((sa.Fr.of_below HBW.out).trans (sa.Fr.set _ _ _ _)).trans (sa.Fr.set _ _ _ _),((HBB.out.alloc HBB.out.size _).setCell hg _).setCell hg _⟩
 have HF4:=qAA.mk HF4
 have hs0:wrap64 ((a:Int)+1)=(a:Int)+1:=hwr.out
 have HCN:=qAA.mk (fun (W:World) (x1:Below w0.heap.size w0 W) (x2:sa.Blk W g (some ad) bs.length c ((a:Int)+1) (l - 1)) (x3:(Kd.int .u8).C W (some ad) bs.length bs)=>sa.countY hU x1 hg x2 x3 hc (a:Int) 1 he (by omega) (by omega) (by omega) (by omega) hn)
 have hrR:=hU.R ((a:Int)+1)
 have hrN:=hU.N ((a:Int)+1) he
 obtain ⟨r1,r2,r3,hr⟩:∃ r1 r2 r3,u ((a:Int)+1)=(r1,r2,r3):=⟨_,_,_,rfl⟩
 rw [hr] at HCN hn hq hrR hrN
 dsimp only at HCN hn hq hrR hrN
 have HR2:=qAA.mk (show 0≤r2∧r2≤bs.length by omega)
 have HR1:=qAA.mk (show 0≤r1 by omega)
 have HQ:=qAA.mk hq
 have hs1:wrap64 (l - 1 - r1)=l - 1 - r1:=by
  rw [Int.ediv_one] at hn
  unfold wrap64;omega
 clear hn hq hrR hrN he hr
 clear hU hb hg hB hC hc ha1 hl0 hl1 ha0 hgl
 go_enter Try.func73,Try.ntmps73
 go_wp2_with (first | (go_at_call 88;refine (sa.qBc L1.out.blk 1 (a:Int) HL0.out HL1.out (by omega)).mono ?_;rintro e_ w3 ⟨rfl,hx⟩;have L3:=qAA.mk (L1.out.fr (hx▸sa.Fr.set _ _ _ _) (hx▸L1.out.blk.set2 _));have HX3:=qAA.mk hx;clear hx;clear h0 h1 h2 f1 f2 hx0 fr_;have h0:=L3.out.blk.c0;have h1:=L3.out.blk.c1;have h2:=L3.out.blk.c2;have f1:=L3.out.blk.fz 1;have f2:=L3.out.blk.fz 2;have hx0:=L3.out.byt;have fr_:=qAC L3.out.res 0) | ((with_reducible refine qAn (p:=48) rfl ?_);go_must (refine qA0 ?hg (t:=3) (p:=48) (v:=.tmp 46) (w1:=w3.setCell ⟨g,1,none⟩ (.int .i64 (wrap64 ((a:Int)+1)))) ?ho ?hN ?hr ?_);(case ho=>rfl);(case hN=>rfl);(case hg=>rfl);(case hr=>first | (go_simp;done) | (go_simp;rfl));intro w4 e4;rw [hwr.out] at e4;have L4:=qAA.mk (L3.out.fr (e4▸sa.Fr.set _ _ _ _) (e4▸L3.out.blk.set1 _));have HX4:=qAA.mk e4;clear e4;have HFW:=qAA.mk (HF4.out _ (HX4.out.trans (by rw [HX3.out])));clear h0 h1 h2 f1 f2 hx0 fr_;have h0:=L4.out.blk.c0;have h1:=L4.out.blk.c1;have h2:=L4.out.blk.c2;have f1:=L4.out.blk.fz 1;have f2:=L4.out.blk.fz 2;have hx0:=L4.out.byt;have fr_:=qAC L4.out.res 0) | (go_at_call 90;refine (HCN.out _ HFW.out.2 L4.out.blk (sa.qBA HC.out HB.out HFW.out.1)).mono ?_;rintro e_ w5 ⟨rfl,hx⟩;have HX5:=qAA.mk hx;clear hx;have L5:=qAA.mk (L4.out.fr HX5.out.fr HX5.out.blk);clear h0 h1 h2 f1 f2 hx0 fr_;have h0:=L5.out.blk.c0;have h1:=L5.out.blk.c1;have h2:=L5.out.blk.c2;have f1:=L5.out.blk.fz 1;have f2:=L5.out.blk.fz 2;have hx0:=L5.out.byt;have fr_:=qAC L5.out.res 0) | ((with_reducible refine qAn (p:=102) rfl ?_);go_must (refine qA0 ?hg (t:=3) (p:=102) (v:=.tmp 100) (w1:=w5.setCell ⟨g,2,none⟩ (.int .i64 (l - 1 - r1))) ?ho ?hN ?hr ?_);(case ho=>rfl);(case hN=>rfl);(case hg=>rfl);(case hr=>first | (go_simp;done) | (go_simp;rfl));intro w6 ex;have L6:=qAA.mk (L5.out.fr (ex▸sa.Fr.set _ _ _ _) (ex▸L5.out.blk.set2 _));have HX6:=qAA.mk ex;clear ex;clear h0 h1 h2 f1 f2 hx0 fr_;have h0:=L6.out.blk.c0;have h1:=L6.out.blk.c1;have h2:=L6.out.blk.c2;have f1:=L6.out.blk.fz 1;have f2:=L6.out.blk.fz 2;have hx0:=L6.out.byt;have fr_:=qAC L6.out.res 0) | (go_at_call 91;refine (sa.cutN HUU.out (HX6.out▸HX5.out.bel.setCell HGG.out _) HGG.out L6.out.blk (sa.qBA HC.out HB.out (HX6.out▸(HFW.out.1.trans HX5.out.fr).trans (sa.Fr.set _ _ _ _):sa.Fr g w w6)) HCC.out r1 ((a:Int)+1) HR2.out.1 HR2.out.2 HLL.out HQ.out).mono ?_;rintro e_ w7 ⟨rfl,hx⟩;have HX7:=qAA.mk hx;clear hx;unfold sa.flt))
 exact ⟨rfl,rfl,(HX6.out▸(HFW.out.1.trans HX5.out.fr).trans (sa.Fr.set _ _ _ _):sa.Fr g w w6).trans HX7.out.fr,HX7.out.bel⟩
theorem sa.val_t4E {bs:List Int} {u i:Int→Int × Int × Int} (hU:sa.Uin bs u i) {w0 w:World} {g:Nat} {A:Option Addr} {c:Nat} {a l:Int} (hb:Below w0.heap.size w0 w) (hg:w0.heap.size≤g) (hB:sa.Blk w g A bs.length c a l) (hC:(Kd.int .u8).C w A bs.length bs) (hc:bs.length≤c) (within:Int) (hw:(within == 8)=false) (ha0:0≤a) (ha1:a < (bs.length:Int)) (hl0:1≤l) (hl1:l≤2048) (ht:rd bs a=4) (he:(u (a+1)).2.2 ≠ 0) :
  Calls Try.prog 73 #[.pointer (some ⟨g,0,none⟩),.int .i64 within] w (sa.GotV (.bad 41 (a+1)) w0 w g A bs.length c):=by
 have HB:=qAA.mk hB
 have HC:=qAA.mk hC
 have HCC:=qAA.mk hc
 have HBB:=qAA.mk hb
 have HGG:=qAA.mk hg
 have HLL:=qAA.mk hU.L
 have HUU:=qAA.mk hU
 have hgl:g < w.heap.size:=qAp hB
 have hu25:=Try.underlying34
 obtain ⟨a,rfl⟩:=Int.eq_ofNat_of_zero_le ha0
 have t0:((a:Int) == (bs.length:Int))=false:=beq_eq_false_iff_ne.2 (by omega)
 have t1:(a=bs.length)=False:=eq_false (by omega)
 have t2:decide (a=bs.length)=false:=decide_eq_false (by omega)
 have t3:(a:Int) < (bs.length:Int):=ha1
 have t4:a < bs.length:=by omega
 have t5:decide (a < bs.length)=true:=decide_eq_true t4
 have hwr:=qAA.mk (show wrap64 ((a:Int)+1)=(a:Int)+1 by have:=hU.L;unfold wrap64;omega)
 have HL0:=qAA.mk hl0
 have HL1:=qAA.mk hl1
 obtain ⟨ad,hA,hx0⟩:=Kd.qBl hC (a:Int) (by omega) ha1
 subst hA
 rw [Int.toNat_natCast,ht] at hx0
 have HBW:=qAA.mk ((Below.refl w.heap.size w).alloc (Nat.le_refl _) (.cells #[.int .i64 0,.int .i64 0,.string ⟨#[]⟩,.slice none 0 0,.slice none 0 0] 34))
 have L1:=qAA.mk (show sa.Ly (w.alloc (.cells #[.int .i64 0,.int .i64 0,.string ⟨#[]⟩,.slice none 0 0,.slice none 0 0] 34)) g (some ad) bs.length c (a:Int) l (ad.add a) 4 w.heap.size #[.int .i64 0,.int .i64 0,.string ⟨#[]⟩,.slice none 0 0,.slice none 0 0] from ⟨HB.out.below HBW.out,(HBW.out.cell (qs4 w _ hx0)).trans hx0,by simpa using heap_alloc_new w _⟩)
 clear hx0
 have h0:=L1.out.blk.c0;have h1:=L1.out.blk.c1;have h2:=L1.out.blk.c2;have f1:=L1.out.blk.fz 1;have f2:=L1.out.blk.fz 2;have hx0:=L1.out.byt;have fr_:=qAC L1.out.res 0
 have HF4:∀ W4,W4=((w.alloc (.cells #[.int .i64 0,.int .i64 0,.string ⟨#[]⟩,.slice none 0 0,.slice none 0 0] 34)).setCell ⟨g,2,none⟩ (.int .i64 (l - 1))).setCell ⟨g,1,none⟩ (.int .i64 ((a:Int)+1))→sa.Fr g w W4∧Below w0.heap.size w0 W4:=by
  rintro _ rfl
  exact ⟨((sa.Fr.of_below HBW.out).trans (sa.Fr.set _ _ _ _)).trans (sa.Fr.set _ _ _ _),((HBB.out.alloc HBB.out.size _).setCell hg _).setCell hg _⟩
 have HF4:=qAA.mk HF4
 have hs0:wrap64 ((a:Int)+1)=(a:Int)+1:=hwr.out
 have HCN:=qAA.mk (fun (W:World) (x1:Below w0.heap.size w0 W) (x2:sa.Blk W g (some ad) bs.length c ((a:Int)+1) (l - 1)) (x3:(Kd.int .u8).C W (some ad) bs.length bs)=>sa.countE hU x1 hg x2 x3 hc (a:Int) 1 he)
 clear hU hb hg hB hC hc ha1 hl0 hl1 ha0 hgl
 go_enter Try.func73,Try.ntmps73
 go_wp2_with (first | (go_at_call 88;refine (sa.qBc L1.out.blk 1 (a:Int) HL0.out HL1.out (by omega)).mono ?_;rintro e_ w3 ⟨rfl,hx⟩;have L3:=qAA.mk (L1.out.fr (hx▸sa.Fr.set _ _ _ _) (hx▸L1.out.blk.set2 _));have HX3:=qAA.mk hx;clear hx;clear h0 h1 h2 f1 f2 hx0 fr_;have h0:=L3.out.blk.c0;have h1:=L3.out.blk.c1;have h2:=L3.out.blk.c2;have f1:=L3.out.blk.fz 1;have f2:=L3.out.blk.fz 2;have hx0:=L3.out.byt;have fr_:=qAC L3.out.res 0) | ((with_reducible refine qAn (p:=48) rfl ?_);go_must (refine qA0 ?hg (t:=3) (p:=48) (v:=.tmp 46) (w1:=w3.setCell ⟨g,1,none⟩ (.int .i64 (wrap64 ((a:Int)+1)))) ?ho ?hN ?hr ?_);(case ho=>rfl);(case hN=>rfl);(case hg=>rfl);(case hr=>first | (go_simp;done) | (go_simp;rfl));intro w4 e4;rw [hwr.out] at e4;have L4:=qAA.mk (L3.out.fr (e4▸sa.Fr.set _ _ _ _) (e4▸L3.out.blk.set1 _));have HX4:=qAA.mk e4;clear e4;have HFW:=qAA.mk (HF4.out _ (HX4.out.trans (by rw [HX3.out])));clear h0 h1 h2 f1 f2 hx0 fr_;have h0:=L4.out.blk.c0;have h1:=L4.out.blk.c1;have h2:=L4.out.blk.c2;have f1:=L4.out.blk.fz 1;have f2:=L4.out.blk.fz 2;have hx0:=L4.out.byt;have fr_:=qAC L4.out.res 0) | (go_at_call 90;refine (HCN.out _ HFW.out.2 L4.out.blk (sa.qBA HC.out HB.out HFW.out.1)).mono ?_;rintro e_ w5 ⟨rfl,hx⟩;have HX5:=qAA.mk hx;clear hx;unfold sa.flt))
 exact ⟨rfl,rfl,HFW.out.1.trans HX5.out.fr,HX5.out.bel⟩
theorem sa.val_t4S {bs:List Int} {u i:Int→Int × Int × Int} (hU:sa.Uin bs u i) {w0 w:World} {g:Nat} {A:Option Addr} {c:Nat} {a l:Int} (hb:Below w0.heap.size w0 w) (hg:w0.heap.size≤g) (hB:sa.Blk w g A bs.length c a l) (hC:(Kd.int .u8).C w A bs.length bs) (hc:bs.length≤c) (within:Int) (hw:(within == 8)=false) (ha0:0≤a) (ha1:a < (bs.length:Int)) (hl0:1≤l) (hl1:l≤2048) (ht:rd bs a=4) (he:(u (a+1)).2.2=0) (hn:(l - 1) / 1 < (u (a+1)).1) :
  Calls Try.prog 73 #[.pointer (some ⟨g,0,none⟩),.int .i64 within] w (sa.GotV (.bad 42 a) w0 w g A bs.length c):=by
 have HB:=qAA.mk hB
 have HC:=qAA.mk hC
 have HCC:=qAA.mk hc
 have HBB:=qAA.mk hb
 have HGG:=qAA.mk hg
 have HLL:=qAA.mk hU.L
 have HUU:=qAA.mk hU
 have hgl:g < w.heap.size:=qAp hB
 have hu25:=Try.underlying34
 obtain ⟨a,rfl⟩:=Int.eq_ofNat_of_zero_le ha0
 have t0:((a:Int) == (bs.length:Int))=false:=beq_eq_false_iff_ne.2 (by omega)
 have t1:(a=bs.length)=False:=eq_false (by omega)
 have t2:decide (a=bs.length)=false:=decide_eq_false (by omega)
 have t3:(a:Int) < (bs.length:Int):=ha1
 have t4:a < bs.length:=by omega
 have t5:decide (a < bs.length)=true:=decide_eq_true t4
 have hwr:=qAA.mk (show wrap64 ((a:Int)+1)=(a:Int)+1 by have:=hU.L;unfold wrap64;omega)
 have HL0:=qAA.mk hl0
 have HL1:=qAA.mk hl1
 obtain ⟨ad,hA,hx0⟩:=Kd.qBl hC (a:Int) (by omega) ha1
 subst hA
 rw [Int.toNat_natCast,ht] at hx0
 have HBW:=qAA.mk ((Below.refl w.heap.size w).alloc (Nat.le_refl _) (.cells #[.int .i64 0,.int .i64 0,.string ⟨#[]⟩,.slice none 0 0,.slice none 0 0] 34))
 have L1:=qAA.mk (show sa.Ly (w.alloc (.cells #[.int .i64 0,.int .i64 0,.string ⟨#[]⟩,.slice none 0 0,.slice none 0 0] 34)) g (some ad) bs.length c (a:Int) l (ad.add a) 4 w.heap.size #[.int .i64 0,.int .i64 0,.string ⟨#[]⟩,.slice none 0 0,.slice none 0 0] from ⟨HB.out.below HBW.out,(HBW.out.cell (qs4 w _ hx0)).trans hx0,by simpa using heap_alloc_new w _⟩)
 clear hx0
 have h0:=L1.out.blk.c0;have h1:=L1.out.blk.c1;have h2:=L1.out.blk.c2;have f1:=L1.out.blk.fz 1;have f2:=L1.out.blk.fz 2;have hx0:=L1.out.byt;have fr_:=qAC L1.out.res 0
 have HF4:∀ W4,W4=((w.alloc (.cells #[.int .i64 0,.int .i64 0,.string ⟨#[]⟩,.slice none 0 0,.slice none 0 0] 34)).setCell ⟨g,2,none⟩ (.int .i64 (l - 1))).setCell ⟨g,1,none⟩ (.int .i64 ((a:Int)+1))→sa.Fr g w W4∧Below w0.heap.size w0 W4:=by
  rintro _ rfl
  exact ⟨((sa.Fr.of_below HBW.out).trans (sa.Fr.set _ _ _ _)).trans (sa.Fr.set _ _ _ _),((HBB.out.alloc HBB.out.size _).setCell hg _).setCell hg _⟩
 have HF4:=qAA.mk HF4
 have hs0:wrap64 ((a:Int)+1)=(a:Int)+1:=hwr.out
 have HCN:=qAA.mk (fun (W:World) (x1:Below w0.heap.size w0 W) (x2:sa.Blk W g (some ad) bs.length c ((a:Int)+1) (l - 1)) (x3:(Kd.int .u8).C W (some ad) bs.length bs)=>sa.countN hU x1 hg x2 x3 hc (a:Int) 1 he (by omega) (by omega) (by omega) (by omega) hn)
 clear hU hb hg hB hC hc ha1 hl0 hl1 ha0 hgl
 go_enter Try.func73,Try.ntmps73
 go_wp2_with (first | (go_at_call 88;refine (sa.qBc L1.out.blk 1 (a:Int) HL0.out HL1.out (by omega)).mono ?_;rintro e_ w3 ⟨rfl,hx⟩;have L3:=qAA.mk (L1.out.fr (hx▸sa.Fr.set _ _ _ _) (hx▸L1.out.blk.set2 _));have HX3:=qAA.mk hx;clear hx;clear h0 h1 h2 f1 f2 hx0 fr_;have h0:=L3.out.blk.c0;have h1:=L3.out.blk.c1;have h2:=L3.out.blk.c2;have f1:=L3.out.blk.fz 1;have f2:=L3.out.blk.fz 2;have hx0:=L3.out.byt;have fr_:=qAC L3.out.res 0) | ((with_reducible refine qAn (p:=48) rfl ?_);go_must (refine qA0 ?hg (t:=3) (p:=48) (v:=.tmp 46) (w1:=w3.setCell ⟨g,1,none⟩ (.int .i64 (wrap64 ((a:Int)+1)))) ?ho ?hN ?hr ?_);(case ho=>rfl);(case hN=>rfl);(case hg=>rfl);(case hr=>first | (go_simp;done) | (go_simp;rfl));intro w4 e4;rw [hwr.out] at e4;have L4:=qAA.mk (L3.out.fr (e4▸sa.Fr.set _ _ _ _) (e4▸L3.out.blk.set1 _));have HX4:=qAA.mk e4;clear e4;have HFW:=qAA.mk (HF4.out _ (HX4.out.trans (by rw [HX3.out])));clear h0 h1 h2 f1 f2 hx0 fr_;have h0:=L4.out.blk.c0;have h1:=L4.out.blk.c1;have h2:=L4.out.blk.c2;have f1:=L4.out.blk.fz 1;have f2:=L4.out.blk.fz 2;have hx0:=L4.out.byt;have fr_:=qAC L4.out.res 0) | (go_at_call 90;refine (HCN.out _ HFW.out.2 L4.out.blk (sa.qBA HC.out HB.out HFW.out.1)).mono ?_;rintro e_ w5 ⟨rfl,hx⟩;have HX5:=qAA.mk hx;clear hx;unfold sa.flt))
 exact ⟨rfl,rfl,HFW.out.1.trans HX5.out.fr,HX5.out.bel⟩
theorem sa.val_b1 {bs:List Int} {u i:Int→Int × Int × Int} (hU:sa.Uin bs u i) {w0 w:World} {g:Nat} {A:Option Addr} {c:Nat} {a l:Int} (hb:Below w0.heap.size w0 w) (hg:w0.heap.size≤g) (hB:sa.Blk w g A bs.length c a l) (hC:(Kd.int .u8).C w A bs.length bs) (hc:bs.length≤c) (within:Int) (ha1:a=(bs.length:Int)) :
  Calls Try.prog 73 #[.pointer (some ⟨g,0,none⟩),.int .i64 within] w (sa.GotV (.bad 41 a) w0 w g A bs.length c):=by
 have HB:=qAA.mk hB
 have HBB:=qAA.mk hb
 have hgl:g < w.heap.size:=qAp hB
 have HBW:=qAA.mk ((Below.refl w.heap.size w).alloc (Nat.le_refl _) (.cells #[.int .i64 0,.int .i64 0,.string ⟨#[]⟩,.slice none 0 0,.slice none 0 0] 34))
 have L1:=qAA.mk (HB.out.below HBW.out)
 have h0:=L1.out.c0;have h1:=L1.out.c1;have h2:=L1.out.c2;have f1:=L1.out.fz 1;have f2:=L1.out.fz 2
 have t0:(a == (bs.length:Int))=true:=beq_iff_eq.2 ha1
 have t1:(a=(bs.length:Int))=True:=eq_true ha1
 clear ha1
 clear hU hb hg hB hC hc hgl
 generalize bs.length=m at *
 go_enter Try.func73,Try.ntmps73
 go_wp2_with (go_at_call 87;refine (sa.fails1 41 a _).mono ?_;rintro e_ w_ ⟨rfl,rfl⟩;unfold sa.flt)
 exact ⟨rfl,rfl,sa.Fr.of_below HBW.out,HBB.out.alloc HBB.out.size _⟩
theorem sa.val_b2 {bs:List Int} {u i:Int→Int × Int × Int} (hU:sa.Uin bs u i) {w0 w:World} {g:Nat} {A:Option Addr} {c:Nat} {a l:Int} (hb:Below w0.heap.size w0 w) (hg:w0.heap.size≤g) (hB:sa.Blk w g A bs.length c a l) (hC:(Kd.int .u8).C w A bs.length bs) (hc:bs.length≤c) (within:Int) (ha0:0≤a) (ha1:a < (bs.length:Int)) (hx:rd bs a > 6) :
  Calls Try.prog 73 #[.pointer (some ⟨g,0,none⟩),.int .i64 within] w (sa.GotV (.bad 41 a) w0 w g A bs.length c):=by
 have HB:=qAA.mk hB
 have HBB:=qAA.mk hb
 have hgl:g < w.heap.size:=qAp hB
 have HBW:=qAA.mk ((Below.refl w.heap.size w).alloc (Nat.le_refl _) (.cells #[.int .i64 0,.int .i64 0,.string ⟨#[]⟩,.slice none 0 0,.slice none 0 0] 34))
 have L1:=qAA.mk (HB.out.below HBW.out)
 have h0:=L1.out.c0;have h1:=L1.out.c1;have h2:=L1.out.c2;have f1:=L1.out.fz 1;have f2:=L1.out.fz 2
 obtain ⟨a,rfl⟩:=Int.eq_ofNat_of_zero_le ha0
 have t0:((a:Int) == (bs.length:Int))=false:=beq_eq_false_iff_ne.2 (by omega)
 have t1:(a=bs.length)=False:=eq_false (by omega)
 have t2:decide (a=bs.length)=false:=decide_eq_false (by omega)
 have t3:(a:Int) < (bs.length:Int):=ha1
 have t4:a < bs.length:=by omega
 have t5:decide (a < bs.length)=true:=decide_eq_true t4
 obtain ⟨ad,hA,hx0_⟩:=Kd.qBl hC (a:Int) (by omega) ha1
 subst hA
 rw [Int.toNat_natCast] at hx0_
 have hx0:=(HBW.out.cell (qs4 w _ hx0_)).trans hx0_
 generalize rd bs (a:Int)=x at *
 clear hx0_
 have t6:decide (x > 6)=true:=decide_eq_true (by omega)
 have t7:decide (6 < x)=true:=decide_eq_true (by omega)
 clear ha1 hx ha0
 clear hU hb hg hB hC hc hgl
 generalize bs.length=m at *
 go_enter Try.func73,Try.ntmps73
 go_wp2_with (go_at_call 87;refine (sa.fails1 41 (a:Int) _).mono ?_;rintro e_ w_ ⟨rfl,rfl⟩;unfold sa.flt)
 exact ⟨rfl,rfl,sa.Fr.of_below HBW.out,HBB.out.alloc HBB.out.size _⟩
theorem sa.val_bd {bs:List Int} {u i:Int→Int × Int × Int} (hU:sa.Uin bs u i) {w0 w:World} {g:Nat} {A:Option Addr} {c:Nat} {a l:Int} (hb:Below w0.heap.size w0 w) (hg:w0.heap.size≤g) (hB:sa.Blk w g A bs.length c a l) (hC:(Kd.int .u8).C w A bs.length bs) (hc:bs.length≤c) (within:Int) (hw:(within == 8)=true) (ha0:0≤a) (ha1:a < (bs.length:Int)) (hx:rd bs a≤6) :
  Calls Try.prog 73 #[.pointer (some ⟨g,0,none⟩),.int .i64 within] w (sa.GotV (.bad 42 a) w0 w g A bs.length c):=by
 have HB:=qAA.mk hB
 have HBB:=qAA.mk hb
 have hgl:g < w.heap.size:=qAp hB
 have HBW:=qAA.mk ((Below.refl w.heap.size w).alloc (Nat.le_refl _) (.cells #[.int .i64 0,.int .i64 0,.string ⟨#[]⟩,.slice none 0 0,.slice none 0 0] 34))
 have L1:=qAA.mk (HB.out.below HBW.out)
 have h0:=L1.out.c0;have h1:=L1.out.c1;have h2:=L1.out.c2;have f1:=L1.out.fz 1;have f2:=L1.out.fz 2
 obtain ⟨a,rfl⟩:=Int.eq_ofNat_of_zero_le ha0
 have t0:((a:Int) == (bs.length:Int))=false:=beq_eq_false_iff_ne.2 (by omega)
 have t1:(a=bs.length)=False:=eq_false (by omega)
 have t2:decide (a=bs.length)=false:=decide_eq_false (by omega)
 have t3:(a:Int) < (bs.length:Int):=ha1
 have t4:a < bs.length:=by omega
 have t5:decide (a < bs.length)=true:=decide_eq_true t4
 obtain ⟨ad,hA,hx0_⟩:=Kd.qBl hC (a:Int) (by omega) ha1
 subst hA
 rw [Int.toNat_natCast] at hx0_
 have hx0:=(HBW.out.cell (qs4 w _ hx0_)).trans hx0_
 generalize rd bs (a:Int)=x at *
 clear hx0_
 have t6:decide (x > 6)=false:=decide_eq_false (by omega)
 have t7:decide (6 < x)=false:=decide_eq_false (by omega)
 clear ha1 hx ha0
 clear hU hb hg hB hC hc hgl
 generalize bs.length=m at *
 go_enter Try.func73,Try.ntmps73
 go_wp2_with (go_at_call 87;refine (sa.fails1 42 (a:Int) _).mono ?_;rintro e_ w_ ⟨rfl,rfl⟩;unfold sa.flt)
 exact ⟨rfl,rfl,sa.Fr.of_below HBW.out,HBB.out.alloc HBB.out.size _⟩
theorem sa.val_bw {bs:List Int} {u i:Int→Int × Int × Int} (hU:sa.Uin bs u i) {w0 w:World} {g:Nat} {A:Option Addr} {c:Nat} {a l:Int} (hb:Below w0.heap.size w0 w) (hg:w0.heap.size≤g) (hB:sa.Blk w g A bs.length c a l) (hC:(Kd.int .u8).C w A bs.length bs) (hc:bs.length≤c) (within:Int) (hw:(within == 8)=false) (ha0:0≤a) (ha1:a < (bs.length:Int)) (hx:rd bs a≤6) (hl:l < 1) :
  Calls Try.prog 73 #[.pointer (some ⟨g,0,none⟩),.int .i64 within] w (sa.GotV (.bad 42 a) w0 w g A bs.length c):=by
 have HB:=qAA.mk hB
 have HBB:=qAA.mk hb
 have hgl:g < w.heap.size:=qAp hB
 have HBW:=qAA.mk ((Below.refl w.heap.size w).alloc (Nat.le_refl _) (.cells #[.int .i64 0,.int .i64 0,.string ⟨#[]⟩,.slice none 0 0,.slice none 0 0] 34))
 have L1:=qAA.mk (HB.out.below HBW.out)
 have h0:=L1.out.c0;have h1:=L1.out.c1;have h2:=L1.out.c2;have f1:=L1.out.fz 1;have f2:=L1.out.fz 2
 obtain ⟨a,rfl⟩:=Int.eq_ofNat_of_zero_le ha0
 have t0:((a:Int) == (bs.length:Int))=false:=beq_eq_false_iff_ne.2 (by omega)
 have t1:(a=bs.length)=False:=eq_false (by omega)
 have t2:decide (a=bs.length)=false:=decide_eq_false (by omega)
 have t3:(a:Int) < (bs.length:Int):=ha1
 have t4:a < bs.length:=by omega
 have t5:decide (a < bs.length)=true:=decide_eq_true t4
 obtain ⟨ad,hA,hx0_⟩:=Kd.qBl hC (a:Int) (by omega) ha1
 subst hA
 rw [Int.toNat_natCast] at hx0_
 have hx0:=(HBW.out.cell (qs4 w _ hx0_)).trans hx0_
 generalize rd bs (a:Int)=x at *
 clear hx0_
 have t6:decide (x > 6)=false:=decide_eq_false (by omega)
 have t7:decide (6 < x)=false:=decide_eq_false (by omega)
 have HLX:=qAA.mk hl
 clear ha1 hx ha0 hl
 clear hU hb hg hB hC hc hgl
 generalize bs.length=m at *
 go_enter Try.func73,Try.ntmps73
 go_wp2_with (go_at_call 88;refine (sa.weighsN L1.out 1 (a:Int) HLX.out).mono ?_;rintro e_ w3 ⟨rfl,hx⟩;have HX3:=qAA.mk hx;clear hx;unfold sa.flt)
 exact ⟨rfl,rfl,HX3.out▸sa.Fr.of_below HBW.out,HX3.out▸HBB.out.alloc HBB.out.size _⟩
end
end Go.Proofs.Ytdommiicjpjfpaa.X
namespace Go.Proofs.Ytdommiicjpjfpaa.X
open Go.RowKit Go.Proofs.YtdommiicjpjfpaaW.PrintWords Go.Proofs.YtdommiicjpjfpaaW.PrintLast Go.Proofs.YtdommiicjpjfpaaW.PrintMore Go.Proofs.YtdommiicjpjfpaaW
section
set_option maxHeartbeats 4000000
set_option maxRecDepth 100000
theorem sa.own_res {W W5:World} {O:Obj} (hG:(W.alloc O).grownBy W5 (some W.heap.size)):Below W.heap.size W W5 :=
 ⟨hG.os,hG.tape,hG.output,Nat.le_trans (by rw [Deep.nblk_alloc];omega) hG.size,fun k hk=>(hG.block k (by rw [Deep.nblk_alloc];omega) (fun e=>absurd (Option.some.inj e) (by omega))).trans (Deep.blk_alloc_lt _ _ _ hk)⟩
structure sa.LQ (w0 w W:World) (g:Nat) (A:Option Addr) (m c:Nat) (vb:Nat) (a l kd:Int) (v3 v4:Value) (acc:List S34) (ks:List ByteArray):Prop where
 blk:sa.Blk W g A m c a l
 fr:sa.Fr g w W
 bel:Below w0.heap.size w0 W
 box:W.heap[vb]?=some (.cells #[.int .i64 kd,.int .i64 0,.string ⟨#[]⟩,v3,v4] 34 (0,0))
 res:W.heap[w.heap.size]?=some (.cells #[.int .i64 0,.int .i64 0,.string ⟨#[]⟩,.slice none 0 0,.slice none 0 0] 34 (0,0))
 row:k34.R 34 W w0.heap.size (fun k=>vb < k∧some k ≠ v4.ownBlock) v3 acc
 keys:Kd.string.R 9 W w0.heap.size (fun k=>vb < k) v4 ks
 hvb:w.heap.size < vb
 hgl:g < w.heap.size
 hg:w0.heap.size≤g
section
variable {w0 w W W1:World} {g:Nat} {A:Option Addr} {m c:Nat} {vb:Nat} {a l a1 l1 kd:Int} {v3 v4:Value} {acc:List S34} {ks:List ByteArray}
theorem sa.LQ.lt (h:sa.LQ w0 w W g A m c vb a l kd v3 v4 acc ks):vb < W.heap.size:=qAp h.box
theorem sa.LQ.below (h:sa.LQ w0 w W g A m c vb a l kd v3 v4 acc ks) (hb:Below W.heap.size W W1):sa.LQ w0 w W1 g A m c vb a l kd v3 v4 acc ks :=
 ⟨h.blk.below hb,h.fr.trans (sa.Fr.of_below hb),qAf h.bel h.bel.size hb,qAb h.box hb,qAb h.res hb,Kd.qA3 h.row hb,Kd.qA3 h.keys hb,h.hvb,h.hgl,h.hg⟩
theorem sa.LQ.step (h:sa.LQ w0 w W g A m c vb a l kd v3 v4 acc ks) (hn:sa.Nx w0 W W1 g A m c a1 l1):sa.LQ w0 w W1 g A m c vb a1 l1 kd v3 v4 acc ks :=
 have h1:=h.hgl
 have h2:=h.hvb
 ⟨hn.blk,h.fr.trans hn.fr,hn.bel,(hn.fr.2 vb h.lt (by omega)).trans h.box,(hn.fr.2 _ (qAp h.res) (by omega)).trans h.res,Kd.R_step h.row (fun k hk hlt=>hn.fr.2 k hlt (by have:=hk.1;omega)),Kd.R_step h.keys (fun k hk hlt=>hn.fr.2 k hlt (by omega)),h2,h1,h.hg⟩
theorem sa.LQ.app3 {v5:Value} {acc2:List S34} (h:sa.LQ w0 w W g A m c vb a l kd v3 v4 acc ks) (ho:k34.R 34 W1 w0.heap.size (fun k=>vb < k∧some k ≠ v4.ownBlock) v5 acc2) (hb:Below w0.heap.size w0 W1) (hg:W.grownBy W1 v3.ownBlock):sa.LQ w0 w (W1.setCell ⟨vb,3,none⟩ v5) g A m c vb a l kd v5 v4 acc2 ks:=by
 have h1:=h.hgl
 have h2:=h.hvb
 have h3:=h.hg
 have hne:∀ b,b≤vb→some b ≠ v3.ownBlock:=fun b hb2 e=>by have:=(h.row.1 b e.symm).1;omega
 have hsz:w.heap.size≤W.heap.size:=h.fr.1
 have fr1:sa.Fr g w W1:=⟨Nat.le_trans hsz hg.size,fun k hk hkg=>(hg.block k (by omega) (hne k (by omega))).trans (h.fr.2 k hk hkg)⟩
 have box1:=qBI h.box hg (hne vb (Nat.le_refl _))
 exact ⟨(Below.heap_setCell W1 ⟨vb,3,none⟩ v5 g (show g ≠ vb by omega)).trans (qBI h.blk hg (hne g (by omega))),
  ⟨Nat.le_trans fr1.1 (by simp [World.setCell]),fun k hk hkg=>(Below.heap_setCell W1 ⟨vb,3,none⟩ v5 k (show k ≠ vb by omega)).trans (fr1.2 k hk hkg)⟩,
  hb.setCell (show w0.heap.size≤vb by omega) v5,
  qAz box1 3 v5 rfl,
  (Below.heap_setCell W1 ⟨vb,3,none⟩ v5 _ (show w.heap.size ≠ vb by omega)).trans (qBI h.res hg (hne _ (by omega))),
  Kd.R_far ho (fun k hk=>by show k ≠ vb;have:=hk.1;omega) v5,
  Kd.R_far (Kd.R_over' h.keys (Kd.R_typed h.row) (by decide) hg) (fun k hk=>by show k ≠ vb;omega) v5,h2,h1,h3⟩
theorem sa.LQ.app4 {v5:Value} {ks2:List ByteArray} (h:sa.LQ w0 w W g A m c vb a l kd v3 v4 acc ks) (ho:Kd.string.R 9 W1 w0.heap.size (fun k=>vb < k) v5 ks2) (hb:Below w0.heap.size w0 W1) (hg:W.grownBy W1 v4.ownBlock) (hat:v5.ownBlock=v4.ownBlock ∨ ∃ b,v5.ownBlock=some b∧W.heap.size≤b):sa.LQ w0 w (W1.setCell ⟨vb,4,none⟩ v5) g A m c vb a l kd v3 v5 acc ks2:=by
 have h1:=h.hgl
 have h2:=h.hvb
 have h3:=h.hg
 have hne:∀ b,b≤vb→some b ≠ v4.ownBlock:=fun b hb2 e=>by have:=h.keys.1 b e.symm;omega
 have hsz:w.heap.size≤W.heap.size:=h.fr.1
 have fr1:sa.Fr g w W1:=⟨Nat.le_trans hsz hg.size,fun k hk hkg=>(hg.block k (by omega) (hne k (by omega))).trans (h.fr.2 k hk hkg)⟩
 have box1:=qBI h.box hg (hne vb (Nat.le_refl _))
 exact ⟨(Below.heap_setCell W1 ⟨vb,4,none⟩ v5 g (show g ≠ vb by omega)).trans (qBI h.blk hg (hne g (by omega))),
  ⟨Nat.le_trans fr1.1 (by simp [World.setCell]),fun k hk hkg=>(Below.heap_setCell W1 ⟨vb,4,none⟩ v5 k (show k ≠ vb by omega)).trans (fr1.2 k hk hkg)⟩,
  hb.setCell (show w0.heap.size≤vb by omega) v5,
  qAz box1 4 v5 rfl,
  (Below.heap_setCell W1 ⟨vb,4,none⟩ v5 _ (show w.heap.size ≠ vb by omega)).trans (qBI h.res hg (hne _ (by omega))),
  Kd.R_far (Kd.R_after h.row hg hat) (fun k hk=>by show k ≠ vb;have:=hk.1;omega) v5,
  Kd.R_far ho (fun k hk=>by show k ≠ vb;omega) v5,h2,h1,h3⟩
end
theorem sa.meas (k n:Nat) (hlt:k < n) (hw:wrap64 ((k:Int)+1)=(k:Int)+1):n - (intOf (.int .i64 (wrap64 ((k:Int)+1)))).toNat < n - (intOf (.int .i64 (k:Int))).toNat:=by
 rw [hw]
 show n - ((k:Int)+1).toNat < n - ((k:Int)).toNat
 omega
theorem sa.keyS_b {bs:List Int} {u i:Int→Int × Int × Int} (hU:sa.Uin bs u i) {ks:List ByteArray} {a l a2 l2:Int} {k:ByteArray} (hl:0≤l∧l≤2048) (h:sa.keyS bs u ks a l=.ok k a2 l2):0≤a2∧a2≤(bs.length:Int)∧0≤l2∧l2≤2048:=by
 unfold sa.keyS at h
 by_cases h1:(u a).2.2 ≠ 0
 ·rw [if_pos h1] at h;cases h
 rw [if_neg h1] at h
 by_cases h2:(u a).1 > 32
 ·rw [if_pos h2] at h;cases h
 rw [if_neg h2] at h
 by_cases h3:(u a).1 > (bs.length:Int) - (u a).2.1
 ·rw [if_pos h3] at h;cases h
 rw [if_neg h3] at h
 dsimp only at h
 split at h
 ·cases h
 split at h
 ·cases h
 next h4 =>
  injection h with e1 e2 e3
  have hN:=hU.N a (Classical.byContradiction h1)
  have hR:=hU.R a
  subst e2
  subst e3
  exact ⟨by omega,by omega,by omega,by omega⟩
theorem sa.val_t5 {bs:List Int} {u i:Int→Int × Int × Int} (hU:sa.Uin bs u i) {w0 w:World} {g:Nat} {A:Option Addr} {c:Nat} {a l:Int} (hb:Below w0.heap.size w0 w) (hg:w0.heap.size≤g) (hB:sa.Blk w g A bs.length c a l) (hC:(Kd.int .u8).C w A bs.length bs) (hc:bs.length≤c) (within:Int) (hw:(within == 8)=false) (ha0:0≤a) (ha1:a < (bs.length:Int)) (hl0:1≤l) (hl1:l≤2048) (ht:rd bs a=5) (he:(u (a+1)).2.2=0) (hn:(u (a+1)).1≤(l - 1) / 1) (hwi:0≤within∧within≤8) (f:Int→Int→sa.R3 S34) (hfb:∀ (a l:Int) (x:S34) (a2 l2:Int),0≤a→a≤(bs.length:Int)→0≤l→l≤2048→f a l=.ok x a2 l2→0≤a2∧a2≤(bs.length:Int)∧0≤l2∧l2≤2048) (IH:∀ (W:World) (a l:Int),Below w0.heap.size w0 W→sa.Blk W g A bs.length c a l→(Kd.int .u8).C W A bs.length bs→0≤a→a≤bs.length→0≤l→l≤2048→Calls Try.prog 73 #[.pointer (some ⟨g,0,none⟩),.int .i64 (within+1)] W (sa.GotV (f a l) w0 W g A bs.length c)) :
  Calls Try.prog 73 #[.pointer (some ⟨g,0,none⟩),.int .i64 within] w (sa.GotV (sa.arrV (sa.arrL f (u (a+1)).1.toNat [] (u (a+1)).2.1 (l - 1))) w0 w g A bs.length c):=by
 have HB:=qAA.mk hB
 have HC:=qAA.mk hC
 have HCC:=qAA.mk hc
 have HBB:=qAA.mk hb
 have HGG:=qAA.mk hg
 have HLL:=qAA.mk hU.L
 have HUU:=qAA.mk hU
 have hgl:g < w.heap.size:=qAp hB
 have hu25:=Try.underlying34
 obtain ⟨a,rfl⟩:=Int.eq_ofNat_of_zero_le ha0
 have t0:((a:Int) == (bs.length:Int))=false:=beq_eq_false_iff_ne.2 (by omega)
 have t1:(a=bs.length)=False:=eq_false (by omega)
 have t2:decide (a=bs.length)=false:=decide_eq_false (by omega)
 have t3:(a:Int) < (bs.length:Int):=ha1
 have t4:a < bs.length:=by omega
 have t5:decide (a < bs.length)=true:=decide_eq_true t4
 have hwr:=qAA.mk (show wrap64 ((a:Int)+1)=(a:Int)+1 by have:=hU.L;unfold wrap64;omega)
 have HL0:=qAA.mk hl0
 have HL1:=qAA.mk hl1
 obtain ⟨ad,hA,hx0⟩:=Kd.qBl hC (a:Int) (by omega) ha1
 subst hA
 rw [Int.toNat_natCast,ht] at hx0
 have HBW:=qAA.mk ((Below.refl w.heap.size w).alloc (Nat.le_refl _) (.cells #[.int .i64 0,.int .i64 0,.string ⟨#[]⟩,.slice none 0 0,.slice none 0 0] 34))
 have L1:=qAA.mk (show sa.Ly (w.alloc (.cells #[.int .i64 0,.int .i64 0,.string ⟨#[]⟩,.slice none 0 0,.slice none 0 0] 34)) g (some ad) bs.length c (a:Int) l (ad.add a) 5 w.heap.size #[.int .i64 0,.int .i64 0,.string ⟨#[]⟩,.slice none 0 0,.slice none 0 0] from ⟨HB.out.below HBW.out,(HBW.out.cell (qs4 w _ hx0)).trans hx0,by simpa using heap_alloc_new w _⟩)
 clear hx0
 have h0:=L1.out.blk.c0;have h1:=L1.out.blk.c1;have h2:=L1.out.blk.c2;have f1:=L1.out.blk.fz 1;have f2:=L1.out.blk.fz 2;have hx0:=L1.out.byt;have fr_:=qAC L1.out.res 0
 have HF4:∀ W4,W4=((w.alloc (.cells #[.int .i64 0,.int .i64 0,.string ⟨#[]⟩,.slice none 0 0,.slice none 0 0] 34)).setCell ⟨g,2,none⟩ (.int .i64 (l - 1))).setCell ⟨g,1,none⟩ (.int .i64 ((a:Int)+1))→sa.Fr g w W4∧Below w0.heap.size w0 W4:=by
  rintro _ rfl
  exact ⟨((sa.Fr.of_below HBW.out).trans (sa.Fr.set _ _ _ _)).trans (sa.Fr.set _ _ _ _),((HBB.out.alloc HBB.out.size _).setCell hg _).setCell hg _⟩
 have HF4:=qAA.mk HF4
 have hs0:wrap64 ((a:Int)+1)=(a:Int)+1:=hwr.out
 have HCN:=qAA.mk (fun (W:World) (x1:Below w0.heap.size w0 W) (x2:sa.Blk W g (some ad) bs.length c ((a:Int)+1) (l - 1)) (x3:(Kd.int .u8).C W (some ad) bs.length bs)=>sa.countY hU x1 hg x2 x3 hc (a:Int) 1 he (by omega) (by omega) (by omega) (by omega) hn)
 have hrR:=hU.R ((a:Int)+1)
 have hrN:=hU.N ((a:Int)+1) he
 obtain ⟨r1,r2,r3,hr⟩:∃ r1 r2 r3,u ((a:Int)+1)=(r1,r2,r3):=⟨_,_,_,rfl⟩
 rw [hr] at HCN hn hrR hrN ⊢
 dsimp only at HCN hn hrR hrN ⊢
 have HGL:=qAA.mk hgl
 have hr2:0≤r2∧r2≤bs.length:=⟨Int.le_of_lt (Int.lt_of_le_of_lt hrN.1 hrN.2.1),hrN.2.2⟩
 have hr1:0≤r1:=hrR.1
 obtain ⟨n,rfl⟩:=Int.eq_ofNat_of_zero_le hr1
 have hn2:n≤2048:=by rw [Int.ediv_one] at hn;omega
 have HN2:=qAA.mk hn2
 have hwi2:wrap64 (within+1)=within+1:=by unfold wrap64;omega
 rw [← hwi2] at IH
 clear hwi2
 have HIH:=qAA.mk IH
 have HFB:=qAA.mk hfb
 rw [Int.toNat_natCast]
 obtain ⟨T,hT⟩:∃ T,sa.arrL f n [] r2 (l - 1)=T:=⟨_,rfl⟩
 rw [hT]
 have HP0:=qAA.mk (show sa.arrL f (n - 0) [] r2 (l - 1)=T∧([]:List S34).length=0∧0≤n∧(0≤r2∧r2≤bs.length∧0≤l - 1∧l - 1≤2048) from ⟨hT,rfl,Nat.zero_le _,by omega⟩)
 clear hn hrR hrN he hr hr2 hr1 hT hn2 IH hfb hwi
 clear hU hb hg hB hC hc ha1 hl0 hl1 ha0 hgl
 go_enter Try.func73,Try.ntmps73
 go_wp2_with (first | (go_at_call 88;refine (sa.qBc L1.out.blk 1 (a:Int) HL0.out HL1.out (by omega)).mono ?_;rintro e_ w3 ⟨rfl,hx⟩;have L3:=qAA.mk (L1.out.fr (hx▸sa.Fr.set _ _ _ _) (hx▸L1.out.blk.set2 _));have HX3:=qAA.mk hx;clear hx;clear h0 h1 h2 f1 f2 hx0 fr_;have h0:=L3.out.blk.c0;have h1:=L3.out.blk.c1;have h2:=L3.out.blk.c2;have f1:=L3.out.blk.fz 1;have f2:=L3.out.blk.fz 2;have hx0:=L3.out.byt;have fr_:=qAC L3.out.res 0) | ((with_reducible refine qAn (p:=48) rfl ?_);go_must (refine qA0 ?hg (t:=3) (p:=48) (v:=.tmp 46) (w1:=w3.setCell ⟨g,1,none⟩ (.int .i64 (wrap64 ((a:Int)+1)))) ?ho ?hN ?hr ?_);(case ho=>rfl);(case hN=>rfl);(case hg=>rfl);(case hr=>first | (go_simp;done) | (go_simp;rfl));intro w4 e4;rw [hwr.out] at e4;have L4:=qAA.mk (L3.out.fr (e4▸sa.Fr.set _ _ _ _) (e4▸L3.out.blk.set1 _));have HX4:=qAA.mk e4;clear e4;have HFW:=qAA.mk (HF4.out _ (HX4.out.trans (by rw [HX3.out])));clear h0 h1 h2 f1 f2 hx0 fr_;have h0:=L4.out.blk.c0;have h1:=L4.out.blk.c1;have h2:=L4.out.blk.c2;have f1:=L4.out.blk.fz 1;have f2:=L4.out.blk.fz 2;have hx0:=L4.out.byt;have fr_:=qAC L4.out.res 0) | ((with_reducible refine qAn (p:=10) rfl ?_);refine sa.qBT rfl rfl 10 _ rfl w4.heap.size rfl (.int .i64 4) (.int .i64 0) (.string ⟨#[]⟩) (.slice none 0 0) (.slice none 0 0) rfl (fun q hq=>by simp at hq;rcases hq with rfl | rfl | rfl | rfl | rfl <;> rfl) _ rfl (by simpa using heap_alloc_new w4 _) ?_;intro w5 hres hgr;have HB5:=qAA.mk (sa.own_res hgr);have L5:=qAA.mk (L4.out.below HB5.out);have hv:w.heap.size < w4.heap.size:=by { rw [HX4.out,HX3.out,Deep.nblk_setCell,Deep.nblk_setCell,Deep.nblk_alloc];exact Nat.lt_succ_self _ };have Q5:=qAA.mk (show sa.LQ w0 w w5 g (some ad) bs.length c w4.heap.size ((a:Int)+1) (l - 1) 4 (.slice none 0 0) (.slice none 0 0) [] [] from ⟨L5.out.blk,HFW.out.1.trans (sa.Fr.of_below HB5.out),qAf HFW.out.2 HFW.out.2.size HB5.out,hres,L5.out.res,Kd.qBn _ _ _ _ _,Kd.qBn _ _ _ _ _,hv,HGL.out,HGG.out⟩);clear hres hgr hv;clear h0 h1 h2 f1 f2 hx0 fr_;have h0:=L5.out.blk.c0;have h1:=L5.out.blk.c1;have h2:=L5.out.blk.c2;have f1:=L5.out.blk.fz 1;have f2:=L5.out.blk.fz 2;have hx0:=L5.out.byt;have fr_:=qAC L5.out.res 0) | (go_at_call 90;refine (HCN.out _ Q5.out.bel Q5.out.blk (sa.qBA HC.out HB.out Q5.out.fr)).mono ?_;rintro e_ w6 ⟨rfl,hx⟩;have Q6:=qAA.mk (Q5.out.step hx);clear hx;clear h0 h1 h2 f1 f2 hx0 fr_))
 generalize w4.heap.size=vb at *
 go_loopw [115] (fun v115 wr=>∃ (j:Nat) (acc:List S34) (v3:Value) (a' l':Int),v115=.int .i64 (j:Int)∧qAA (sa.arrL f (n - j) acc a' l'=T∧acc.length=j∧j≤n∧(0≤a'∧a'≤bs.length∧0≤l'∧l'≤2048))∧qAA (sa.LQ w0 w wr g (some ad) bs.length c vb a' l' 4 v3 (.slice none 0 0) acc [])) (fun v115 _=>n - (intOf v115).toNat)
 case atStart=>exact ⟨0,[],_,_,_,rfl,HP0,Q6⟩
 case round =>
  clear Q6 Q5 HP0 HB5 L5
  obtain ⟨j,acc,v3,a',l',rfl,HP,HL⟩:=hrel
  by_cases hlt:j < n
  ·have i1:decide ((j:Int) < (n:Int))=true:=decide_eq_true (by omega)
   have i2:decide (j < n)=true:=decide_eq_true hlt
   have i3:(j < n)=True:=eq_true hlt
   have HWR:=qAA.mk (show wrap64 ((j:Int)+1)=(j:Int)+1 by have:=HN2.out;unfold wrap64;omega)
   have HM:=qAA.mk (sa.meas j n hlt HWR.out)
   have hq:n - j=(n - (j+1))+1:=by omega
   have HQ:=qAA.mk hq
   have HJ:=qAA.mk (show j+1≤n by omega)
   clear hlt hq
   go_wp2
   refine qAy (n:=10) (S:=fun w'=>w'.cell? ⟨vb,3,none⟩=some v3) (ds:=[9]) #[qF,qF,qF,qF,qF,qF,qF,qF,qF,qF] (by kernel_rfl) rfl rfl ((qAB (HL.out.below (qAX (Below.refl _ _))).box 3).trans rfl) (fun hHeld => ?_)
   generalize hwd:wr.drew=wd at hHeld ⊢
   have QD:=qAA.mk (hwd▸HL.out.below (qAX (Below.refl _ _)))
   clear hwd
   refine qAL (i:=0) (N:=some 117) (v := ?_) (a' := ?_) #[qT,qF,qF,qF,qF,qF,qF,qF,qF,qF] rfl rfl (by kernel_rfl) (fun _ _ _ h=>h) (Or.inl ⟨by rfl, ?_⟩) ?_ ?_
   rotate_left
   ·intro w'
    go_simp
    with_reducible rfl
   rotate_left
   ·simp only [Act.put,qs1,qs2,qs3,qAH,qAI]
    rfl
   refine qAL (i:=2) (N:=some 119) (v := ?_) (a' := ?_) #[qT,qF,qT,qF,qF,qF,qF,qF,qF,qF] rfl rfl (by kernel_rfl) (fun _ _ _ h=>h) (Or.inl ⟨by rfl, ?_⟩) ?_ ?_
   rotate_left
   ·intro w'
    go_simp
    with_reducible rfl
   rotate_left
   ·simp only [Act.put,qs1,qs2,qs3,qAH,qAI]
    rfl
   refine qAL (i:=3) (N:=some 120) (v := ?_) (a' := ?_) #[qT,qF,qT,qT,qF,qF,qF,qF,qF,qF] rfl rfl (by kernel_rfl) (fun _ _ _ h=>h) (Or.inl ⟨by rfl, ?_⟩) ?_ ?_
   rotate_left
   ·intro w'
    go_simp
    with_reducible rfl
   rotate_left
   ·simp only [Act.put,qs1,qs2,qs3,qAH,qAI]
    rfl
   refine qAL (i:=4) (N:=some 121) (v := ?_) (a' := ?_) #[qT,qF,qT,qT,qT,qF,qF,qF,qF,qF] rfl rfl (by kernel_rfl) (fun _ _ _ h=>h) (Or.inl ⟨by rfl, ?_⟩) ?_ ?_
   rotate_left
   ·intro w'
    go_simp
    with_reducible rfl
   rotate_left
   ·simp only [Act.put,qs1,qs2,qs3,qAH,qAI]
    rfl
   refine qAt (i:=1) (N:=some 118) (v := ?_) (a' := ?_) #[qT,qT,qT,qT,qT,qF,qF,qF,qF,qF] rfl rfl (by kernel_rfl) (fun _ _ _ h=>h) (Or.inl ⟨by rfl, ?_⟩) hHeld ?_ ?_
   rotate_left
   ·intro w' s0
    go_simp
    with_reducible rfl
   rotate_left
   ·simp only [Act.put,qs1,qs2,qs3,qAH,qAI]
    rfl
   refine one_ (i:=5) (N:=some 122) #[qT,qT,qT,qT,qT,qT,qF,qF,qF,qF] rfl rfl (by kernel_rfl) (by decide) (fun K hK => ?_)
   refine sa.goesT Try.func73 (by kernel_rfl) rfl #[.pointer (some ⟨g,0,none⟩),.int .i64 (wrap64 (within+1))] (by rfl) rfl rfl (by (try simp only [List.map_toArray,List.map_cons,List.map_nil]);first | done | rfl) ?_
   refine (HIH.out _ _ _ QD.out.bel QD.out.blk (sa.qBA HC.out HB.out QD.out.fr) HP.out.2.2.2.1 HP.out.2.2.2.2.1 HP.out.2.2.2.2.2.1 HP.out.2.2.2.2.2.2).mono ?_
   rintro e w7 hgot
   have hrem:=HP.out.1
   rw [HQ.out] at hrem
   unfold sa.arrL at hrem
   rcases hfa:f a' l' with ⟨x,a2,l2⟩ | ⟨ee,pp⟩
   rotate_left
   ·rw [hfa] at hgot hrem
    subst hrem
    exact Or.inr ⟨_,hgot.1,rfl,rfl,QD.out.fr.trans hgot.2.fr,hgot.2.bel⟩
   rw [hfa] at hgot hrem
   obtain ⟨⟨u3,u4,rfl,hr3,hr4⟩,hnx⟩:=hgot
   refine Or.inl ⟨_,rfl, ?_⟩
   have HREM:=qAA.mk hrem
   have HFA:=qAA.mk hfa
   have Q7:=qAA.mk (QD.out.step hnx)
   have R3_:=qAA.mk hr3
   have R4_:=qAA.mk hr4
   have HSZ:=qAA.mk (show wd.heap.size≤w7.heap.size from hnx.fr.1)
   clear hrem hfa hnx hr3 hr4
   refine hK.out _ _ ((qAB Q7.out.box 3).trans rfl) (fun hHeld => ?_)
   clear hK K
   refine qBH (a' := ?_) ?_ ?_
   rotate_left
   ·show Act.put _ (some 122) _=_
    simp only [Act.put,qs1,qs2,qs3,qAH,qAI]
    rfl
   refine one_ (i:=6) (N:=some 123) #[qT,qT,qT,qT,qT,qT,qT,qF,qF,qF] rfl rfl (by kernel_rfl) (by decide) (fun K hK => ?_)
   refine value_ (w1 := ?_) (v := ?_) (by rfl) rfl ?_ ?_
   rotate_left 2
   ·go_simp
    constructor
    ·rfl
    ·rfl
   refine hK.out _ _ ((qAB (qAR Q7.out.box _) 3).trans rfl) (fun hHeld => ?_)
   clear hK K
   refine qBH (a' := ?_) ?_ ?_
   rotate_left
   ·show Act.put _ (some 123) _=_
    simp only [Act.put,qs1,qs2,qs3,qAH,qAI]
    rfl
   refine one_ (i:=7) (N:=some 124) #[qT,qT,qT,qT,qT,qT,qT,qT,qF,qF] rfl rfl (by kernel_rfl) (by decide) (fun K hK => ?_)
   refine Kd.qBR k34 (w0:=w0) w0.heap.size (by rfl) (.tmp 118) (.tmp 123) 31 34 (.agg #[(.int .i64 0),(.int .i64 0),(.string ⟨#[]⟩),(.slice none 0 0),(.slice none 0 0)]) 80 rfl Try.underlying31 info34 rfl (by decide) (by omega) v3 acc x [.int .i64 x.f0,.int .i64 x.f1,.string x.f2,u3,u4] (fun k=>vb < k∧some k ≠ (.slice none 0 0:Value).ownBlock) (fun k=>wd.heap.size≤k) rfl rfl ?aP ?aK ?aF ?aO ?aB ?aS ?aL ?_
   (case aP=>exact k34_mkM _ _ _ x R3_.out R4_.out)
   (case aK=>exact fun k hk=>⟨⟨Nat.lt_of_lt_of_le QD.out.lt hk,fun e=>absurd (Kd.R_lt QD.out.keys k e.symm) (by omega)⟩,fun e=>absurd (Kd.R_lt QD.out.row k e.symm) (by omega)⟩)
   (case aF=>exact fun k hk=>⟨Nat.lt_of_lt_of_le Q7.out.lt hk,fun e=>absurd (Kd.R_lt Q7.out.keys k e.symm) (by omega)⟩)
   (case aO=>exact Q7.out.row)
   (case aB=>exact Q7.out.bel)
   (case aS=>exact Q7.out.bel.size)
   (case aL=>have e1:=HP.out.2.1;have e2:=HJ.out;have e3:=HN2.out;omega)
   intro v5 w8_ ho hb hg2 hat
   obtain ⟨A5,c5,e5⟩:=Kd.qBE ho
   subst e5
   have Q9:=qAA.mk (Q7.out.app3 ho hb hg2)
   have B8:=qAA.mk (qBI Q7.out.box hg2 (fun e=>absurd (Q7.out.row.1 vb e.symm).1 (Nat.lt_irrefl _)))
   have fv8:=qAC B8.out 3
   clear ho hb hg2 hat
   refine hK.out _ _ ((qAB B8.out 3).trans rfl) (fun hHeld => ?_)
   clear hK K
   refine qBH (a' := ?_) ?_ ?_
   rotate_left
   ·show Act.put _ (some 124) _=_
    simp only [Act.put,qs1,qs2,qs3,qAH,qAI]
    rfl
   refine qAL (i:=8) (N:=some 125) (v := ?_) (a' := ?_) #[qT,qT,qT,qT,qT,qT,qT,qT,qT,qF] rfl rfl (by kernel_rfl) (fun _ _ _ h=>h) (Or.inl ⟨by rfl, ?_⟩) ?_ ?_
   rotate_left
   ·intro w'
    go_simp
    with_reducible rfl
   rotate_left
   ·simp only [Act.put,qs1,qs2,qs3,qAH,qAI]
    rfl
   refine last_ (i:=9) (N:=none) #[qT,qT,qT,qT,qT,qT,qT,qT,qT,qT] rfl rfl (by kernel_rfl) (by decide) (fun K hK => ?_)
   refine skip_ (w1 := ?_) (by rfl) rfl ?_ ?_
   rotate_left
   ·go_simp
    rfl
   refine hK.out _ _ ?_
   clear hK K
   refine qBM (by kernel_rfl) ?_
   go_wp2
   rw [show (acc ++ [x]).length=acc.length+1 from by simp] at Q9
   go_roundw
   case rel=>exact ⟨j+1,acc ++ [x],_,a2,l2,by rw [HWR.out];rfl,⟨HREM.out,by rw [List.length_append,HP.out.2.1];rfl,HJ.out,HFB.out _ _ _ _ _ HP.out.2.2.2.1 HP.out.2.2.2.2.1 HP.out.2.2.2.2.2.1 HP.out.2.2.2.2.2.2 HFA.out⟩,Q9⟩
   case measure=>exact HM.out
  ·have i1:decide ((j:Int) < (n:Int))=false:=decide_eq_false (by omega)
   have i2:decide (j < n)=false:=decide_eq_false hlt
   have i3:(j < n)=False:=eq_false hlt
   have hjn:n - j=0:=by omega
   have hT:=HP.out.1
   rw [hjn] at hT
   have hT2:T=.ok acc a' l':=hT.symm
   subst hT2
   clear hT hjn hlt
   have hz0:wr.cell? ⟨vb,0,none⟩=some (.int .i64 4):=(qAB HL.out.box 0).trans rfl
   have hz1:wr.cell? ⟨vb,1,none⟩=some (.int .i64 0):=(qAB HL.out.box 1).trans rfl
   have hz2:wr.cell? ⟨vb,2,none⟩=some (.string ⟨#[]⟩):=(qAB HL.out.box 2).trans rfl
   have hz3:wr.cell? ⟨vb,3,none⟩=some v3:=(qAB HL.out.box 3).trans rfl
   have hz4:wr.cell? ⟨vb,4,none⟩=some (.slice none 0 0):=(qAB HL.out.box 4).trans rfl
   have hv1:v3.oneCell'=true:=by obtain ⟨A_,c_,e_⟩:=Kd.qBE HL.out.row;subst e_;rfl
   go_wp2_with (first | ((with_reducible refine qAn (p:=4) rfl ?_);refine sa.qBT rfl rfl 4 _ rfl w.heap.size rfl (.int .i64 4) (.int .i64 0) (.string ⟨#[]⟩) v3 (.slice none 0 0) rfl (fun q hq=>by simp at hq;rcases hq with rfl | rfl | rfl | rfl | rfl <;> first | rfl | exact hv1) _ rfl HL.out.res ?_;intro w5 hres hgr;have HRES:=qAA.mk hres;have HGR:=qAA.mk hgr;clear hgr hres))
   go_wp2
   refine bodyPost_ret (results_cell_row rfl _ _ w.heap.size 34 _ (0,0) _ rfl HRES.out Try.underlying34 rfl (by kernel_rfl)) rfl ?_
   have e1:=HL.out.hgl;have e2:=HL.out.hvb
   exact ⟨⟨_,_,rfl,Kd.qB2 (Kd.R_grown HL.out.row HGR.out (fun k hk e=>by have:=Option.some.inj e;have:=hk.1;omega)) (fun k hk=>by have:=hk.1;omega),Kd.qBn _ _ _ _ _⟩,sa.fin_nx HL.out.fr HL.out.blk (by omega) HGR.out (Nat.le_refl _) HBB.out.size HL.out.bel⟩
theorem sa.val_t6 {bs:List Int} {u i:Int→Int × Int × Int} (hU:sa.Uin bs u i) {w0 w:World} {g:Nat} {A:Option Addr} {c:Nat} {a l:Int} (hb:Below w0.heap.size w0 w) (hg:w0.heap.size≤g) (hB:sa.Blk w g A bs.length c a l) (hC:(Kd.int .u8).C w A bs.length bs) (hc:bs.length≤c) (within:Int) (hw:(within == 8)=false) (ha0:0≤a) (ha1:a < (bs.length:Int)) (hl0:1≤l) (hl1:l≤2048) (ht:rd bs a=6) (he:(u (a+1)).2.2=0) (hn:(u (a+1)).1≤(l - 1) / 2) (hwi:0≤within∧within≤8) (f:Int→Int→sa.R3 S34) (hfb:∀ (a l:Int) (x:S34) (a2 l2:Int),0≤a→a≤(bs.length:Int)→0≤l→l≤2048→f a l=.ok x a2 l2→0≤a2∧a2≤(bs.length:Int)∧0≤l2∧l2≤2048) (IH:∀ (W:World) (a l:Int),Below w0.heap.size w0 W→sa.Blk W g A bs.length c a l→(Kd.int .u8).C W A bs.length bs→0≤a→a≤bs.length→0≤l→l≤2048→Calls Try.prog 73 #[.pointer (some ⟨g,0,none⟩),.int .i64 (within+1)] W (sa.GotV (f a l) w0 W g A bs.length c)) :
  Calls Try.prog 73 #[.pointer (some ⟨g,0,none⟩),.int .i64 within] w (sa.GotV (sa.recV (sa.recL bs u f (u (a+1)).1.toNat [] [] (u (a+1)).2.1 (l - 1))) w0 w g A bs.length c):=by
 have HB:=qAA.mk hB
 have HC:=qAA.mk hC
 have HCC:=qAA.mk hc
 have HBB:=qAA.mk hb
 have HGG:=qAA.mk hg
 have HLL:=qAA.mk hU.L
 have HUU:=qAA.mk hU
 have hgl:g < w.heap.size:=qAp hB
 have hu25:=Try.underlying34
 obtain ⟨a,rfl⟩:=Int.eq_ofNat_of_zero_le ha0
 have t0:((a:Int) == (bs.length:Int))=false:=beq_eq_false_iff_ne.2 (by omega)
 have t1:(a=bs.length)=False:=eq_false (by omega)
 have t2:decide (a=bs.length)=false:=decide_eq_false (by omega)
 have t3:(a:Int) < (bs.length:Int):=ha1
 have t4:a < bs.length:=by omega
 have t5:decide (a < bs.length)=true:=decide_eq_true t4
 have hwr:=qAA.mk (show wrap64 ((a:Int)+1)=(a:Int)+1 by have:=hU.L;unfold wrap64;omega)
 have HL0:=qAA.mk hl0
 have HL1:=qAA.mk hl1
 obtain ⟨ad,hA,hx0⟩:=Kd.qBl hC (a:Int) (by omega) ha1
 subst hA
 rw [Int.toNat_natCast,ht] at hx0
 have HBW:=qAA.mk ((Below.refl w.heap.size w).alloc (Nat.le_refl _) (.cells #[.int .i64 0,.int .i64 0,.string ⟨#[]⟩,.slice none 0 0,.slice none 0 0] 34))
 have L1:=qAA.mk (show sa.Ly (w.alloc (.cells #[.int .i64 0,.int .i64 0,.string ⟨#[]⟩,.slice none 0 0,.slice none 0 0] 34)) g (some ad) bs.length c (a:Int) l (ad.add a) 6 w.heap.size #[.int .i64 0,.int .i64 0,.string ⟨#[]⟩,.slice none 0 0,.slice none 0 0] from ⟨HB.out.below HBW.out,(HBW.out.cell (qs4 w _ hx0)).trans hx0,by simpa using heap_alloc_new w _⟩)
 clear hx0
 have h0:=L1.out.blk.c0;have h1:=L1.out.blk.c1;have h2:=L1.out.blk.c2;have f1:=L1.out.blk.fz 1;have f2:=L1.out.blk.fz 2;have hx0:=L1.out.byt;have fr_:=qAC L1.out.res 0
 have HF4:∀ W4,W4=((w.alloc (.cells #[.int .i64 0,.int .i64 0,.string ⟨#[]⟩,.slice none 0 0,.slice none 0 0] 34)).setCell ⟨g,2,none⟩ (.int .i64 (l - 1))).setCell ⟨g,1,none⟩ (.int .i64 ((a:Int)+1))→sa.Fr g w W4∧Below w0.heap.size w0 W4:=by
  rintro _ rfl
  exact ⟨((sa.Fr.of_below HBW.out).trans (sa.Fr.set _ _ _ _)).trans (sa.Fr.set _ _ _ _),((HBB.out.alloc HBB.out.size _).setCell hg _).setCell hg _⟩
 have HF4:=qAA.mk HF4
 have hs0:wrap64 ((a:Int)+1)=(a:Int)+1:=hwr.out
 have HCN:=qAA.mk (fun (W:World) (x1:Below w0.heap.size w0 W) (x2:sa.Blk W g (some ad) bs.length c ((a:Int)+1) (l - 1)) (x3:(Kd.int .u8).C W (some ad) bs.length bs)=>sa.countY hU x1 hg x2 x3 hc (a:Int) 2 he (by omega) (by omega) (by omega) (by omega) hn)
 have hrR:=hU.R ((a:Int)+1)
 have hrN:=hU.N ((a:Int)+1) he
 obtain ⟨r1,r2,r3,hr⟩:∃ r1 r2 r3,u ((a:Int)+1)=(r1,r2,r3):=⟨_,_,_,rfl⟩
 rw [hr] at HCN hn hrR hrN ⊢
 dsimp only at HCN hn hrR hrN ⊢
 have HGL:=qAA.mk hgl
 have hr2:0≤r2∧r2≤bs.length:=⟨Int.le_of_lt (Int.lt_of_le_of_lt hrN.1 hrN.2.1),hrN.2.2⟩
 have hr1:0≤r1:=hrR.1
 obtain ⟨n,rfl⟩:=Int.eq_ofNat_of_zero_le hr1
 have hn2:n≤2048:=by have:=Int.ediv_mul_le (l - 1) (show (2:Int) ≠ 0 by omega);omega
 have HN2:=qAA.mk hn2
 have hwi2:wrap64 (within+1)=within+1:=by unfold wrap64;omega
 rw [← hwi2] at IH
 clear hwi2
 have HIH:=qAA.mk IH
 have HFB:=qAA.mk hfb
 rw [Int.toNat_natCast]
 obtain ⟨T,hT⟩:∃ T,sa.recL bs u f n [] [] r2 (l - 1)=T:=⟨_,rfl⟩
 rw [hT]
 have HP0:=qAA.mk (show sa.recL bs u f (n - 0) [] [] r2 (l - 1)=T∧(([]:List S34).length=0∧([]:List ByteArray).length=0)∧0≤n∧(0≤r2∧r2≤bs.length∧0≤l - 1∧l - 1≤2048) from ⟨hT,⟨rfl,rfl⟩,Nat.zero_le _,by omega⟩)
 clear hn hrR hrN he hr hr2 hr1 hT hn2 IH hfb hwi
 clear hU hb hg hB hC hc ha1 hl0 hl1 ha0 hgl
 go_enter Try.func73,Try.ntmps73
 go_wp2_with (first | (go_at_call 88;refine (sa.qBc L1.out.blk 1 (a:Int) HL0.out HL1.out (by omega)).mono ?_;rintro e_ w3 ⟨rfl,hx⟩;have L3:=qAA.mk (L1.out.fr (hx▸sa.Fr.set _ _ _ _) (hx▸L1.out.blk.set2 _));have HX3:=qAA.mk hx;clear hx;clear h0 h1 h2 f1 f2 hx0 fr_;have h0:=L3.out.blk.c0;have h1:=L3.out.blk.c1;have h2:=L3.out.blk.c2;have f1:=L3.out.blk.fz 1;have f2:=L3.out.blk.fz 2;have hx0:=L3.out.byt;have fr_:=qAC L3.out.res 0) | ((with_reducible refine qAn (p:=48) rfl ?_);go_must (refine qA0 ?hg (t:=3) (p:=48) (v:=.tmp 46) (w1:=w3.setCell ⟨g,1,none⟩ (.int .i64 (wrap64 ((a:Int)+1)))) ?ho ?hN ?hr ?_);(case ho=>rfl);(case hN=>rfl);(case hg=>rfl);(case hr=>first | (go_simp;done) | (go_simp;rfl));intro w4 e4;rw [hwr.out] at e4;have L4:=qAA.mk (L3.out.fr (e4▸sa.Fr.set _ _ _ _) (e4▸L3.out.blk.set1 _));have HX4:=qAA.mk e4;clear e4;have HFW:=qAA.mk (HF4.out _ (HX4.out.trans (by rw [HX3.out])));clear h0 h1 h2 f1 f2 hx0 fr_;have h0:=L4.out.blk.c0;have h1:=L4.out.blk.c1;have h2:=L4.out.blk.c2;have f1:=L4.out.blk.fz 1;have f2:=L4.out.blk.fz 2;have hx0:=L4.out.byt;have fr_:=qAC L4.out.res 0) | ((with_reducible refine qAn (p:=11) rfl ?_);refine sa.qBT rfl rfl 11 _ rfl w4.heap.size rfl (.int .i64 5) (.int .i64 0) (.string ⟨#[]⟩) (.slice none 0 0) (.slice none 0 0) rfl (fun q hq=>by simp at hq;rcases hq with rfl | rfl | rfl | rfl | rfl <;> rfl) _ rfl (by simpa using heap_alloc_new w4 _) ?_;intro w5 hres hgr;have HB5:=qAA.mk (sa.own_res hgr);have L5:=qAA.mk (L4.out.below HB5.out);have hv:w.heap.size < w4.heap.size:=by { rw [HX4.out,HX3.out,Deep.nblk_setCell,Deep.nblk_setCell,Deep.nblk_alloc];exact Nat.lt_succ_self _ };have Q5:=qAA.mk (show sa.LQ w0 w w5 g (some ad) bs.length c w4.heap.size ((a:Int)+1) (l - 1) 5 (.slice none 0 0) (.slice none 0 0) [] [] from ⟨L5.out.blk,HFW.out.1.trans (sa.Fr.of_below HB5.out),qAf HFW.out.2 HFW.out.2.size HB5.out,hres,L5.out.res,Kd.qBn _ _ _ _ _,Kd.qBn _ _ _ _ _,hv,HGL.out,HGG.out⟩);clear hres hgr hv;clear h0 h1 h2 f1 f2 hx0 fr_;have h0:=L5.out.blk.c0;have h1:=L5.out.blk.c1;have h2:=L5.out.blk.c2;have f1:=L5.out.blk.fz 1;have f2:=L5.out.blk.fz 2;have hx0:=L5.out.byt;have fr_:=qAC L5.out.res 0) | (go_at_call 90;refine (HCN.out _ Q5.out.bel Q5.out.blk (sa.qBA HC.out HB.out Q5.out.fr)).mono ?_;rintro e_ w6 ⟨rfl,hx⟩;have Q6:=qAA.mk (Q5.out.step hx);clear hx;clear h0 h1 h2 f1 f2 hx0 fr_))
 generalize w4.heap.size=vb at *
 go_loopw [134] (fun v134 wr=>∃ (j:Nat) (acc:List S34) (ks:List ByteArray) (v3 v4:Value) (a' l':Int),v134=.int .i64 (j:Int)∧qAA (sa.recL bs u f (n - j) ks acc a' l'=T∧(acc.length=j∧ks.length=j)∧j≤n∧(0≤a'∧a'≤bs.length∧0≤l'∧l'≤2048))∧qAA (sa.LQ w0 w wr g (some ad) bs.length c vb a' l' 5 v3 v4 acc ks)) (fun v134 _=>n - (intOf v134).toNat)
 case atStart=>exact ⟨0,[],[],_,_,_,_,rfl,HP0,Q6⟩
 case round =>
  clear Q6 Q5 HP0 HB5 L5
  obtain ⟨j,acc,ks,v3,v4,a',l',rfl,HP,HL⟩:=hrel
  obtain ⟨A4,c4,e4⟩:=Kd.qBE HL.out.keys
  subst e4
  by_cases hlt:j < n
  ·have i1:decide ((j:Int) < (n:Int))=true:=decide_eq_true (by omega)
   have i2:decide (j < n)=true:=decide_eq_true hlt
   have i3:(j < n)=True:=eq_true hlt
   have HWR:=qAA.mk (show wrap64 ((j:Int)+1)=(j:Int)+1 by have:=HN2.out;unfold wrap64;omega)
   have HM:=qAA.mk (sa.meas j n hlt HWR.out)
   have hq:n - j=(n - (j+1))+1:=by omega
   have HQ:=qAA.mk hq
   have HJ:=qAA.mk (show j+1≤n by omega)
   clear hlt hq
   go_wp2
   refine qAy (n:=10) (S:=fun w'=>w'.cell? ⟨vb,4,none⟩=some (.slice A4 ks.length c4)) (ds:=[9]) #[qF,qF,qF,qF,qF,qF,qF,qF,qF,qF] (by kernel_rfl) rfl rfl ((qAB (HL.out.below (qAX (Below.refl _ _))).box 4).trans rfl) (fun hHeld => ?_)
   generalize hwd:wr.drew=wd at hHeld ⊢
   have QD:=qAA.mk (hwd▸HL.out.below (qAX (Below.refl _ _)))
   clear hwd
   refine qAL (i:=0) (N:=some 136) (v := ?_) (a' := ?_) #[qT,qF,qF,qF,qF,qF,qF,qF,qF,qF] rfl rfl (by kernel_rfl) (fun _ _ _ h=>h) (Or.inl ⟨by rfl, ?_⟩) ?_ ?_
   rotate_left
   ·intro w'
    go_simp
    with_reducible rfl
   rotate_left
   ·simp only [Act.put,qs1,qs2,qs3,qAH,qAI]
    rfl
   refine qAL (i:=2) (N:=some 138) (v := ?_) (a' := ?_) #[qT,qF,qT,qF,qF,qF,qF,qF,qF,qF] rfl rfl (by kernel_rfl) (fun _ _ _ h=>h) (Or.inl ⟨by rfl, ?_⟩) ?_ ?_
   rotate_left
   ·intro w'
    go_simp
    with_reducible rfl
   rotate_left
   ·simp only [Act.put,qs1,qs2,qs3,qAH,qAI]
    rfl
   refine qAL (i:=3) (N:=some 139) (v := ?_) (a' := ?_) #[qT,qF,qT,qT,qF,qF,qF,qF,qF,qF] rfl rfl (by kernel_rfl) (fun _ _ _ h=>h) (Or.inl ⟨by rfl, ?_⟩) ?_ ?_
   rotate_left
   ·intro w'
    go_simp
    with_reducible rfl
   rotate_left
   ·simp only [Act.put,qs1,qs2,qs3,qAH,qAI]
    rfl
   refine qAt (i:=1) (N:=some 137) (v := ?_) (a' := ?_) #[qT,qT,qT,qT,qF,qF,qF,qF,qF,qF] rfl rfl (by kernel_rfl) (fun _ _ _ h=>h) (Or.inl ⟨by rfl, ?_⟩) hHeld ?_ ?_
   rotate_left
   ·intro w' s0
    go_simp
    with_reducible rfl
   rotate_left
   ·simp only [Act.put,qs1,qs2,qs3,qAH,qAI]
    rfl
   refine qAt (i:=4) (N:=some 140) (v := ?_) (a' := ?_) #[qT,qT,qT,qT,qT,qF,qF,qF,qF,qF] rfl rfl (by kernel_rfl) (fun _ _ _ h=>h) (Or.inl ⟨by rfl, ?_⟩) hHeld ?_ ?_
   rotate_left
   ·intro w' s0
    go_simp
    with_reducible rfl
   rotate_left
   ·simp only [Act.put,qs1,qs2,qs3,qAH,qAI]
    rfl
   refine one_ (i:=5) (N:=some 141) #[qT,qT,qT,qT,qT,qT,qF,qF,qF,qF] rfl rfl (by kernel_rfl) (by decide) (fun K hK => ?_)
   refine sa.goesT Try.func92 (by kernel_rfl) rfl #[.pointer (some ⟨g,0,none⟩),.slice A4 ks.length c4] (by rfl) rfl rfl (by (try simp only [List.map_toArray,List.map_cons,List.map_nil]);first | done | rfl) ?_
   refine (sa.key1 HUU.out QD.out.bel HGG.out QD.out.blk (sa.qBA HC.out HB.out QD.out.fr) HCC.out A4 c4 ks (Kd.R_reads' QD.out.keys).2.2 HP.out.2.2.2.2.2.1 HP.out.2.2.2.2.2.2 (Kd.R_reads' QD.out.keys).2.1 (by have e1:=HP.out.2.1.2;have e2:=HP.out.2.2.1;have e3:=HN2.out;omega)).mono ?_
   rintro e w7 hgot
   have hrem:=HP.out.1
   rw [HQ.out] at hrem
   unfold sa.recL at hrem
   rcases hka:sa.keyS bs u ks a' l' with ⟨kk,ak,lk⟩ | ⟨ee,pp⟩
   rotate_left
   ·rw [hka] at hgot hrem
    subst hrem
    exact Or.inr ⟨_,hgot.1,rfl,rfl,QD.out.fr.trans hgot.2.fr,hgot.2.bel⟩
   rw [hka] at hgot hrem
   obtain ⟨rfl,hnx⟩:=hgot
   refine Or.inl ⟨_,rfl, ?_⟩
   have HREM1:=qAA.mk hrem
   have HBK:=qAA.mk (sa.keyS_b HUU.out HP.out.2.2.2.2.2 hka)
   have Q7:=qAA.mk (QD.out.step hnx)
   clear hrem hka hnx
   refine hK.out _ _ ((qAB Q7.out.box 4).trans rfl) (fun hHeld => ?_)
   clear hK K
   refine qBH (a' := ?_) ?_ ?_
   rotate_left
   ·show Act.put _ (some 141) _=_
    simp only [Act.put,qs1,qs2,qs3,qAH,qAI]
    rfl
   refine one_ (i:=6) (N:=some 142) #[qT,qT,qT,qT,qT,qT,qT,qF,qF,qF] rfl rfl (by kernel_rfl) (by decide) (fun K hK => ?_)
   refine value_ (w1 := ?_) (v := ?_) (by rfl) rfl ?_ ?_
   rotate_left 2
   ·go_simp
    constructor
    ·rfl
    ·rfl
   refine hK.out _ _ ((qAB (qAR Q7.out.box _) 4).trans rfl) (fun hHeld => ?_)
   clear hK K
   refine qBH (a' := ?_) ?_ ?_
   rotate_left
   ·show Act.put _ (some 142) _=_
    simp only [Act.put,qs1,qs2,qs3,qAH,qAI]
    rfl
   refine one_ (i:=7) (N:=some 143) #[qT,qT,qT,qT,qT,qT,qT,qT,qF,qF] rfl rfl (by kernel_rfl) (by decide) (fun K hK => ?_)
   refine Kd.qBR Kd.string (w0:=w0) w0.heap.size (by rfl) (.tmp 137) (.tmp 142) 32 9 (.string ⟨#[]⟩) 16 rfl Try.underlying32 info9 rfl (by decide) (by omega) (.slice A4 ks.length c4) ks kk [.string kk] (fun k=>vb < k) (fun _=>False) rfl rfl rfl (fun _ h=>h.elim) ?aF ?aO ?aB ?aS ?aL ?_
   (case aF=>exact fun k hk=>Nat.lt_of_lt_of_le Q7.out.lt hk)
   (case aO=>exact Q7.out.keys)
   (case aB=>exact Q7.out.bel)
   (case aS=>exact Q7.out.bel.size)
   (case aL=>have e1:=HP.out.2.1;have e2:=HJ.out;have e3:=HN2.out;omega)
   intro v6 w8 ho hb hg2 hat
   obtain ⟨A6,c6,e6⟩:=Kd.qBE ho
   subst e6
   have Q8:=qAA.mk (Q7.out.app4 ho hb hg2 hat)
   have B8_:=qAA.mk (qBI Q7.out.box hg2 (fun e=>absurd (Q7.out.keys.1 vb e.symm) (Nat.lt_irrefl _)))
   have fv8_:=qAC B8_.out 4
   clear ho hb hg2 hat Q7 QD
   refine hK.out _ _ ((qAB B8_.out 4).trans rfl) (fun hHeld => ?_)
   clear hK K
   refine qBH (a' := ?_) ?_ ?_
   rotate_left
   ·show Act.put _ (some 143) _=_
    simp only [Act.put,qs1,qs2,qs3,qAH,qAI]
    rfl
   refine qAL (i:=8) (N:=some 144) (v := ?_) (a' := ?_) #[qT,qT,qT,qT,qT,qT,qT,qT,qT,qF] rfl rfl (by kernel_rfl) (fun _ _ _ h=>h) (Or.inl ⟨by rfl, ?_⟩) ?_ ?_
   rotate_left
   ·intro w'
    go_simp
    with_reducible rfl
   rotate_left
   ·simp only [Act.put,qs1,qs2,qs3,qAH,qAI]
    rfl
   refine last_ (i:=9) (N:=none) #[qT,qT,qT,qT,qT,qT,qT,qT,qT,qT] rfl rfl (by kernel_rfl) (by decide) (fun K hK => ?_)
   refine skip_ (w1 := ?_) (by rfl) rfl ?_ ?_
   rotate_left
   ·go_simp
    rfl
   refine hK.out _ _ ?_
   clear hK K
   refine qBM (by kernel_rfl) ?_
   rw [show (ks ++ [kk]).length=ks.length+1 from by simp] at Q8
   generalize hw9:w8.setCell ⟨vb,4,none⟩ (.slice A6 (ks.length+1) c6)=w9 at Q8 ⊢
   clear hw9
   go_wp2
   refine qAy (n:=10) (S:=fun w'=>w'.cell? ⟨vb,3,none⟩=some v3) (ds:=[9]) #[qF,qF,qF,qF,qF,qF,qF,qF,qF,qF] (by kernel_rfl) rfl rfl ((qAB (Q8.out.below (qAX (Below.refl _ _))).box 3).trans rfl) (fun hHeld => ?_)
   generalize hwd:w9.drew=wd at hHeld ⊢
   have QD:=qAA.mk (hwd▸Q8.out.below (qAX (Below.refl _ _)))
   clear hwd
   refine qAL (i:=0) (N:=some 145) (v := ?_) (a' := ?_) #[qT,qF,qF,qF,qF,qF,qF,qF,qF,qF] rfl rfl (by kernel_rfl) (fun _ _ _ h=>h) (Or.inl ⟨by rfl, ?_⟩) ?_ ?_
   rotate_left
   ·intro w'
    go_simp
    with_reducible rfl
   rotate_left
   ·simp only [Act.put,qs1,qs2,qs3,qAH,qAI]
    rfl
   refine qAL (i:=2) (N:=some 147) (v := ?_) (a' := ?_) #[qT,qF,qT,qF,qF,qF,qF,qF,qF,qF] rfl rfl (by kernel_rfl) (fun _ _ _ h=>h) (Or.inl ⟨by rfl, ?_⟩) ?_ ?_
   rotate_left
   ·intro w'
    go_simp
    with_reducible rfl
   rotate_left
   ·simp only [Act.put,qs1,qs2,qs3,qAH,qAI]
    rfl
   refine qAL (i:=3) (N:=some 148) (v := ?_) (a' := ?_) #[qT,qF,qT,qT,qF,qF,qF,qF,qF,qF] rfl rfl (by kernel_rfl) (fun _ _ _ h=>h) (Or.inl ⟨by rfl, ?_⟩) ?_ ?_
   rotate_left
   ·intro w'
    go_simp
    with_reducible rfl
   rotate_left
   ·simp only [Act.put,qs1,qs2,qs3,qAH,qAI]
    rfl
   refine qAL (i:=4) (N:=some 149) (v := ?_) (a' := ?_) #[qT,qF,qT,qT,qT,qF,qF,qF,qF,qF] rfl rfl (by kernel_rfl) (fun _ _ _ h=>h) (Or.inl ⟨by rfl, ?_⟩) ?_ ?_
   rotate_left
   ·intro w'
    go_simp
    with_reducible rfl
   rotate_left
   ·simp only [Act.put,qs1,qs2,qs3,qAH,qAI]
    rfl
   refine qAt (i:=1) (N:=some 146) (v := ?_) (a' := ?_) #[qT,qT,qT,qT,qT,qF,qF,qF,qF,qF] rfl rfl (by kernel_rfl) (fun _ _ _ h=>h) (Or.inl ⟨by rfl, ?_⟩) hHeld ?_ ?_
   rotate_left
   ·intro w' s0
    go_simp
    with_reducible rfl
   rotate_left
   ·simp only [Act.put,qs1,qs2,qs3,qAH,qAI]
    rfl
   refine one_ (i:=5) (N:=some 150) #[qT,qT,qT,qT,qT,qT,qF,qF,qF,qF] rfl rfl (by kernel_rfl) (by decide) (fun K hK => ?_)
   refine sa.goesT Try.func73 (by kernel_rfl) rfl #[.pointer (some ⟨g,0,none⟩),.int .i64 (wrap64 (within+1))] (by rfl) rfl rfl (by (try simp only [List.map_toArray,List.map_cons,List.map_nil]);first | done | rfl) ?_
   refine (HIH.out _ _ _ QD.out.bel QD.out.blk (sa.qBA HC.out HB.out QD.out.fr) HBK.out.1 HBK.out.2.1 HBK.out.2.2.1 HBK.out.2.2.2).mono ?_
   rintro e w7 hgot
   have hrem:=HREM1.out
   rcases hfa:f ak lk with ⟨x,a2,l2⟩ | ⟨ee,pp⟩
   rotate_left
   ·rw [hfa] at hgot hrem
    subst hrem
    exact Or.inr ⟨_,hgot.1,rfl,rfl,QD.out.fr.trans hgot.2.fr,hgot.2.bel⟩
   rw [hfa] at hgot hrem
   obtain ⟨⟨u3,u4,rfl,hr3,hr4⟩,hnx⟩:=hgot
   refine Or.inl ⟨_,rfl, ?_⟩
   have HREM:=qAA.mk hrem
   have HFA:=qAA.mk hfa
   have Q7:=qAA.mk (QD.out.step hnx)
   have R3_:=qAA.mk hr3
   have R4_:=qAA.mk hr4
   have HSZ:=qAA.mk (show wd.heap.size≤w7.heap.size from hnx.fr.1)
   clear hrem hfa hnx hr3 hr4
   refine hK.out _ _ ((qAB Q7.out.box 3).trans rfl) (fun hHeld => ?_)
   clear hK K
   refine qBH (a' := ?_) ?_ ?_
   rotate_left
   ·show Act.put _ (some 150) _=_
    simp only [Act.put,qs1,qs2,qs3,qAH,qAI]
    rfl
   refine one_ (i:=6) (N:=some 151) #[qT,qT,qT,qT,qT,qT,qT,qF,qF,qF] rfl rfl (by kernel_rfl) (by decide) (fun K hK => ?_)
   refine value_ (w1 := ?_) (v := ?_) (by rfl) rfl ?_ ?_
   rotate_left 2
   ·go_simp
    constructor
    ·rfl
    ·rfl
   refine hK.out _ _ ((qAB (qAR Q7.out.box _) 3).trans rfl) (fun hHeld => ?_)
   clear hK K
   refine qBH (a' := ?_) ?_ ?_
   rotate_left
   ·show Act.put _ (some 151) _=_
    simp only [Act.put,qs1,qs2,qs3,qAH,qAI]
    rfl
   refine one_ (i:=7) (N:=some 152) #[qT,qT,qT,qT,qT,qT,qT,qT,qF,qF] rfl rfl (by kernel_rfl) (by decide) (fun K hK => ?_)
   refine Kd.qBR k34 (w0:=w0) w0.heap.size (by rfl) (.tmp 146) (.tmp 151) 31 34 (.agg #[(.int .i64 0),(.int .i64 0),(.string ⟨#[]⟩),(.slice none 0 0),(.slice none 0 0)]) 80 rfl Try.underlying31 info34 rfl (by decide) (by omega) v3 acc x [.int .i64 x.f0,.int .i64 x.f1,.string x.f2,u3,u4] (fun k=>vb < k∧some k ≠ (.slice A6 (ks.length+1) c6:Value).ownBlock) (fun k=>wd.heap.size≤k) rfl rfl ?aP ?aK ?aF ?aO ?aB ?aS ?aL ?_
   (case aP=>exact k34_mkM _ _ _ x R3_.out R4_.out)
   (case aK=>exact fun k hk=>⟨⟨Nat.lt_of_lt_of_le QD.out.lt hk,fun e=>absurd (Kd.R_lt QD.out.keys k e.symm) (by omega)⟩,fun e=>absurd (Kd.R_lt QD.out.row k e.symm) (by omega)⟩)
   (case aF=>exact fun k hk=>⟨Nat.lt_of_lt_of_le Q7.out.lt hk,fun e=>absurd (Kd.R_lt Q7.out.keys k e.symm) (by omega)⟩)
   (case aO=>exact Q7.out.row)
   (case aB=>exact Q7.out.bel)
   (case aS=>exact Q7.out.bel.size)
   (case aL=>have e1:=HP.out.2.1;have e2:=HJ.out;have e3:=HN2.out;omega)
   intro v5 w8_ ho hb hg2 hat
   obtain ⟨A5,c5,e5⟩:=Kd.qBE ho
   subst e5
   have Q9:=qAA.mk (Q7.out.app3 ho hb hg2)
   have B8:=qAA.mk (qBI Q7.out.box hg2 (fun e=>absurd (Q7.out.row.1 vb e.symm).1 (Nat.lt_irrefl _)))
   have fv8:=qAC B8.out 3
   clear ho hb hg2 hat
   refine hK.out _ _ ((qAB B8.out 3).trans rfl) (fun hHeld => ?_)
   clear hK K
   refine qBH (a' := ?_) ?_ ?_
   rotate_left
   ·show Act.put _ (some 152) _=_
    simp only [Act.put,qs1,qs2,qs3,qAH,qAI]
    rfl
   refine qAL (i:=8) (N:=some 153) (v := ?_) (a' := ?_) #[qT,qT,qT,qT,qT,qT,qT,qT,qT,qF] rfl rfl (by kernel_rfl) (fun _ _ _ h=>h) (Or.inl ⟨by rfl, ?_⟩) ?_ ?_
   rotate_left
   ·intro w'
    go_simp
    with_reducible rfl
   rotate_left
   ·simp only [Act.put,qs1,qs2,qs3,qAH,qAI]
    rfl
   refine last_ (i:=9) (N:=none) #[qT,qT,qT,qT,qT,qT,qT,qT,qT,qT] rfl rfl (by kernel_rfl) (by decide) (fun K hK => ?_)
   refine skip_ (w1 := ?_) (by rfl) rfl ?_ ?_
   rotate_left
   ·go_simp
    rfl
   refine hK.out _ _ ?_
   clear hK K
   refine qBM (by kernel_rfl) ?_
   go_wp2
   rw [show (acc ++ [x]).length=acc.length+1 from by simp] at Q9
   go_roundw
   case rel=>exact ⟨j+1,acc ++ [x],ks ++ [kk],_,_,a2,l2,by rw [HWR.out];rfl,⟨HREM.out,⟨by rw [List.length_append,HP.out.2.1.1];rfl,by rw [List.length_append,HP.out.2.1.2];rfl⟩,HJ.out,HFB.out _ _ _ _ _ HBK.out.1 HBK.out.2.1 HBK.out.2.2.1 HBK.out.2.2.2 HFA.out⟩,Q9⟩
   case measure=>exact HM.out
  ·have i1:decide ((j:Int) < (n:Int))=false:=decide_eq_false (by omega)
   have i2:decide (j < n)=false:=decide_eq_false hlt
   have i3:(j < n)=False:=eq_false hlt
   have hjn:n - j=0:=by omega
   have hT:=HP.out.1
   rw [hjn] at hT
   have hT2:T=.ok (ks,acc) a' l':=hT.symm
   subst hT2
   clear hT hjn hlt
   have hz0:wr.cell? ⟨vb,0,none⟩=some (.int .i64 5):=(qAB HL.out.box 0).trans rfl
   have hz1:wr.cell? ⟨vb,1,none⟩=some (.int .i64 0):=(qAB HL.out.box 1).trans rfl
   have hz2:wr.cell? ⟨vb,2,none⟩=some (.string ⟨#[]⟩):=(qAB HL.out.box 2).trans rfl
   have hz3:wr.cell? ⟨vb,3,none⟩=some v3:=(qAB HL.out.box 3).trans rfl
   have hz4:wr.cell? ⟨vb,4,none⟩=some (.slice A4 ks.length c4):=(qAB HL.out.box 4).trans rfl
   have hv1:v3.oneCell'=true:=by obtain ⟨A_,c_,e_⟩:=Kd.qBE HL.out.row;subst e_;rfl
   go_wp2_with (first | ((with_reducible refine qAn (p:=4) rfl ?_);refine sa.qBT rfl rfl 4 _ rfl w.heap.size rfl (.int .i64 5) (.int .i64 0) (.string ⟨#[]⟩) v3 (.slice A4 ks.length c4) rfl (fun q hq=>by simp at hq;rcases hq with rfl | rfl | rfl | rfl | rfl <;> first | rfl | exact hv1) _ rfl HL.out.res ?_;intro w5 hres hgr;have HRES:=qAA.mk hres;have HGR:=qAA.mk hgr;clear hgr hres))
   go_wp2
   refine bodyPost_ret (results_cell_row rfl _ _ w.heap.size 34 _ (0,0) _ rfl HRES.out Try.underlying34 rfl (by kernel_rfl)) rfl ?_
   have e1:=HL.out.hgl;have e2:=HL.out.hvb
   exact ⟨⟨_,_,rfl,Kd.qB2 (Kd.R_grown HL.out.row HGR.out (fun k hk e=>by have:=Option.some.inj e;have:=hk.1;omega)) (fun k hk=>by have:=hk.1;omega),Kd.qB2 (Kd.R_grown HL.out.keys HGR.out (fun k hk e=>by have:=Option.some.inj e;omega)) (fun k hk=>by omega)⟩,sa.fin_nx HL.out.fr HL.out.blk (by omega) HGR.out (Nat.le_refl _) HBB.out.size HL.out.bel⟩
theorem sa.val_t5E {bs:List Int} {u i:Int→Int × Int × Int} (hU:sa.Uin bs u i) {w0 w:World} {g:Nat} {A:Option Addr} {c:Nat} {a l:Int} (hb:Below w0.heap.size w0 w) (hg:w0.heap.size≤g) (hB:sa.Blk w g A bs.length c a l) (hC:(Kd.int .u8).C w A bs.length bs) (hc:bs.length≤c) (within:Int) (hw:(within == 8)=false) (ha0:0≤a) (ha1:a < (bs.length:Int)) (hl0:1≤l) (hl1:l≤2048) (ht:rd bs a=5) (he:(u (a+1)).2.2 ≠ 0) :
  Calls Try.prog 73 #[.pointer (some ⟨g,0,none⟩),.int .i64 within] w (sa.GotV (.bad 41 (a+1)) w0 w g A bs.length c):=by
 have HB:=qAA.mk hB
 have HC:=qAA.mk hC
 have HCC:=qAA.mk hc
 have HBB:=qAA.mk hb
 have HGG:=qAA.mk hg
 have HLL:=qAA.mk hU.L
 have HUU:=qAA.mk hU
 have hgl:g < w.heap.size:=qAp hB
 have hu25:=Try.underlying34
 obtain ⟨a,rfl⟩:=Int.eq_ofNat_of_zero_le ha0
 have t0:((a:Int) == (bs.length:Int))=false:=beq_eq_false_iff_ne.2 (by omega)
 have t1:(a=bs.length)=False:=eq_false (by omega)
 have t2:decide (a=bs.length)=false:=decide_eq_false (by omega)
 have t3:(a:Int) < (bs.length:Int):=ha1
 have t4:a < bs.length:=by omega
 have t5:decide (a < bs.length)=true:=decide_eq_true t4
 have hwr:=qAA.mk (show wrap64 ((a:Int)+1)=(a:Int)+1 by have:=hU.L;unfold wrap64;omega)
 have HL0:=qAA.mk hl0
 have HL1:=qAA.mk hl1
 obtain ⟨ad,hA,hx0⟩:=Kd.qBl hC (a:Int) (by omega) ha1
 subst hA
 rw [Int.toNat_natCast,ht] at hx0
 have HBW:=qAA.mk ((Below.refl w.heap.size w).alloc (Nat.le_refl _) (.cells #[.int .i64 0,.int .i64 0,.string ⟨#[]⟩,.slice none 0 0,.slice none 0 0] 34))
 have L1:=qAA.mk (show sa.Ly (w.alloc (.cells #[.int .i64 0,.int .i64 0,.string ⟨#[]⟩,.slice none 0 0,.slice none 0 0] 34)) g (some ad) bs.length c (a:Int) l (ad.add a) 5 w.heap.size #[.int .i64 0,.int .i64 0,.string ⟨#[]⟩,.slice none 0 0,.slice none 0 0] from ⟨HB.out.below HBW.out,(HBW.out.cell (qs4 w _ hx0)).trans hx0,by simpa using heap_alloc_new w _⟩)
 clear hx0
 have h0:=L1.out.blk.c0;have h1:=L1.out.blk.c1;have h2:=L1.out.blk.c2;have f1:=L1.out.blk.fz 1;have f2:=L1.out.blk.fz 2;have hx0:=L1.out.byt;have fr_:=qAC L1.out.res 0
 have HF4:∀ W4,W4=((w.alloc (.cells #[.int .i64 0,.int .i64 0,.string ⟨#[]⟩,.slice none 0 0,.slice none 0 0] 34)).setCell ⟨g,2,none⟩ (.int .i64 (l - 1))).setCell ⟨g,1,none⟩ (.int .i64 ((a:Int)+1))→sa.Fr g w W4∧Below w0.heap.size w0 W4:=by
  rintro _ rfl
  exact ⟨((sa.Fr.of_below HBW.out).trans (sa.Fr.set _ _ _ _)).trans (sa.Fr.set _ _ _ _),((HBB.out.alloc HBB.out.size _).setCell hg _).setCell hg _⟩
 have HF4:=qAA.mk HF4
 have hs0:wrap64 ((a:Int)+1)=(a:Int)+1:=hwr.out
 have HCN:=qAA.mk (fun (W:World) (x1:Below w0.heap.size w0 W) (x2:sa.Blk W g (some ad) bs.length c ((a:Int)+1) (l - 1)) (x3:(Kd.int .u8).C W (some ad) bs.length bs)=>sa.countE hU x1 hg x2 x3 hc (a:Int) 1 he)
 have HGL:=qAA.mk hgl
 clear hU hb hg hB hC hc ha1 hl0 hl1 ha0 hgl
 go_enter Try.func73,Try.ntmps73
 go_wp2_with (first | (go_at_call 88;refine (sa.qBc L1.out.blk 1 (a:Int) HL0.out HL1.out (by omega)).mono ?_;rintro e_ w3 ⟨rfl,hx⟩;have L3:=qAA.mk (L1.out.fr (hx▸sa.Fr.set _ _ _ _) (hx▸L1.out.blk.set2 _));have HX3:=qAA.mk hx;clear hx;clear h0 h1 h2 f1 f2 hx0 fr_;have h0:=L3.out.blk.c0;have h1:=L3.out.blk.c1;have h2:=L3.out.blk.c2;have f1:=L3.out.blk.fz 1;have f2:=L3.out.blk.fz 2;have hx0:=L3.out.byt;have fr_:=qAC L3.out.res 0) | ((with_reducible refine qAn (p:=48) rfl ?_);go_must (refine qA0 ?hg (t:=3) (p:=48) (v:=.tmp 46) (w1:=w3.setCell ⟨g,1,none⟩ (.int .i64 (wrap64 ((a:Int)+1)))) ?ho ?hN ?hr ?_);(case ho=>rfl);(case hN=>rfl);(case hg=>rfl);(case hr=>first | (go_simp;done) | (go_simp;rfl));intro w4 e4;rw [hwr.out] at e4;have L4:=qAA.mk (L3.out.fr (e4▸sa.Fr.set _ _ _ _) (e4▸L3.out.blk.set1 _));have HX4:=qAA.mk e4;clear e4;have HFW:=qAA.mk (HF4.out _ (HX4.out.trans (by rw [HX3.out])));clear h0 h1 h2 f1 f2 hx0 fr_;have h0:=L4.out.blk.c0;have h1:=L4.out.blk.c1;have h2:=L4.out.blk.c2;have f1:=L4.out.blk.fz 1;have f2:=L4.out.blk.fz 2;have hx0:=L4.out.byt;have fr_:=qAC L4.out.res 0) | ((with_reducible refine qAn (p:=10) rfl ?_);refine sa.qBT rfl rfl 10 _ rfl w4.heap.size rfl (.int .i64 4) (.int .i64 0) (.string ⟨#[]⟩) (.slice none 0 0) (.slice none 0 0) rfl (fun q hq=>by simp at hq;rcases hq with rfl | rfl | rfl | rfl | rfl <;> rfl) _ rfl (by simpa using heap_alloc_new w4 _) ?_;intro w5 hres hgr;have HB5:=qAA.mk (sa.own_res hgr);have L5:=qAA.mk (L4.out.below HB5.out);have hv:w.heap.size < w4.heap.size:=by { rw [HX4.out,HX3.out,Deep.nblk_setCell,Deep.nblk_setCell,Deep.nblk_alloc];exact Nat.lt_succ_self _ };have Q5:=qAA.mk (show sa.LQ w0 w w5 g (some ad) bs.length c w4.heap.size ((a:Int)+1) (l - 1) 4 (.slice none 0 0) (.slice none 0 0) [] [] from ⟨L5.out.blk,HFW.out.1.trans (sa.Fr.of_below HB5.out),qAf HFW.out.2 HFW.out.2.size HB5.out,hres,L5.out.res,Kd.qBn _ _ _ _ _,Kd.qBn _ _ _ _ _,hv,HGL.out,HGG.out⟩);clear hres hgr hv;clear h0 h1 h2 f1 f2 hx0 fr_;have h0:=L5.out.blk.c0;have h1:=L5.out.blk.c1;have h2:=L5.out.blk.c2;have f1:=L5.out.blk.fz 1;have f2:=L5.out.blk.fz 2;have hx0:=L5.out.byt;have fr_:=qAC L5.out.res 0) | (go_at_call 90;refine (HCN.out _ Q5.out.bel Q5.out.blk (sa.qBA HC.out HB.out Q5.out.fr)).mono ?_;rintro e_ w5 ⟨rfl,hx⟩;have HX5:=qAA.mk hx;clear hx;unfold sa.flt))
 exact ⟨rfl,rfl,Q5.out.fr.trans HX5.out.fr,HX5.out.bel⟩
theorem sa.val_t5S {bs:List Int} {u i:Int→Int × Int × Int} (hU:sa.Uin bs u i) {w0 w:World} {g:Nat} {A:Option Addr} {c:Nat} {a l:Int} (hb:Below w0.heap.size w0 w) (hg:w0.heap.size≤g) (hB:sa.Blk w g A bs.length c a l) (hC:(Kd.int .u8).C w A bs.length bs) (hc:bs.length≤c) (within:Int) (hw:(within == 8)=false) (ha0:0≤a) (ha1:a < (bs.length:Int)) (hl0:1≤l) (hl1:l≤2048) (ht:rd bs a=5) (he:(u (a+1)).2.2=0) (hn:(l - 1) / 1 < (u (a+1)).1) :
  Calls Try.prog 73 #[.pointer (some ⟨g,0,none⟩),.int .i64 within] w (sa.GotV (.bad 42 a) w0 w g A bs.length c):=by
 have HB:=qAA.mk hB
 have HC:=qAA.mk hC
 have HCC:=qAA.mk hc
 have HBB:=qAA.mk hb
 have HGG:=qAA.mk hg
 have HLL:=qAA.mk hU.L
 have HUU:=qAA.mk hU
 have hgl:g < w.heap.size:=qAp hB
 have hu25:=Try.underlying34
 obtain ⟨a,rfl⟩:=Int.eq_ofNat_of_zero_le ha0
 have t0:((a:Int) == (bs.length:Int))=false:=beq_eq_false_iff_ne.2 (by omega)
 have t1:(a=bs.length)=False:=eq_false (by omega)
 have t2:decide (a=bs.length)=false:=decide_eq_false (by omega)
 have t3:(a:Int) < (bs.length:Int):=ha1
 have t4:a < bs.length:=by omega
 have t5:decide (a < bs.length)=true:=decide_eq_true t4
 have hwr:=qAA.mk (show wrap64 ((a:Int)+1)=(a:Int)+1 by have:=hU.L;unfold wrap64;omega)
 have HL0:=qAA.mk hl0
 have HL1:=qAA.mk hl1
 obtain ⟨ad,hA,hx0⟩:=Kd.qBl hC (a:Int) (by omega) ha1
 subst hA
 rw [Int.toNat_natCast,ht] at hx0
 have HBW:=qAA.mk ((Below.refl w.heap.size w).alloc (Nat.le_refl _) (.cells #[.int .i64 0,.int .i64 0,.string ⟨#[]⟩,.slice none 0 0,.slice none 0 0] 34))
 have L1:=qAA.mk (show sa.Ly (w.alloc (.cells #[.int .i64 0,.int .i64 0,.string ⟨#[]⟩,.slice none 0 0,.slice none 0 0] 34)) g (some ad) bs.length c (a:Int) l (ad.add a) 5 w.heap.size #[.int .i64 0,.int .i64 0,.string ⟨#[]⟩,.slice none 0 0,.slice none 0 0] from ⟨HB.out.below HBW.out,(HBW.out.cell (qs4 w _ hx0)).trans hx0,by simpa using heap_alloc_new w _⟩)
 clear hx0
 have h0:=L1.out.blk.c0;have h1:=L1.out.blk.c1;have h2:=L1.out.blk.c2;have f1:=L1.out.blk.fz 1;have f2:=L1.out.blk.fz 2;have hx0:=L1.out.byt;have fr_:=qAC L1.out.res 0
 have HF4:∀ W4,W4=((w.alloc (.cells #[.int .i64 0,.int .i64 0,.string ⟨#[]⟩,.slice none 0 0,.slice none 0 0] 34)).setCell ⟨g,2,none⟩ (.int .i64 (l - 1))).setCell ⟨g,1,none⟩ (.int .i64 ((a:Int)+1))→sa.Fr g w W4∧Below w0.heap.size w0 W4:=by
  rintro _ rfl
  exact ⟨((sa.Fr.of_below HBW.out).trans (sa.Fr.set _ _ _ _)).trans (sa.Fr.set _ _ _ _),((HBB.out.alloc HBB.out.size _).setCell hg _).setCell hg _⟩
 have HF4:=qAA.mk HF4
 have hs0:wrap64 ((a:Int)+1)=(a:Int)+1:=hwr.out
 have HCN:=qAA.mk (fun (W:World) (x1:Below w0.heap.size w0 W) (x2:sa.Blk W g (some ad) bs.length c ((a:Int)+1) (l - 1)) (x3:(Kd.int .u8).C W (some ad) bs.length bs)=>sa.countN hU x1 hg x2 x3 hc (a:Int) 1 he (by omega) (by omega) (by omega) (by omega) hn)
 have HGL:=qAA.mk hgl
 clear hU hb hg hB hC hc ha1 hl0 hl1 ha0 hgl
 go_enter Try.func73,Try.ntmps73
 go_wp2_with (first | (go_at_call 88;refine (sa.qBc L1.out.blk 1 (a:Int) HL0.out HL1.out (by omega)).mono ?_;rintro e_ w3 ⟨rfl,hx⟩;have L3:=qAA.mk (L1.out.fr (hx▸sa.Fr.set _ _ _ _) (hx▸L1.out.blk.set2 _));have HX3:=qAA.mk hx;clear hx;clear h0 h1 h2 f1 f2 hx0 fr_;have h0:=L3.out.blk.c0;have h1:=L3.out.blk.c1;have h2:=L3.out.blk.c2;have f1:=L3.out.blk.fz 1;have f2:=L3.out.blk.fz 2;have hx0:=L3.out.byt;have fr_:=qAC L3.out.res 0) | ((with_reducible refine qAn (p:=48) rfl ?_);go_must (refine qA0 ?hg (t:=3) (p:=48) (v:=.tmp 46) (w1:=w3.setCell ⟨g,1,none⟩ (.int .i64 (wrap64 ((a:Int)+1)))) ?ho ?hN ?hr ?_);(case ho=>rfl);(case hN=>rfl);(case hg=>rfl);(case hr=>first | (go_simp;done) | (go_simp;rfl));intro w4 e4;rw [hwr.out] at e4;have L4:=qAA.mk (L3.out.fr (e4▸sa.Fr.set _ _ _ _) (e4▸L3.out.blk.set1 _));have HX4:=qAA.mk e4;clear e4;have HFW:=qAA.mk (HF4.out _ (HX4.out.trans (by rw [HX3.out])));clear h0 h1 h2 f1 f2 hx0 fr_;have h0:=L4.out.blk.c0;have h1:=L4.out.blk.c1;have h2:=L4.out.blk.c2;have f1:=L4.out.blk.fz 1;have f2:=L4.out.blk.fz 2;have hx0:=L4.out.byt;have fr_:=qAC L4.out.res 0) | ((with_reducible refine qAn (p:=10) rfl ?_);refine sa.qBT rfl rfl 10 _ rfl w4.heap.size rfl (.int .i64 4) (.int .i64 0) (.string ⟨#[]⟩) (.slice none 0 0) (.slice none 0 0) rfl (fun q hq=>by simp at hq;rcases hq with rfl | rfl | rfl | rfl | rfl <;> rfl) _ rfl (by simpa using heap_alloc_new w4 _) ?_;intro w5 hres hgr;have HB5:=qAA.mk (sa.own_res hgr);have L5:=qAA.mk (L4.out.below HB5.out);have hv:w.heap.size < w4.heap.size:=by { rw [HX4.out,HX3.out,Deep.nblk_setCell,Deep.nblk_setCell,Deep.nblk_alloc];exact Nat.lt_succ_self _ };have Q5:=qAA.mk (show sa.LQ w0 w w5 g (some ad) bs.length c w4.heap.size ((a:Int)+1) (l - 1) 4 (.slice none 0 0) (.slice none 0 0) [] [] from ⟨L5.out.blk,HFW.out.1.trans (sa.Fr.of_below HB5.out),qAf HFW.out.2 HFW.out.2.size HB5.out,hres,L5.out.res,Kd.qBn _ _ _ _ _,Kd.qBn _ _ _ _ _,hv,HGL.out,HGG.out⟩);clear hres hgr hv;clear h0 h1 h2 f1 f2 hx0 fr_;have h0:=L5.out.blk.c0;have h1:=L5.out.blk.c1;have h2:=L5.out.blk.c2;have f1:=L5.out.blk.fz 1;have f2:=L5.out.blk.fz 2;have hx0:=L5.out.byt;have fr_:=qAC L5.out.res 0) | (go_at_call 90;refine (HCN.out _ Q5.out.bel Q5.out.blk (sa.qBA HC.out HB.out Q5.out.fr)).mono ?_;rintro e_ w5 ⟨rfl,hx⟩;have HX5:=qAA.mk hx;clear hx;unfold sa.flt))
 exact ⟨rfl,rfl,Q5.out.fr.trans HX5.out.fr,HX5.out.bel⟩
theorem sa.val_t6E {bs:List Int} {u i:Int→Int × Int × Int} (hU:sa.Uin bs u i) {w0 w:World} {g:Nat} {A:Option Addr} {c:Nat} {a l:Int} (hb:Below w0.heap.size w0 w) (hg:w0.heap.size≤g) (hB:sa.Blk w g A bs.length c a l) (hC:(Kd.int .u8).C w A bs.length bs) (hc:bs.length≤c) (within:Int) (hw:(within == 8)=false) (ha0:0≤a) (ha1:a < (bs.length:Int)) (hl0:1≤l) (hl1:l≤2048) (ht:rd bs a=6) (he:(u (a+1)).2.2 ≠ 0) :
  Calls Try.prog 73 #[.pointer (some ⟨g,0,none⟩),.int .i64 within] w (sa.GotV (.bad 41 (a+1)) w0 w g A bs.length c):=by
 have HB:=qAA.mk hB
 have HC:=qAA.mk hC
 have HCC:=qAA.mk hc
 have HBB:=qAA.mk hb
 have HGG:=qAA.mk hg
 have HLL:=qAA.mk hU.L
 have HUU:=qAA.mk hU
 have hgl:g < w.heap.size:=qAp hB
 have hu25:=Try.underlying34
 obtain ⟨a,rfl⟩:=Int.eq_ofNat_of_zero_le ha0
 have t0:((a:Int) == (bs.length:Int))=false:=beq_eq_false_iff_ne.2 (by omega)
 have t1:(a=bs.length)=False:=eq_false (by omega)
 have t2:decide (a=bs.length)=false:=decide_eq_false (by omega)
 have t3:(a:Int) < (bs.length:Int):=ha1
 have t4:a < bs.length:=by omega
 have t5:decide (a < bs.length)=true:=decide_eq_true t4
 have hwr:=qAA.mk (show wrap64 ((a:Int)+1)=(a:Int)+1 by have:=hU.L;unfold wrap64;omega)
 have HL0:=qAA.mk hl0
 have HL1:=qAA.mk hl1
 obtain ⟨ad,hA,hx0⟩:=Kd.qBl hC (a:Int) (by omega) ha1
 subst hA
 rw [Int.toNat_natCast,ht] at hx0
 have HBW:=qAA.mk ((Below.refl w.heap.size w).alloc (Nat.le_refl _) (.cells #[.int .i64 0,.int .i64 0,.string ⟨#[]⟩,.slice none 0 0,.slice none 0 0] 34))
 have L1:=qAA.mk (show sa.Ly (w.alloc (.cells #[.int .i64 0,.int .i64 0,.string ⟨#[]⟩,.slice none 0 0,.slice none 0 0] 34)) g (some ad) bs.length c (a:Int) l (ad.add a) 6 w.heap.size #[.int .i64 0,.int .i64 0,.string ⟨#[]⟩,.slice none 0 0,.slice none 0 0] from ⟨HB.out.below HBW.out,(HBW.out.cell (qs4 w _ hx0)).trans hx0,by simpa using heap_alloc_new w _⟩)
 clear hx0
 have h0:=L1.out.blk.c0;have h1:=L1.out.blk.c1;have h2:=L1.out.blk.c2;have f1:=L1.out.blk.fz 1;have f2:=L1.out.blk.fz 2;have hx0:=L1.out.byt;have fr_:=qAC L1.out.res 0
 have HF4:∀ W4,W4=((w.alloc (.cells #[.int .i64 0,.int .i64 0,.string ⟨#[]⟩,.slice none 0 0,.slice none 0 0] 34)).setCell ⟨g,2,none⟩ (.int .i64 (l - 1))).setCell ⟨g,1,none⟩ (.int .i64 ((a:Int)+1))→sa.Fr g w W4∧Below w0.heap.size w0 W4:=by
  rintro _ rfl
  exact ⟨((sa.Fr.of_below HBW.out).trans (sa.Fr.set _ _ _ _)).trans (sa.Fr.set _ _ _ _),((HBB.out.alloc HBB.out.size _).setCell hg _).setCell hg _⟩
 have HF4:=qAA.mk HF4
 have hs0:wrap64 ((a:Int)+1)=(a:Int)+1:=hwr.out
 have HCN:=qAA.mk (fun (W:World) (x1:Below w0.heap.size w0 W) (x2:sa.Blk W g (some ad) bs.length c ((a:Int)+1) (l - 1)) (x3:(Kd.int .u8).C W (some ad) bs.length bs)=>sa.countE hU x1 hg x2 x3 hc (a:Int) 2 he)
 have HGL:=qAA.mk hgl
 clear hU hb hg hB hC hc ha1 hl0 hl1 ha0 hgl
 go_enter Try.func73,Try.ntmps73
 go_wp2_with (first | (go_at_call 88;refine (sa.qBc L1.out.blk 1 (a:Int) HL0.out HL1.out (by omega)).mono ?_;rintro e_ w3 ⟨rfl,hx⟩;have L3:=qAA.mk (L1.out.fr (hx▸sa.Fr.set _ _ _ _) (hx▸L1.out.blk.set2 _));have HX3:=qAA.mk hx;clear hx;clear h0 h1 h2 f1 f2 hx0 fr_;have h0:=L3.out.blk.c0;have h1:=L3.out.blk.c1;have h2:=L3.out.blk.c2;have f1:=L3.out.blk.fz 1;have f2:=L3.out.blk.fz 2;have hx0:=L3.out.byt;have fr_:=qAC L3.out.res 0) | ((with_reducible refine qAn (p:=48) rfl ?_);go_must (refine qA0 ?hg (t:=3) (p:=48) (v:=.tmp 46) (w1:=w3.setCell ⟨g,1,none⟩ (.int .i64 (wrap64 ((a:Int)+1)))) ?ho ?hN ?hr ?_);(case ho=>rfl);(case hN=>rfl);(case hg=>rfl);(case hr=>first | (go_simp;done) | (go_simp;rfl));intro w4 e4;rw [hwr.out] at e4;have L4:=qAA.mk (L3.out.fr (e4▸sa.Fr.set _ _ _ _) (e4▸L3.out.blk.set1 _));have HX4:=qAA.mk e4;clear e4;have HFW:=qAA.mk (HF4.out _ (HX4.out.trans (by rw [HX3.out])));clear h0 h1 h2 f1 f2 hx0 fr_;have h0:=L4.out.blk.c0;have h1:=L4.out.blk.c1;have h2:=L4.out.blk.c2;have f1:=L4.out.blk.fz 1;have f2:=L4.out.blk.fz 2;have hx0:=L4.out.byt;have fr_:=qAC L4.out.res 0) | ((with_reducible refine qAn (p:=11) rfl ?_);refine sa.qBT rfl rfl 11 _ rfl w4.heap.size rfl (.int .i64 5) (.int .i64 0) (.string ⟨#[]⟩) (.slice none 0 0) (.slice none 0 0) rfl (fun q hq=>by simp at hq;rcases hq with rfl | rfl | rfl | rfl | rfl <;> rfl) _ rfl (by simpa using heap_alloc_new w4 _) ?_;intro w5 hres hgr;have HB5:=qAA.mk (sa.own_res hgr);have L5:=qAA.mk (L4.out.below HB5.out);have hv:w.heap.size < w4.heap.size:=by { rw [HX4.out,HX3.out,Deep.nblk_setCell,Deep.nblk_setCell,Deep.nblk_alloc];exact Nat.lt_succ_self _ };have Q5:=qAA.mk (show sa.LQ w0 w w5 g (some ad) bs.length c w4.heap.size ((a:Int)+1) (l - 1) 5 (.slice none 0 0) (.slice none 0 0) [] [] from ⟨L5.out.blk,HFW.out.1.trans (sa.Fr.of_below HB5.out),qAf HFW.out.2 HFW.out.2.size HB5.out,hres,L5.out.res,Kd.qBn _ _ _ _ _,Kd.qBn _ _ _ _ _,hv,HGL.out,HGG.out⟩);clear hres hgr hv;clear h0 h1 h2 f1 f2 hx0 fr_;have h0:=L5.out.blk.c0;have h1:=L5.out.blk.c1;have h2:=L5.out.blk.c2;have f1:=L5.out.blk.fz 1;have f2:=L5.out.blk.fz 2;have hx0:=L5.out.byt;have fr_:=qAC L5.out.res 0) | (go_at_call 90;refine (HCN.out _ Q5.out.bel Q5.out.blk (sa.qBA HC.out HB.out Q5.out.fr)).mono ?_;rintro e_ w5 ⟨rfl,hx⟩;have HX5:=qAA.mk hx;clear hx;unfold sa.flt))
 exact ⟨rfl,rfl,Q5.out.fr.trans HX5.out.fr,HX5.out.bel⟩
theorem sa.val_t6S {bs:List Int} {u i:Int→Int × Int × Int} (hU:sa.Uin bs u i) {w0 w:World} {g:Nat} {A:Option Addr} {c:Nat} {a l:Int} (hb:Below w0.heap.size w0 w) (hg:w0.heap.size≤g) (hB:sa.Blk w g A bs.length c a l) (hC:(Kd.int .u8).C w A bs.length bs) (hc:bs.length≤c) (within:Int) (hw:(within == 8)=false) (ha0:0≤a) (ha1:a < (bs.length:Int)) (hl0:1≤l) (hl1:l≤2048) (ht:rd bs a=6) (he:(u (a+1)).2.2=0) (hn:(l - 1) / 2 < (u (a+1)).1) :
  Calls Try.prog 73 #[.pointer (some ⟨g,0,none⟩),.int .i64 within] w (sa.GotV (.bad 42 a) w0 w g A bs.length c):=by
 have HB:=qAA.mk hB
 have HC:=qAA.mk hC
 have HCC:=qAA.mk hc
 have HBB:=qAA.mk hb
 have HGG:=qAA.mk hg
 have HLL:=qAA.mk hU.L
 have HUU:=qAA.mk hU
 have hgl:g < w.heap.size:=qAp hB
 have hu25:=Try.underlying34
 obtain ⟨a,rfl⟩:=Int.eq_ofNat_of_zero_le ha0
 have t0:((a:Int) == (bs.length:Int))=false:=beq_eq_false_iff_ne.2 (by omega)
 have t1:(a=bs.length)=False:=eq_false (by omega)
 have t2:decide (a=bs.length)=false:=decide_eq_false (by omega)
 have t3:(a:Int) < (bs.length:Int):=ha1
 have t4:a < bs.length:=by omega
 have t5:decide (a < bs.length)=true:=decide_eq_true t4
 have hwr:=qAA.mk (show wrap64 ((a:Int)+1)=(a:Int)+1 by have:=hU.L;unfold wrap64;omega)
 have HL0:=qAA.mk hl0
 have HL1:=qAA.mk hl1
 obtain ⟨ad,hA,hx0⟩:=Kd.qBl hC (a:Int) (by omega) ha1
 subst hA
 rw [Int.toNat_natCast,ht] at hx0
 have HBW:=qAA.mk ((Below.refl w.heap.size w).alloc (Nat.le_refl _) (.cells #[.int .i64 0,.int .i64 0,.string ⟨#[]⟩,.slice none 0 0,.slice none 0 0] 34))
 have L1:=qAA.mk (show sa.Ly (w.alloc (.cells #[.int .i64 0,.int .i64 0,.string ⟨#[]⟩,.slice none 0 0,.slice none 0 0] 34)) g (some ad) bs.length c (a:Int) l (ad.add a) 6 w.heap.size #[.int .i64 0,.int .i64 0,.string ⟨#[]⟩,.slice none 0 0,.slice none 0 0] from ⟨HB.out.below HBW.out,(HBW.out.cell (qs4 w _ hx0)).trans hx0,by simpa using heap_alloc_new w _⟩)
 clear hx0
 have h0:=L1.out.blk.c0;have h1:=L1.out.blk.c1;have h2:=L1.out.blk.c2;have f1:=L1.out.blk.fz 1;have f2:=L1.out.blk.fz 2;have hx0:=L1.out.byt;have fr_:=qAC L1.out.res 0
 have HF4:∀ W4,W4=((w.alloc (.cells #[.int .i64 0,.int .i64 0,.string ⟨#[]⟩,.slice none 0 0,.slice none 0 0] 34)).setCell ⟨g,2,none⟩ (.int .i64 (l - 1))).setCell ⟨g,1,none⟩ (.int .i64 ((a:Int)+1))→sa.Fr g w W4∧Below w0.heap.size w0 W4:=by
  rintro _ rfl
  exact ⟨((sa.Fr.of_below HBW.out).trans (sa.Fr.set _ _ _ _)).trans (sa.Fr.set _ _ _ _),((HBB.out.alloc HBB.out.size _).setCell hg _).setCell hg _⟩
 have HF4:=qAA.mk HF4
 have hs0:wrap64 ((a:Int)+1)=(a:Int)+1:=hwr.out
 have HCN:=qAA.mk (fun (W:World) (x1:Below w0.heap.size w0 W) (x2:sa.Blk W g (some ad) bs.length c ((a:Int)+1) (l - 1)) (x3:(Kd.int .u8).C W (some ad) bs.length bs)=>sa.countN hU x1 hg x2 x3 hc (a:Int) 2 he (by omega) (by omega) (by omega) (by omega) hn)
 have HGL:=qAA.mk hgl
 clear hU hb hg hB hC hc ha1 hl0 hl1 ha0 hgl
 go_enter Try.func73,Try.ntmps73
 go_wp2_with (first | (go_at_call 88;refine (sa.qBc L1.out.blk 1 (a:Int) HL0.out HL1.out (by omega)).mono ?_;rintro e_ w3 ⟨rfl,hx⟩;have L3:=qAA.mk (L1.out.fr (hx▸sa.Fr.set _ _ _ _) (hx▸L1.out.blk.set2 _));have HX3:=qAA.mk hx;clear hx;clear h0 h1 h2 f1 f2 hx0 fr_;have h0:=L3.out.blk.c0;have h1:=L3.out.blk.c1;have h2:=L3.out.blk.c2;have f1:=L3.out.blk.fz 1;have f2:=L3.out.blk.fz 2;have hx0:=L3.out.byt;have fr_:=qAC L3.out.res 0) | ((with_reducible refine qAn (p:=48) rfl ?_);go_must (refine qA0 ?hg (t:=3) (p:=48) (v:=.tmp 46) (w1:=w3.setCell ⟨g,1,none⟩ (.int .i64 (wrap64 ((a:Int)+1)))) ?ho ?hN ?hr ?_);(case ho=>rfl);(case hN=>rfl);(case hg=>rfl);(case hr=>first | (go_simp;done) | (go_simp;rfl));intro w4 e4;rw [hwr.out] at e4;have L4:=qAA.mk (L3.out.fr (e4▸sa.Fr.set _ _ _ _) (e4▸L3.out.blk.set1 _));have HX4:=qAA.mk e4;clear e4;have HFW:=qAA.mk (HF4.out _ (HX4.out.trans (by rw [HX3.out])));clear h0 h1 h2 f1 f2 hx0 fr_;have h0:=L4.out.blk.c0;have h1:=L4.out.blk.c1;have h2:=L4.out.blk.c2;have f1:=L4.out.blk.fz 1;have f2:=L4.out.blk.fz 2;have hx0:=L4.out.byt;have fr_:=qAC L4.out.res 0) | ((with_reducible refine qAn (p:=11) rfl ?_);refine sa.qBT rfl rfl 11 _ rfl w4.heap.size rfl (.int .i64 5) (.int .i64 0) (.string ⟨#[]⟩) (.slice none 0 0) (.slice none 0 0) rfl (fun q hq=>by simp at hq;rcases hq with rfl | rfl | rfl | rfl | rfl <;> rfl) _ rfl (by simpa using heap_alloc_new w4 _) ?_;intro w5 hres hgr;have HB5:=qAA.mk (sa.own_res hgr);have L5:=qAA.mk (L4.out.below HB5.out);have hv:w.heap.size < w4.heap.size:=by { rw [HX4.out,HX3.out,Deep.nblk_setCell,Deep.nblk_setCell,Deep.nblk_alloc];exact Nat.lt_succ_self _ };have Q5:=qAA.mk (show sa.LQ w0 w w5 g (some ad) bs.length c w4.heap.size ((a:Int)+1) (l - 1) 5 (.slice none 0 0) (.slice none 0 0) [] [] from ⟨L5.out.blk,HFW.out.1.trans (sa.Fr.of_below HB5.out),qAf HFW.out.2 HFW.out.2.size HB5.out,hres,L5.out.res,Kd.qBn _ _ _ _ _,Kd.qBn _ _ _ _ _,hv,HGL.out,HGG.out⟩);clear hres hgr hv;clear h0 h1 h2 f1 f2 hx0 fr_;have h0:=L5.out.blk.c0;have h1:=L5.out.blk.c1;have h2:=L5.out.blk.c2;have f1:=L5.out.blk.fz 1;have f2:=L5.out.blk.fz 2;have hx0:=L5.out.byt;have fr_:=qAC L5.out.res 0) | (go_at_call 90;refine (HCN.out _ Q5.out.bel Q5.out.blk (sa.qBA HC.out HB.out Q5.out.fr)).mono ?_;rintro e_ w5 ⟨rfl,hx⟩;have HX5:=qAA.mk hx;clear hx;unfold sa.flt))
 exact ⟨rfl,rfl,Q5.out.fr.trans HX5.out.fr,HX5.out.bel⟩
end
end Go.Proofs.Ytdommiicjpjfpaa.X
namespace Go.Proofs.Ytdommiicjpjfpaa.X
open Go.RowKit Go.Proofs.YtdommiicjpjfpaaW.PrintWords Go.Proofs.YtdommiicjpjfpaaW.PrintLast Go.Proofs.YtdommiicjpjfpaaW.PrintMore Go.Proofs.YtdommiicjpjfpaaW
section
set_option maxHeartbeats 4000000
set_option maxRecDepth 100000
def sa.Bd (n:Nat) (a l:Int):Prop:=0≤a∧a≤(n:Int)∧0≤l∧l≤2048
theorem sa.arrL_b {n:Nat} {f:Int→Int→sa.R3 S34} (hf:∀ (a l:Int) (x:S34) (a2 l2:Int),sa.Bd n a l→f a l=.ok x a2 l2→sa.Bd n a2 l2):∀ (k:Nat) (acc:List S34) (a l:Int) (vs:List S34) (a2 l2:Int),sa.Bd n a l→sa.arrL f k acc a l=.ok vs a2 l2→sa.Bd n a2 l2
 | 0,acc,a,l,vs,a2,l2,hb,h=>by
  unfold sa.arrL at h
  injection h with _ e2 e3
  subst e2;subst e3;exact hb
 | k+1,acc,a,l,vs,a2,l2,hb,h=>by
  unfold sa.arrL at h
  rcases hfa:f a l with ⟨x,a1,l1⟩ | ⟨e,p⟩
  ·rw [hfa] at h
   exact sa.arrL_b hf k _ a1 l1 vs a2 l2 (hf a l x a1 l1 hb hfa) h
  ·rw [hfa] at h;cases h
theorem sa.recL_b {bs:List Int} {u i:Int→Int × Int × Int} (hU:sa.Uin bs u i) {f:Int→Int→sa.R3 S34} (hf:∀ (a l:Int) (x:S34) (a2 l2:Int),sa.Bd bs.length a l→f a l=.ok x a2 l2→sa.Bd bs.length a2 l2):∀ (k:Nat) (ks:List ByteArray) (acc:List S34) (a l:Int) (vs:List ByteArray × List S34) (a2 l2:Int),sa.Bd bs.length a l→sa.recL bs u f k ks acc a l=.ok vs a2 l2→sa.Bd bs.length a2 l2
 | 0,ks,acc,a,l,vs,a2,l2,hb,h=>by
  unfold sa.recL at h
  injection h with _ e2 e3
  subst e2;subst e3;exact hb
 | k+1,ks,acc,a,l,vs,a2,l2,hb,h=>by
  unfold sa.recL at h
  rcases hka:sa.keyS bs u ks a l with ⟨kk,a1,l1⟩ | ⟨e,p⟩
  ·rw [hka] at h
   have hb1:sa.Bd bs.length a1 l1:=sa.keyS_b hU ⟨hb.2.2.1,hb.2.2.2⟩ hka
   dsimp only at h
   rcases hfa:f a1 l1 with ⟨x,a3,l3⟩ | ⟨e,p⟩
   ·rw [hfa] at h
    exact sa.recL_b hU hf k _ _ a3 l3 vs a2 l2 (hf a1 l1 x a3 l3 hb1 hfa) h
   ·rw [hfa] at h;cases h
  ·rw [hka] at h;cases h
theorem sa.valS_s (bs:List Int) (u i:Int→Int × Int × Int) (d:Nat) (a l:Int):sa.valS bs u i (d+1) a l =
  if a=(bs.length:Int) ∨ rd bs a > 6 then .bad 41 a
  else if 1 > l then .bad 42 a
  else if rd bs a=1 then .ok ⟨1,0,⟨#[]⟩,[],[]⟩ (a+1) (l - 1)
  else if rd bs a=2 then .ok ⟨1,1,⟨#[]⟩,[],[]⟩ (a+1) (l - 1)
  else if rd bs a=3 then (if (i (a+1)).2.2 ≠ 0 then .bad 41 (a+1) else .ok ⟨2,(i (a+1)).1,⟨#[]⟩,[],[]⟩ (i (a+1)).2.1 (l - 1))
  else if rd bs a=4 then (if (u (a+1)).2.2 ≠ 0 then .bad 41 (a+1) else if (l - 1) / 1 < (u (a+1)).1 then .bad 42 a else if (bs.length:Int) - (u (a+1)).2.1 < (u (a+1)).1 then .bad 41 (a+1) else .ok ⟨3,0,strOfNums ((bs.drop (u (a+1)).2.1.toNat).take (u (a+1)).1.toNat),[],[]⟩ ((u (a+1)).2.1+(u (a+1)).1) (l - 1 - (u (a+1)).1))
  else if rd bs a=5 then (if (u (a+1)).2.2 ≠ 0 then .bad 41 (a+1) else if (l - 1) / 1 < (u (a+1)).1 then .bad 42 a else sa.arrV (sa.arrL (sa.valS bs u i d) (u (a+1)).1.toNat [] (u (a+1)).2.1 (l - 1)))
  else if rd bs a=6 then (if (u (a+1)).2.2 ≠ 0 then .bad 41 (a+1) else if (l - 1) / 2 < (u (a+1)).1 then .bad 42 a else sa.recV (sa.recL bs u (sa.valS bs u i d) (u (a+1)).1.toNat [] [] (u (a+1)).2.1 (l - 1)))
  else .ok ⟨0,0,⟨#[]⟩,[],[]⟩ (a+1) (l - 1):=by
 rw [sa.valS]
 by_cases h0:a=(bs.length:Int) ∨ rd bs a > 6
 ·rw [if_pos h0,if_pos h0]
 rw [if_neg h0,if_neg h0]
 by_cases h1:1 > l
 ·rw [if_pos h1,if_pos h1]
 rw [if_neg h1,if_neg h1]
 by_cases k1:rd bs a=1
 ·rw [if_pos k1,if_pos k1]
 rw [if_neg k1,if_neg k1]
 by_cases k2:rd bs a=2
 ·rw [if_pos k2,if_pos k2]
 rw [if_neg k2,if_neg k2]
 by_cases k3:rd bs a=3
 ·rw [if_pos k3,if_pos k3]
 rw [if_neg k3,if_neg k3]
 by_cases k4:rd bs a=4
 ·rw [if_pos k4,if_pos k4]
  unfold sa.qCF
  by_cases e1:(u (a+1)).2.2 ≠ 0
  ·rw [if_pos e1,if_pos e1]
  rw [if_neg e1,if_neg e1]
  by_cases e2:(l - 1) / 1 < (u (a+1)).1
  ·rw [if_pos e2,if_pos e2]
  rw [if_neg e2,if_neg e2]
 rw [if_neg k4,if_neg k4]
 by_cases k5:rd bs a=5
 ·rw [if_pos k5,if_pos k5]
  unfold sa.qCF
  by_cases e1:(u (a+1)).2.2 ≠ 0
  ·rw [if_pos e1,if_pos e1]
  rw [if_neg e1,if_neg e1]
  by_cases e2:(l - 1) / 1 < (u (a+1)).1
  ·rw [if_pos e2,if_pos e2]
  rw [if_neg e2,if_neg e2]
  dsimp only
  rcases sa.arrL (sa.valS bs u i d) (u (a+1)).1.toNat [] (u (a+1)).2.1 (l - 1) with ⟨x,a3,l3⟩ | ⟨e,p⟩ <;> rfl
 rw [if_neg k5,if_neg k5]
 by_cases k6:rd bs a=6
 ·rw [if_pos k6,if_pos k6]
  unfold sa.qCF
  by_cases e1:(u (a+1)).2.2 ≠ 0
  ·rw [if_pos e1,if_pos e1]
  rw [if_neg e1,if_neg e1]
  by_cases e2:(l - 1) / 2 < (u (a+1)).1
  ·rw [if_pos e2,if_pos e2]
  rw [if_neg e2,if_neg e2]
  dsimp only
  rcases sa.recL bs u (sa.valS bs u i d) (u (a+1)).1.toNat [] [] (u (a+1)).2.1 (l - 1) with ⟨⟨x,y⟩,a3,l3⟩ | ⟨e,p⟩ <;> rfl
 rw [if_neg k6,if_neg k6]
theorem sa.valS_b {bs:List Int} {u i:Int→Int × Int × Int} (hU:sa.Uin bs u i):∀ (d:Nat) (a l:Int) (x:S34) (a2 l2:Int),sa.Bd bs.length a l→sa.valS bs u i d a l=.ok x a2 l2→sa.Bd bs.length a2 l2
 | 0,a,l,x,a2,l2,hb,h=>by
  rw [sa.valS] at h
  split at h <;> cases h
 | d+1,a,l,x,a2,l2,hb,h=>by
  rw [sa.valS_s] at h
  obtain ⟨b1,b2,b3,b4⟩:=hb
  by_cases h0:a=(bs.length:Int) ∨ rd bs a > 6
  ·rw [if_pos h0] at h;cases h
  rw [if_neg h0] at h
  have h0':a ≠ (bs.length:Int):=fun e=>h0 (Or.inl e)
  by_cases h1:1 > l
  ·rw [if_pos h1] at h;cases h
  rw [if_neg h1] at h
  have hone:sa.Bd bs.length (a+1) (l - 1):=⟨by omega,by omega,by omega,by omega⟩
  by_cases k1:rd bs a=1
  ·rw [if_pos k1] at h;injection h with _ e2 e3;subst e2;subst e3;exact hone
  rw [if_neg k1] at h
  by_cases k2:rd bs a=2
  ·rw [if_pos k2] at h;injection h with _ e2 e3;subst e2;subst e3;exact hone
  rw [if_neg k2] at h
  by_cases k3:rd bs a=3
  ·rw [if_pos k3] at h
   by_cases e1:(i (a+1)).2.2 ≠ 0
   ·rw [if_pos e1] at h;cases h
   rw [if_neg e1] at h
   have hN:=hU.M (a+1) (Classical.byContradiction e1)
   injection h with _ e2 e3;subst e2;subst e3;exact ⟨by omega,by omega,by omega,by omega⟩
  rw [if_neg k3] at h
  by_cases k4:rd bs a=4
  ·rw [if_pos k4] at h
   by_cases e1:(u (a+1)).2.2 ≠ 0
   ·rw [if_pos e1] at h;cases h
   rw [if_neg e1] at h
   have hN:=hU.N (a+1) (Classical.byContradiction e1)
   have hR:=hU.R (a+1)
   by_cases e2:(l - 1) / 1 < (u (a+1)).1
   ·rw [if_pos e2] at h;cases h
   rw [if_neg e2] at h
   rw [Int.ediv_one] at e2
   by_cases e3:(bs.length:Int) - (u (a+1)).2.1 < (u (a+1)).1
   ·rw [if_pos e3] at h;cases h
   rw [if_neg e3] at h
   injection h with _ e2 e3;subst e2;subst e3;exact ⟨by omega,by omega,by omega,by omega⟩
  rw [if_neg k4] at h
  by_cases k5:rd bs a=5
  ·rw [if_pos k5] at h
   by_cases e1:(u (a+1)).2.2 ≠ 0
   ·rw [if_pos e1] at h;cases h
   rw [if_neg e1] at h
   have hN:=hU.N (a+1) (Classical.byContradiction e1)
   by_cases e2:(l - 1) / 1 < (u (a+1)).1
   ·rw [if_pos e2] at h;cases h
   rw [if_neg e2] at h
   rcases hL:sa.arrL (sa.valS bs u i d) (u (a+1)).1.toNat [] (u (a+1)).2.1 (l - 1) with ⟨x,a3,l3⟩ | ⟨e,p⟩
   ·rw [hL] at h
    have:=sa.arrL_b (sa.valS_b hU d) _ _ _ _ _ _ _ ⟨by omega,by omega,by omega,by omega⟩ hL
    injection h with _ e2 e3;subst e2;subst e3;exact this
   ·rw [hL] at h;cases h
  rw [if_neg k5] at h
  by_cases k6:rd bs a=6
  ·rw [if_pos k6] at h
   by_cases e1:(u (a+1)).2.2 ≠ 0
   ·rw [if_pos e1] at h;cases h
   rw [if_neg e1] at h
   have hN:=hU.N (a+1) (Classical.byContradiction e1)
   by_cases e2:(l - 1) / 2 < (u (a+1)).1
   ·rw [if_pos e2] at h;cases h
   rw [if_neg e2] at h
   rcases hL:sa.recL bs u (sa.valS bs u i d) (u (a+1)).1.toNat [] [] (u (a+1)).2.1 (l - 1) with ⟨⟨x,y⟩,a3,l3⟩ | ⟨e,p⟩
   ·rw [hL] at h
    have:=sa.recL_b hU (sa.valS_b hU d) _ _ _ _ _ _ _ _ ⟨by omega,by omega,by omega,by omega⟩ hL
    injection h with _ e2 e3;subst e2;subst e3;exact this
   ·rw [hL] at h;cases h
  rw [if_neg k6] at h
  injection h with _ e2 e3;subst e2;subst e3;exact hone
theorem sa.value1 {bs:List Int} {u i:Int→Int × Int × Int} (hU:sa.Uin bs u i) {w0:World} {g:Nat} {A:Option Addr} {c:Nat} (hg:w0.heap.size≤g) (hc:bs.length≤c):∀ (d:Nat),d≤8→∀ (within:Int),within=8 - (d:Int)→∀ (w:World) (a l:Int),Below w0.heap.size w0 w→sa.Blk w g A bs.length c a l→(Kd.int .u8).C w A bs.length bs→0≤a→a≤(bs.length:Int)→0≤l→l≤2048 →
  Calls Try.prog 73 #[.pointer (some ⟨g,0,none⟩),.int .i64 within] w (sa.GotV (sa.valS bs u i d a l) w0 w g A bs.length c):=by
 intro d
 induction d with
 | zero =>
  intro _ within hw w a l hb hB hC ha0 ha1 hl0 hl1
  rw [sa.valS]
  by_cases h0:a=(bs.length:Int) ∨ rd bs a > 6
  ·rw [if_pos h0]
   rcases h0 with h0 | h0
   ·exact sa.val_b1 hU hb hg hB hC hc within h0
   ·by_cases h00:a=(bs.length:Int)
    ·exact sa.val_b1 hU hb hg hB hC hc within h00
    ·exact sa.val_b2 hU hb hg hB hC hc within ha0 (by omega) h0
  rw [if_neg h0]
  exact sa.val_bd hU hb hg hB hC hc within (by subst hw;rfl) ha0 (by have:a ≠ (bs.length:Int):=fun e=>h0 (Or.inl e);omega) (by have:¬ rd bs a > 6:=fun e=>h0 (Or.inr e);omega)
 | succ d ih =>
  intro hd within hw w a l hb hB hC ha0 ha1 hl0 hl1
  rw [sa.valS_s]
  by_cases h0:a=(bs.length:Int) ∨ rd bs a > 6
  ·rw [if_pos h0]
   rcases h0 with h0 | h0
   ·exact sa.val_b1 hU hb hg hB hC hc within h0
   ·by_cases h00:a=(bs.length:Int)
    ·exact sa.val_b1 hU hb hg hB hC hc within h00
    ·exact sa.val_b2 hU hb hg hB hC hc within ha0 (by omega) h0
  rw [if_neg h0]
  have ha2:a < (bs.length:Int):=by
   have:a ≠ (bs.length:Int):=fun e=>h0 (Or.inl e)
   omega
  have hx:rd bs a≤6:=by
   have:¬ rd bs a > 6:=fun e=>h0 (Or.inr e)
   omega
  have hw8:(within == 8)=false:=beq_eq_false_iff_ne.2 (by omega)
  by_cases h1:1 > l
  ·rw [if_pos h1]
   exact sa.val_bw hU hb hg hB hC hc within hw8 ha0 ha2 hx h1
  rw [if_neg h1]
  have hl:1≤l:=by omega
  by_cases k1:rd bs a=1
  ·rw [if_pos k1];exact sa.val_t1 hU hb hg hB hC hc within hw8 ha0 ha2 hl hl1 k1
  rw [if_neg k1]
  by_cases k2:rd bs a=2
  ·rw [if_pos k2];exact sa.val_t2 hU hb hg hB hC hc within hw8 ha0 ha2 hl hl1 k2
  rw [if_neg k2]
  by_cases k3:rd bs a=3
  ·rw [if_pos k3]
   by_cases e1:(i (a+1)).2.2 ≠ 0
   ·rw [if_pos e1];exact sa.val_t3N hU hb hg hB hC hc within hw8 ha0 ha2 hl hl1 k3 e1
   ·rw [if_neg e1];exact sa.val_t3 hU hb hg hB hC hc within hw8 ha0 ha2 hl hl1 k3 (Classical.byContradiction e1)
  rw [if_neg k3]
  have hIH:∀ (W:World) (a l:Int),Below w0.heap.size w0 W→sa.Blk W g A bs.length c a l→(Kd.int .u8).C W A bs.length bs→0≤a→a≤(bs.length:Int)→0≤l→l≤2048→Calls Try.prog 73 #[.pointer (some ⟨g,0,none⟩),.int .i64 (within+1)] W (sa.GotV (sa.valS bs u i d a l) w0 W g A bs.length c):=ih (by omega) (within+1) (by omega)
  have hFB:∀ (a l:Int) (x:S34) (a2 l2:Int),0≤a→a≤(bs.length:Int)→0≤l→l≤2048→sa.valS bs u i d a l=.ok x a2 l2→0≤a2∧a2≤(bs.length:Int)∧0≤l2∧l2≤2048:=fun a l x a2 l2 q1 q2 q3 q4 q=>sa.valS_b hU d a l x a2 l2 ⟨q1,q2,q3,q4⟩ q
  have hwi:0≤within∧within≤8:=by omega
  by_cases k4:rd bs a=4
  ·rw [if_pos k4]
   by_cases e1:(u (a+1)).2.2 ≠ 0
   ·rw [if_pos e1];exact sa.val_t4E hU hb hg hB hC hc within hw8 ha0 ha2 hl hl1 k4 e1
   rw [if_neg e1]
   have e1':(u (a+1)).2.2=0:=Classical.byContradiction e1
   by_cases e2:(l - 1) / 1 < (u (a+1)).1
   ·rw [if_pos e2];exact sa.val_t4S hU hb hg hB hC hc within hw8 ha0 ha2 hl hl1 k4 e1' e2
   rw [if_neg e2]
   by_cases e3:(bs.length:Int) - (u (a+1)).2.1 < (u (a+1)).1
   ·rw [if_pos e3];exact sa.val_t4C hU hb hg hB hC hc within hw8 ha0 ha2 hl hl1 k4 e1' (Int.not_lt.1 e2) e3
   ·rw [if_neg e3];exact sa.val_t4 hU hb hg hB hC hc within hw8 ha0 ha2 hl hl1 k4 e1' (Int.not_lt.1 e2) (Int.not_lt.1 e3)
  rw [if_neg k4]
  by_cases k5:rd bs a=5
  ·rw [if_pos k5]
   by_cases e1:(u (a+1)).2.2 ≠ 0
   ·rw [if_pos e1];exact sa.val_t5E hU hb hg hB hC hc within hw8 ha0 ha2 hl hl1 k5 e1
   rw [if_neg e1]
   have e1':(u (a+1)).2.2=0:=Classical.byContradiction e1
   by_cases e2:(l - 1) / 1 < (u (a+1)).1
   ·rw [if_pos e2];exact sa.val_t5S hU hb hg hB hC hc within hw8 ha0 ha2 hl hl1 k5 e1' e2
   ·rw [if_neg e2];exact sa.val_t5 hU hb hg hB hC hc within hw8 ha0 ha2 hl hl1 k5 e1' (Int.not_lt.1 e2) hwi _ hFB hIH
  rw [if_neg k5]
  by_cases k6:rd bs a=6
  ·rw [if_pos k6]
   by_cases e1:(u (a+1)).2.2 ≠ 0
   ·rw [if_pos e1];exact sa.val_t6E hU hb hg hB hC hc within hw8 ha0 ha2 hl hl1 k6 e1
   rw [if_neg e1]
   have e1':(u (a+1)).2.2=0:=Classical.byContradiction e1
   by_cases e2:(l - 1) / 2 < (u (a+1)).1
   ·rw [if_pos e2];exact sa.val_t6S hU hb hg hB hC hc within hw8 ha0 ha2 hl hl1 k6 e1' e2
   ·rw [if_neg e2];exact sa.val_t6 hU hb hg hB hC hc within hw8 ha0 ha2 hl hl1 k6 e1' (Int.not_lt.1 e2) hwi _ hFB hIH
  rw [if_neg k6]
  have hbx:0≤rd bs a:=by
   have hlt:a.toNat < bs.length:=by omega
   have:rd bs a=bs[a.toNat]:=by unfold rd;rw [List.getD_eq_getElem?_getD,List.getElem?_eq_getElem hlt];rfl
   rw [this]
   exact (hU.B _ (List.getElem_mem hlt)).1
  exact sa.val_t0 hU hb hg hB hC hc within hw8 ha0 ha2 hl hl1 (by omega)
end
end Go.Proofs.Ytdommiicjpjfpaa.X
namespace Go.Proofs.Ytdommiicjpjfpaa.X
open Go.RowKit Go.Proofs.YtdommiicjpjfpaaW.PrintWords Go.Proofs.YtdommiicjpjfpaaW.PrintLast Go.Proofs.YtdommiicjpjfpaaW.PrintMore Go.Proofs.YtdommiicjpjfpaaW
section
set_option maxHeartbeats 4000000
set_option maxRecDepth 100000
def sa.KRow (w:World) (Y:Nat→Prop) (v:Value) (ks:List ByteArray):Prop :=
 (v=.slice none 0 0∧ks=[]) ∨ ∃ b c cs,v=.slice (some ⟨b,0,none⟩) ks.length c∧Y b∧w.heap[b]?=some (.cells cs 9 (0,0))∧ks.length≤c∧c≤cs.size∧c≤9223372036854775807∧∀ (i:Nat) k,ks[i]?=some k→cs[i]?=some (.string k)
def sa.grp (cs:Array Value) (o:Nat) (v0 v1 v2 v3 v4:Value):Prop:=cs[o]?=some v0∧cs[o+1]?=some v1∧cs[o+2]?=some v2∧cs[o+3]?=some v3∧cs[o+4]?=some v4
def sa.VRow (w:World) (Y:Nat→Prop):Nat→Value→List S34→Prop
 | 0,_,_=>False
 | d+1,v,xs=>(v=.slice none 0 0∧xs=[]) ∨ ∃ b c cs,v=.slice (some ⟨b,0,none⟩) xs.length c∧Y b∧w.heap[b]?=some (.cells cs 34 (0,0))∧xs.length≤c∧c * 5≤cs.size∧c≤9223372036854775807∧∀ (i:Nat) x,xs[i]?=some x→∃ u3 u4,sa.grp cs (i * 5) (.int .i64 x.f0) (.int .i64 x.f1) (.string x.f2) u3 u4∧sa.VRow w Y d u3 x.f3∧sa.KRow w Y u4 x.f4
def sa.deepL:Nat→List S34→Prop
 | 0,_=>False
 | d+1,xs=>∀ x ∈ xs,sa.deepL d x.f3
theorem sa.deepL_nil (d:Nat):sa.deepL (d+1) []:=fun x hx=>by cases hx
theorem sa.VRow.nil (w:World) (Y:Nat→Prop) (d:Nat):sa.VRow w Y (d+1) (.slice none 0 0) []:=Or.inl ⟨rfl,rfl⟩
theorem sa.seg_at {inner L:List Value} {o n j:Nat} {q:Value} (h:(inner.drop o).take n=L) (hq:L[j]?=some q):inner[o+j]?=some q:=by
 rw [← h,List.getElem?_take] at hq
 split at hq
 ·rwa [List.getElem?_drop] at hq
 ·cases hq
theorem sa.take_at {cur:Array Value} {m j:Nat} {q:Value} {inner:List Value} (h:cur.toList.take m=inner) (hq:inner[j]?=some q):cur[j]?=some q:=by
 rw [← h,List.getElem?_take] at hq
 split at hq
 ·rwa [Array.getElem?_toList] at hq
 ·cases hq
theorem sa.KRow.of_R {w:World} {Y ok:Nat→Prop} {base:Nat} {v:Value} {ks:List ByteArray} (h:Kd.string.R 9 w base ok v ks) (hY:∀ k,ok k→Y k):sa.KRow w Y v ks:=by
 obtain ⟨h0,inner,ho,hr⟩:=h
 rcases ho.2 with ⟨rfl,hn⟩ | ⟨g,cap,cur,rfl,hb,hh,hl,hm,hsz,hi⟩
 ·exact Or.inl ⟨rfl,List.length_eq_zero_iff.1 hn⟩
 ·refine Or.inr ⟨g,cap,cur,rfl,hY g (h0 g rfl),hh,hl, ?_,hm,fun i k hk => ?_⟩
  ·have:cur.size=cap * 1:=hsz
   omega
  ·have h1:(inner.drop (i * 1)).take 1=[.string k]:=hr.2 i k hk
   have h2:=sa.seg_at h1 (j:=0) rfl
   have h3:=sa.take_at hi h2
   rwa [Nat.mul_one,Nat.add_zero] at h3
theorem sa.VRow.of_R {w:World} {Y:Nat→Prop} {base:Nat}:∀ (d:Nat) {ok:Nat→Prop} {v:Value} {xs:List S34},k34.R 34 w base ok v xs→(∀ k,ok k→Y k)→sa.deepL d xs→sa.VRow w Y d v xs
 | 0,ok,v,xs,h,hY,hd=>hd.elim
 | d+1,ok,v,xs,h,hY,hd=>by
  obtain ⟨h0,inner,ho,hr⟩:=h
  rcases ho.2 with ⟨rfl,hn⟩ | ⟨g,cap,cur,rfl,hb,hh,hl,hm,hsz,hi⟩
  ·exact Or.inl ⟨rfl,List.length_eq_zero_iff.1 hn⟩
  ·refine Or.inr ⟨g,cap,cur,rfl,hY g (h0 g rfl),hh,hl, ?_,hm,fun i x hx => ?_⟩
   ·have:cur.size=cap * 5:=hsz
    omega
   ·have hM:=hr.2 i x hx
    obtain ⟨v3,v4,hcs,g3,g4⟩:=k34_openM hM
    have hcs':(inner.drop (i * 5)).take 5=[.int .i64 x.f0,.int .i64 x.f1,.string x.f2,v3,v4]:=hcs
    have hx2:x ∈ xs:=List.mem_of_getElem? hx
    exact ⟨v3,v4,⟨sa.take_at hi (sa.seg_at hcs' (j:=0) rfl),sa.take_at hi (sa.seg_at hcs' (j:=1) rfl),sa.take_at hi (sa.seg_at hcs' (j:=2) rfl),sa.take_at hi (sa.seg_at hcs' (j:=3) rfl),sa.take_at hi (sa.seg_at hcs' (j:=4) rfl)⟩,sa.VRow.of_R d g3 (fun k hk=>hY k hk.1) (hd x hx2),sa.KRow.of_R g4 (fun k hk=>hY k hk.1)⟩
theorem sa.cell_of {w:World} {b i t:Nat} {cs:Array Value} {q:Value} (h:w.heap[b]?=some (.cells cs t (0,0))) (hi:cs[i]?=some q):w.cell? ⟨b,i,none⟩=some q:=by
 have h2:=qAB h i
 rw [h2];exact hi
theorem sa.KRow.C {w:World} {Y:Nat→Prop} {v:Value} {ks:List ByteArray} (h:sa.KRow w Y v ks):∃ A c,v=.slice A ks.length c∧ks.length≤c∧Kd.string.C w A ks.length ks:=by
 rcases h with ⟨rfl,rfl⟩ | ⟨b,c,cs,rfl,_,hh,hl,hsz,hm,hc⟩
 ·exact ⟨none,0,rfl,Nat.le_refl _,rfl,by simp,fun hp=>absurd hp (by decide)⟩
 ·refine ⟨_,c,rfl,hl,rfl,by omega,fun hp=>⟨_,rfl,fun j p hj=>⟨[.string p],rfl,rfl,fun i u hu => ?_⟩⟩⟩
  cases i with
  | succ i=>simp at hu
  | zero =>
   have:u=.string p:=by simpa using hu.symm
   subst this
   have h1:=sa.cell_of hh (hc j p hj)
   have e:(⟨b,0,none⟩:Addr).add (j * Kd.string.sz+0)=⟨b,j,none⟩:=by
    rw [Addr.add_lit]
    show (⟨b,0+(j * 1+0),none⟩:Addr)=_
    rw [show 0+(j * 1+0)=j from by omega]
   rw [e];exact h1
theorem sa.VRow.C {w:World} {Y:Nat→Prop}:∀ (d:Nat) {v:Value} {xs:List S34},sa.VRow w Y d v xs→∃ A c,v=.slice A xs.length c∧xs.length≤c∧k34.C w A xs.length xs
 | 0,v,xs,h=>h.elim
 | d+1,v,xs,h=>by
  rcases h with ⟨rfl,rfl⟩ | ⟨b,c,cs,rfl,_,hh,hl,hsz,hm,hc⟩
  ·exact ⟨none,0,rfl,Nat.le_refl _,rfl,by simp,fun hp=>absurd hp (by decide)⟩
  ·refine ⟨_,c,rfl,hl,rfl,by omega,fun hp=>⟨_,rfl,fun j p hj => ?_⟩⟩
   obtain ⟨u3,u4,⟨q0,q1,q2,q3,q4⟩,r3,r4⟩:=hc j p hj
   obtain ⟨A3,c3,e3,l3,g3⟩:=sa.VRow.C d r3
   obtain ⟨A4,c4,e4,l4,g4⟩:=r4.C
   subst e3;subst e4
   refine ⟨[.int .i64 p.f0,.int .i64 p.f1,.string p.f2,.slice A3 p.f3.length c3,.slice A4 p.f4.length c4],rfl,k34_mk w p l3 g3 l4 g4,fun i u hu => ?_⟩
   have e:∀ i,(⟨b,0,none⟩:Addr).add (j * k34.sz+i)=⟨b,j * 5+i,none⟩:=fun i=>by
    rw [Addr.add_lit]
    show (⟨b,0+(j * 5+i),none⟩:Addr)=_
    rw [Nat.zero_add]
   rw [e]
   match i,hu with
   | 0,hu =>
     have:u=.int .i64 p.f0:=by simpa using hu.symm
     subst this;exact sa.cell_of hh q0
   | 1,hu =>
     have:u=.int .i64 p.f1:=by simpa using hu.symm
     subst this;exact sa.cell_of hh q1
   | 2,hu =>
     have:u=.string p.f2:=by simpa using hu.symm
     subst this;exact sa.cell_of hh q2
   | 3,hu =>
     have:u=.slice A3 p.f3.length c3:=by simpa using hu.symm
     subst this;exact sa.cell_of hh q3
   | 4,hu =>
     have:u=.slice A4 p.f4.length c4:=by simpa using hu.symm
     subst this;exact sa.cell_of hh q4
   | i+5,hu=>simp at hu
theorem sa.KRow.move {w w1:World} {Y Y1:Nat→Prop} {v:Value} {ks:List ByteArray} (h:sa.KRow w Y v ks) (hY:∀ k,Y k→Y1 k) (hm:∀ k,Y k→k < w.heap.size→w1.heap[k]?=w.heap[k]?):sa.KRow w1 Y1 v ks:=by
 rcases h with ⟨rfl,rfl⟩ | ⟨b,c,cs,rfl,hy,hh,hl,hsz,hmx,hc⟩
 ·exact Or.inl ⟨rfl,rfl⟩
 ·exact Or.inr ⟨b,c,cs,rfl,hY b hy,(hm b hy (qAp hh)).trans hh,hl,hsz,hmx,hc⟩
theorem sa.VRow.move {w w1:World} {Y Y1:Nat→Prop} (hY:∀ k,Y k→Y1 k) (hm:∀ k,Y k→k < w.heap.size→w1.heap[k]?=w.heap[k]?):∀ (d:Nat) {v:Value} {xs:List S34},sa.VRow w Y d v xs→sa.VRow w1 Y1 d v xs
 | 0,v,xs,h=>h.elim
 | d+1,v,xs,h=>by
  rcases h with ⟨rfl,rfl⟩ | ⟨b,c,cs,rfl,hy,hh,hl,hsz,hmx,hc⟩
  ·exact Or.inl ⟨rfl,rfl⟩
  ·refine Or.inr ⟨b,c,cs,rfl,hY b hy,(hm b hy (qAp hh)).trans hh,hl,hsz,hmx,fun j p hj => ?_⟩
   obtain ⟨u3,u4,hg,r3,r4⟩:=hc j p hj
   exact ⟨u3,u4,hg,sa.VRow.move hY hm d r3,r4.move hY hm⟩
def sa.qB0:Value→Value
 | .slice A n _=>.slice A n n
 | v=>v
theorem sa.clip2 (v:Value):sa.qB0 (sa.qB0 v)=sa.qB0 v:=by
 cases v <;> rfl
structure sa.SimT (Y:Nat→Prop) (w w1:World):Prop where
 os:w1.os=w.os
 tape:w1.tape=w.tape
 output:w1.output=w.output
 size:w.heap.size≤w1.heap.size
 out:∀ k,k < w.heap.size→¬ Y k→w1.heap[k]?=w.heap[k]?
 ins:∀ k,Y k→k < w.heap.size→w1.heap[k]?=w.heap[k]? ∨ ∃ cs cs':Array Value,w.heap[k]?=some (.cells cs 34 (0,0))∧w1.heap[k]?=some (.cells cs' 34 (0,0))∧cs'.size=cs.size∧∀ i:Nat,cs'[i]?=cs[i]? ∨ cs'[i]?=(cs[i]?).map sa.qB0
theorem sa.SimT.of_below {Y:Nat→Prop} {w w1:World} (h:Below w.heap.size w w1):sa.SimT Y w w1:=⟨h.os,h.tape,h.output,h.size,fun k hk _=>h.block k hk,fun k _ hk=>Or.inl (h.block k hk)⟩
theorem sa.SimT.refl (Y:Nat→Prop) (w:World):sa.SimT Y w w:=sa.SimT.of_below (Below.refl _ _)
theorem sa.SimT.trans {Y:Nat→Prop} {w w1 w2:World} (h:sa.SimT Y w w1) (k:sa.SimT Y w1 w2):sa.SimT Y w w2:=by
 refine ⟨k.os.trans h.os,k.tape.trans h.tape,k.output.trans h.output,Nat.le_trans h.size k.size,fun i hi hy=>(k.out i (Nat.lt_of_lt_of_le hi h.size) hy).trans (h.out i hi hy),fun i hy hi => ?_⟩
 rcases k.ins i hy (Nat.lt_of_lt_of_le hi h.size) with e | ⟨cs1,cs2,e1,e2,e3,e4⟩
 ·rw [e];exact h.ins i hy hi
 ·rcases h.ins i hy hi with f | ⟨ds1,ds2,f1,f2,f3,f4⟩
  ·exact Or.inr ⟨cs1,cs2,f▸e1,e2,e3,e4⟩
  ·rw [f2] at e1
   injection e1 with e1
   injection e1 with e1
   subst e1
   refine Or.inr ⟨ds1,cs2,f1,e2,e3.trans f3,fun j => ?_⟩
   rcases e4 j with q | q <;> rcases f4 j with r | r
   ·exact Or.inl (q.trans r)
   ·exact Or.inr (q.trans r)
   ·exact Or.inr (by rw [q,r])
   ·refine Or.inr ?_
    rw [q,r]
    cases ds1[j]? with
    | none=>rfl
    | some x=>simp [sa.clip2]
theorem sa.SimT.far {Y:Nat→Prop} {w w1 w2:World} (h:sa.SimT Y w w1) {g:Nat} (hgr:w1.grownBy w2 (some g)) (hg:w.heap.size≤g):sa.SimT Y w w2:=by
 have hb:∀ i,i < w.heap.size→w2.heap[i]?=w1.heap[i]?:=fun i hi=>hgr.block i (Nat.lt_of_lt_of_le hi h.size) (fun e=>absurd (Option.some.inj e) (by omega))
 refine ⟨hgr.os.trans h.os,hgr.tape.trans h.tape,hgr.output.trans h.output,Nat.le_trans h.size hgr.size,fun i hi hy=>(hb i hi).trans (h.out i hi hy),fun i hy hi => ?_⟩
 rw [hb i hi]
 exact h.ins i hy hi
theorem sa.SimT.set {Y:Nat→Prop} {w w1:World} (h:sa.SimT Y w w1) {a:Addr} (hg:w.heap.size≤a.block) (v:Value):sa.SimT Y w (w1.setCell a v):=by
 have hb:∀ i,i < w.heap.size→(w1.setCell a v).heap[i]?=w1.heap[i]?:=fun i hi=>Below.heap_setCell w1 a v i (by omega)
 refine ⟨h.os,h.tape,h.output,by rw [Deep.nblk_setCell];exact h.size,fun i hi hy=>(hb i hi).trans (h.out i hi hy),fun i hy hi => ?_⟩
 rw [hb i hi]
 exact h.ins i hy hi
theorem sa.SimT.below {Y:Nat→Prop} {w w1:World} (h:sa.SimT Y w w1) {n:Nat} (hY:∀ k,Y k→n≤k) (hn:n≤w.heap.size):Below n w w1 :=
 ⟨h.os,h.tape,h.output,h.size,fun k hk=>h.out k (by omega) (fun y=>by have:=hY k y;omega)⟩
theorem sa.KRow.simT {Y:Nat→Prop} {w w1:World} (hS:sa.SimT Y w w1) {v:Value} {ks:List ByteArray} (h:sa.KRow w Y v ks):sa.KRow w1 Y v ks∧sa.KRow w1 Y (sa.qB0 v) ks:=by
 rcases h with ⟨rfl,rfl⟩ | ⟨b,c,cs,rfl,hy,hh,hl,hsz,hmx,hc⟩
 ·exact ⟨Or.inl ⟨rfl,rfl⟩,Or.inl ⟨rfl,rfl⟩⟩
 ·have h1:w1.heap[b]?=some (.cells cs 9 (0,0)):=by
   rcases hS.ins b hy (qAp hh) with e | ⟨cs1,cs2,e1,_⟩
   ·exact e.trans hh
   ·rw [hh] at e1
    injection e1 with e1
    injection e1 with _ e1
    exact absurd e1 (by decide)
  exact ⟨Or.inr ⟨b,c,cs,rfl,hy,h1,hl,hsz,hmx,hc⟩,Or.inr ⟨b,_,cs,rfl,hy,h1,Nat.le_refl _,by omega,by omega,hc⟩⟩
theorem sa.VRow.simT {Y:Nat→Prop} {w w1:World} (hS:sa.SimT Y w w1):∀ (d:Nat) {v:Value} {xs:List S34},sa.VRow w Y d v xs→sa.VRow w1 Y d v xs∧sa.VRow w1 Y d (sa.qB0 v) xs
 | 0,v,xs,h=>h.elim
 | d+1,v,xs,h=>by
  rcases h with ⟨rfl,rfl⟩ | ⟨b,c,cs,rfl,hy,hh,hl,hsz,hmx,hc⟩
  ·exact ⟨Or.inl ⟨rfl,rfl⟩,Or.inl ⟨rfl,rfl⟩⟩
  ·have h1:∃ cs',w1.heap[b]?=some (.cells cs' 34 (0,0))∧cs'.size=cs.size∧∀ i:Nat,cs'[i]?=cs[i]? ∨ cs'[i]?=(cs[i]?).map sa.qB0:=by
    rcases hS.ins b hy (qAp hh) with e | ⟨cs1,cs2,e1,e2,e3,e4⟩
    ·exact ⟨cs,e.trans hh,rfl,fun i=>Or.inl rfl⟩
    ·rw [hh] at e1
     injection e1 with e1
     injection e1 with e1
     subst e1
     exact ⟨cs2,e2,e3,e4⟩
   obtain ⟨cs',h1,h2,h3⟩:=h1
   have hgr:∀ (i:Nat) x,xs[i]?=some x→∃ u3 u4,sa.grp cs' (i * 5) (.int .i64 x.f0) (.int .i64 x.f1) (.string x.f2) u3 u4∧sa.VRow w1 Y d u3 x.f3∧sa.KRow w1 Y u4 x.f4:=fun i x hx=>by
    obtain ⟨u3,u4,⟨q0,q1,q2,q3,q4⟩,r3,r4⟩:=hc i x hx
    have s3:=sa.VRow.simT hS d r3
    have s4:=sa.KRow.simT hS r4
    have keep:∀ j q,cs[j]?=some q→sa.qB0 q=q→cs'[j]?=some q:=fun j q e1 e2=>by
     rcases h3 j with e | e
     ·rw [e,e1]
     ·rw [e,e1];simp [e2]
    have t0:=keep _ _ q0 rfl
    have t1:=keep _ _ q1 rfl
    have t2:=keep _ _ q2 rfl
    have t3:cs'[i * 5+3]?=some u3 ∨ cs'[i * 5+3]?=some (sa.qB0 u3):=by
     rcases h3 (i * 5+3) with e | e
     ·exact Or.inl (by rw [e,q3])
     ·exact Or.inr (by rw [e,q3];rfl)
    have t4:cs'[i * 5+4]?=some u4 ∨ cs'[i * 5+4]?=some (sa.qB0 u4):=by
     rcases h3 (i * 5+4) with e | e
     ·exact Or.inl (by rw [e,q4])
     ·exact Or.inr (by rw [e,q4];rfl)
    rcases t3 with t3 | t3 <;> rcases t4 with t4 | t4
    ·exact ⟨_,_,⟨t0,t1,t2,t3,t4⟩,s3.1,s4.1⟩
    ·exact ⟨_,_,⟨t0,t1,t2,t3,t4⟩,s3.1,s4.2⟩
    ·exact ⟨_,_,⟨t0,t1,t2,t3,t4⟩,s3.2,s4.1⟩
    ·exact ⟨_,_,⟨t0,t1,t2,t3,t4⟩,s3.2,s4.2⟩
   exact ⟨Or.inr ⟨b,c,cs',rfl,hy,h1,hl,by omega,hmx,hgr⟩,Or.inr ⟨b,_,cs',rfl,hy,h1,Nat.le_refl _,by omega,by omega,hgr⟩⟩
theorem sa.SimT.store {Y:Nat→Prop} {w w7 W1:World} (h:sa.SimT Y w w7) {b o:Nat} {cs cs':Array Value} (hy:Y b) (hb:w.heap[b]?=some (.cells cs 34 (0,0))) {v0 v1 v2 v3 v4:Value} (hg:sa.grp cs o v0 v1 v2 v3 v4) (hgr:w7.grownBy W1 (some b))
  (h1:W1.heap[b]?=some (.cells cs' 34 (0,0))) (hsz:cs'.size=cs.size) (hn:sa.grp cs' o (sa.qB0 v0) (sa.qB0 v1) (sa.qB0 v2) (sa.qB0 v3) (sa.qB0 v4)) (hrest:∀ cs7,w7.heap[b]?=some (.cells cs7 34 (0,0))→∀ j,j < o ∨ o+5≤j→cs'[j]?=cs7[j]?):sa.SimT Y w W1:=by
 have hne:∀ i,i < w.heap.size→i ≠ b→W1.heap[i]?=w7.heap[i]?:=fun i hi hib=>hgr.block i (Nat.lt_of_lt_of_le hi h.size) (fun e=>hib (Option.some.inj e))
 refine ⟨hgr.os.trans h.os,hgr.tape.trans h.tape,hgr.output.trans h.output,Nat.le_trans h.size hgr.size,fun i hi hi2=>(hne i hi (fun e=>hi2 (e▸hy))).trans (h.out i hi hi2),fun i hi hlt => ?_⟩
 by_cases hib:i=b
 ·subst hib
  obtain ⟨cs7,k1,k2⟩:∃ cs7,w7.heap[i]?=some (.cells cs7 34 (0,0))∧∀ j,cs7[j]?=cs[j]? ∨ cs7[j]?=(cs[j]?).map sa.qB0:=by
   rcases h.ins i hy hlt with e | ⟨cs1,cs2,e1,e2,e3,e4⟩
   ·exact ⟨cs,e.trans hb,fun j=>Or.inl rfl⟩
   ·rw [hb] at e1
    injection e1 with e1
    injection e1 with e1
    subst e1
    exact ⟨cs2,e2,e4⟩
  refine Or.inr ⟨cs,cs',hb,h1,hsz,fun j => ?_⟩
  by_cases hj:j < o ∨ o+5≤j
  ·rw [hrest cs7 k1 j hj]
   exact k2 j
  ·obtain ⟨m,rfl,hm⟩:∃ m,j=o+m∧m < 5:=⟨j - o,by omega,by omega⟩
   obtain ⟨q0,q1,q2,q3,q4⟩:=hg
   obtain ⟨p0,p1,p2,p3,p4⟩:=hn
   match m,hm with
   | 0,_=>exact Or.inr (by rw [show o+0=o from rfl,p0,q0];rfl)
   | 1,_=>exact Or.inr (by rw [p1,q1];rfl)
   | 2,_=>exact Or.inr (by rw [p2,q2];rfl)
   | 3,_=>exact Or.inr (by rw [p3,q3];rfl)
   | 4,_=>exact Or.inr (by rw [p4,q4];rfl)
 ·rw [hne i hlt hib]
  exact h.ins i hi hlt
section
variable {P:Program} {ops:Array Oper} {Q:Exit→Act→World→Prop}
theorem sa.st25 {oi:Oper} {a:Act} {W:World} {K:Act→World→Prop} (t:TypeId) (hw:Region.wanted oi (yielded ops a.tmps)=true) (hN:oi.dst=none) (p:Tmp) (x:Operand) (ho:oi.op=.store t (.tmp p) x) (hinf:(P.info? t).map (·.size)=some 5) (b o:Nat) (haddr:a.eval (.tmp p)=.pointer (some ⟨b,o,none⟩)) (v0 v1 v2 v3 v4:Value) (hx:a.eval x=.agg #[v0,v1,v2,v3,v4]) (h1:∀ q ∈ [v0,v1,v2,v3,v4],q.oneCell'=true) (cur:Array Value) (e:TypeId) (hsz:o+5≤cur.size) (hh:W.heap[b]?=some (.cells cur e (0,0)))
  (h:∀ W1 cur',W1.heap[b]?=some (.cells cur' e (0,0))→cur'.size=cur.size→sa.grp cur' o v0 v1 v2 v3 v4→(∀ j,j < o ∨ o+5≤j→cur'[j]?=cur[j]?)→W.grownBy W1 (some b)→K a W1):if Region.wanted oi (yielded ops a.tmps)=true then Oper.wp P oi a W K Q else K (a.put none undef) W:=by
 have hu:(Value.agg #[v0,v1,v2,v3,v4]).cells.toList=[v0,v1,v2,v3,v4]:=by simp [Value.cells]
 have hrun:(Instr.storeAt t (.pointer (some ⟨b,o,none⟩)) (.agg #[v0,v1,v2,v3,v4])).run P W=.ok () (W.setCells b o [v0,v1,v2,v3,v4]) :=
  run_store_run t _ [v0,v1,v2,v3,v4] hh hu hinf hsz h1
 obtain ⟨cur',c1,c2,c3⟩:=qB4 [v0,v1,v2,v3,v4] o W cur hh hsz
 obtain ⟨s1,s2,s3,s4⟩:=qBs b [v0,v1,v2,v3,v4] o W
 have hlen:(cur.toList.take o).length=o:=by rw [List.length_take,Array.length_toList];omega
 have hat:∀ j,cur'[j]?=(cur.toList.take o ++ [v0,v1,v2,v3,v4] ++ cur.toList.drop (o+5))[j]?:=fun j=>by rw [← Array.getElem?_toList,c3];rfl
 have hin:∀ m,m < 5→cur'[o+m]?=[v0,v1,v2,v3,v4][m]?:=fun m hm=>by
  rw [hat,List.append_assoc,List.getElem?_append_right (by omega),hlen,Nat.add_sub_cancel_left,List.getElem?_append_left (by simpa using hm)]
 refine skip_ hw hN (w1:=W.setCells b o [v0,v1,v2,v3,v4]) ?_ (h _ cur' c1 c2 ⟨hin 0 (by omega),hin 1 (by omega),hin 2 (by omega),hin 3 (by omega),hin 4 (by omega)⟩ (fun j hj => ?_) ⟨s1,s2,s3,by omega,fun k hk hne=>qB5 _ _ k (fun e=>hne (by rw [e]))⟩)
 ·unfold execOp
  simp only [ho,haddr,hx,Sem.run_bind,Sem.run_pure,Result.andThen_ok,hrun]
 ·rw [hat]
  rcases hj with hj | hj
  ·rw [List.append_assoc,List.getElem?_append_left (by omega),List.getElem?_take,if_pos hj,Array.getElem?_toList]
  ·rw [List.append_assoc,List.getElem?_append_right (by omega),hlen,List.getElem?_append_right (by simp;omega),List.getElem?_drop]
   have e:o+5+(j - o - [v0,v1,v2,v3,v4].length)=j:=by simp;omega
   rw [e,Array.getElem?_toList]
end
end
end Go.Proofs.Ytdommiicjpjfpaa.X
namespace Go.Proofs.Ytdommiicjpjfpaa.X
open Go.RowKit Go.Proofs.YtdommiicjpjfpaaW.PrintWords Go.Proofs.YtdommiicjpjfpaaW.PrintLast Go.Proofs.YtdommiicjpjfpaaW.PrintMore Go.Proofs.YtdommiicjpjfpaaW
section
set_option maxHeartbeats 4000000
set_option maxRecDepth 100000
open Go.Proofs.Ytdommiicjpjfpaa
def sa.MT (w:World) (Y:Nat→Prop) (x:S34) (cs:List Value):Prop:=∃ d v3 v4,cs=[.int .i64 x.f0,.int .i64 x.f1,.string x.f2,v3,v4]∧sa.VRow w Y d v3 x.f3∧sa.KRow w Y v4 x.f4
theorem sa.MT.move {w w1:World} {Y Y1:Nat→Prop} {x:S34} {cs:List Value} (h:sa.MT w Y x cs) (hY:∀ k,Y k→Y1 k) (hm:∀ k,Y k→k < w.heap.size→w1.heap[k]?=w.heap[k]?):sa.MT w1 Y1 x cs:=by
 obtain ⟨d,v3,v4,e,h3,h4⟩:=h
 exact ⟨d,v3,v4,e,sa.VRow.move hY hm d h3,h4.move hY hm⟩
theorem sa.KRow.typed {w:World} {Y:Nat→Prop} {v:Value} {ks:List ByteArray} (h:sa.KRow w Y v ks):sa.KRow w (fun k=>Y k∧k < w.heap.size∧∃ q,q ∈ [34,9]∧∃ cells,w.heap[k]?=some (.cells cells q (0,0))) v ks:=by
 rcases h with h | ⟨b,c,cs,e,hy,hh,r⟩
 ·exact Or.inl h
 ·exact Or.inr ⟨b,c,cs,e,⟨hy,qAp hh,9,by simp,cs,hh⟩,hh,r⟩
theorem sa.VRow.typed {w:World} {Y:Nat→Prop}:∀ (d:Nat) {v:Value} {xs:List S34},sa.VRow w Y d v xs→sa.VRow w (fun k=>Y k∧k < w.heap.size∧∃ q,q ∈ [34,9]∧∃ cells,w.heap[k]?=some (.cells cells q (0,0))) d v xs
 | 0,v,xs,h=>h.elim
 | d+1,v,xs,h=>by
  rcases h with h | ⟨b,c,cs,e,hy,hh,h1,h2,h3,hx⟩
  ·exact Or.inl h
  ·refine Or.inr ⟨b,c,cs,e,⟨hy,qAp hh,34,by simp,cs,hh⟩,hh,h1,h2,h3,fun i x hi => ?_⟩
   obtain ⟨u3,u4,g,g3,g4⟩:=hx i x hi
   exact ⟨u3,u4,g,sa.VRow.typed d g3,g4.typed⟩
theorem sa.MT.K {w:World} {Y:Nat→Prop} {x:S34} {cs:List Value} (h:sa.MT w Y x cs):k34.K w x cs:=by
 obtain ⟨d,v3,v4,e,h3,h4⟩:=h
 obtain ⟨A3,c3,e3,l3,C3⟩:=h3.C d
 obtain ⟨A4,c4,e4,l4,C4⟩:=h4.C
 subst e3;subst e4;subst e
 exact k34_mk w x l3 C3 l4 C4
def sa.kt:Kd S34 where
 sz:=5
 E:=[34,9]
 K:=fun w x cs=>k34.K w x cs
 M:=fun w base ok x cs=>sa.MT w (fun k=>ok k∧base≤k∧k < w.heap.size) x cs
 K_len:=fun h=>k34.K_len h
 K_one:=fun h=>k34.K_one h
 K_below:=fun hb h=>k34.K_below hb h
 K_of_M:=fun h=>h.K
 M_mono:=fun hok h=>h.move (fun k hk=>⟨hok k hk.1,hk.2⟩) (fun k _ _=>rfl)
 M_bound:=fun h=>by
  obtain ⟨d,v3,v4,e,h3,h4⟩:=h
  refine ⟨d,v3,v4,e,sa.VRow.move (fun k hk => ?_) (fun k _ _=>rfl) d (h3.typed d),h4.typed.move (fun k hk => ?_) (fun k _ _=>rfl)⟩
  all_goals exact ⟨⟨hk.1.1,hk.1.2.1,hk.2.1,hk.2.2⟩,hk.1.2.1,hk.2.1⟩
 M_move:=fun {w w1} {base ok x cs} hm h=>h.move (fun k hk=>⟨hk.1,hk.2.1,by
  have e:=hm k hk.1
  rw [Array.getElem?_eq_getElem hk.2.2] at e
  exact (Array.getElem?_eq_some_iff.1 e).1⟩) (fun k hk _=>hm k hk.1)
 M_lower:=fun hb h=>h.move (fun k hk=>⟨hk.1,Nat.le_trans hb hk.2.1,hk.2.2⟩) (fun k _ _=>rfl)
theorem sa.kt_got2 {w w1:World} {base:Nat} (hb:base≤w.heap.size) {d:Nat} {x:S34} {v3 v4:Value} (h3:sa.VRow w1 (fun k=>w.heap.size≤k∧k < w1.heap.size) d v3 x.f3) (h4:sa.KRow w1 (fun k=>w.heap.size≤k∧k < w1.heap.size) v4 x.f4):sa.kt.M w1 base (fun k=>w.heap.size≤k) x [.int .i64 x.f0,.int .i64 x.f1,.string x.f2,v3,v4] :=
 ⟨d,v3,v4,rfl,sa.VRow.move (fun k hk=>⟨hk.1,Nat.le_trans hb hk.1,hk.2⟩) (fun k _ _=>rfl) d h3,h4.move (fun k hk=>⟨hk.1,Nat.le_trans hb hk.1,hk.2⟩) (fun k _ _=>rfl)⟩
end
end Go.Proofs.Ytdommiicjpjfpaa.X
namespace Go.Proofs.Ytdommiicjpjfpaa.X
open Go.RowKit Go.Proofs.YtdommiicjpjfpaaW.PrintWords Go.Proofs.YtdommiicjpjfpaaW.PrintLast Go.Proofs.YtdommiicjpjfpaaW.PrintMore Go.Proofs.YtdommiicjpjfpaaW
section
set_option maxRecDepth 100000
open Go.Proofs.Ytdommiicjpjfpaa
def sa.at_ (bs:List Int) (a:Int):List Int:=bs.drop a.toNat
theorem sa.uint_form {bs:List Int} (hb:Pl.Bytes bs) {a:Int} (h:(Pl.qAk bs a).2.2=0):sa.at_ bs a=Pl.putU (Pl.qAk bs a).1 ++ sa.at_ bs (Pl.qAk bs a).2.1:=by
 have hok:=Pl.qBi bs hb a h
 unfold Pl.qAk at h hok ⊢
 by_cases h0:a < 0 ∨ a > bs.length
 ·rw [if_pos h0] at h;exact absurd h (by decide)
 rw [if_neg h0] at h hok ⊢
 have ha0:0≤a:=by omega
 obtain ⟨v,m,e,hr⟩:∃ v m e,Pl.rdU 10 0 (bs.drop a.toNat) 0=(v,m,e):=⟨_,_,_,rfl⟩
 rw [hr] at h hok ⊢
 unfold Pl.fin at h hok ⊢
 dsimp only at h hok ⊢
 subst h
 rw [if_pos rfl] at hok ⊢
 have hf:=Pl.rdU_form _ (hb.drop _) v m hr
 have ht:m.toNat+a.toNat=(a+m).toNat:=by omega
 unfold sa.at_
 rw [← hf.2.2.1,← ht,Nat.add_comm,← List.drop_drop,List.take_append_drop]
theorem sa.at_cons {bs:List Int} {a:Int} (h0:0≤a) (h1:a < (bs.length:Int)):sa.at_ bs a=rd bs a :: sa.at_ bs (a+1):=by
 have hlt:a.toNat < bs.length:=by omega
 unfold sa.at_ rd
 rw [List.drop_eq_getElem_cons hlt,List.getD_eq_getElem?_getD,List.getElem?_eq_getElem hlt,show (a+1).toNat=a.toNat+1 by omega]
 rfl
theorem sa.at_cut {bs:List Int} {a n:Int} (h0:0≤a) (hn:0≤n):sa.at_ bs a=(bs.drop a.toNat).take n.toNat ++ sa.at_ bs (a+n):=by
 unfold sa.at_
 rw [show (a+n).toNat=a.toNat+n.toNat by omega,← List.drop_drop,List.take_append_drop]
def sa.Rd (bs:List Int) (x:S34) (a l a2 l2:Int):Prop:=sa.at_ bs a=en x ++ sa.at_ bs a2∧(wt x:Int)=l - l2
theorem sa.arr_en {bs:List Int} {f:Int→Int→sa.R3 S34} (hf:∀ (a l:Int) (x:S34) (a2 l2:Int),sa.Bd bs.length a l→f a l=.ok x a2 l2→sa.Rd bs x a l a2 l2∧sa.Bd bs.length a2 l2):∀ (k:Nat) (acc:List S34) (a l:Int) (vs:List S34) (a2 l2:Int),sa.Bd bs.length a l→sa.arrL f k acc a l=.ok vs a2 l2→∃ ys,vs=acc ++ ys∧ys.length=k∧sa.at_ bs a=(ys.map en).flatten ++ sa.at_ bs a2∧((ys.map wt).sum:Int)=l - l2
 | 0,acc,a,l,vs,a2,l2,hb,h=>by
  unfold sa.arrL at h
  injection h with e1 e2 e3
  subst e1;subst e2;subst e3
  exact ⟨[],by simp,rfl,by simp,by simp⟩
 | k+1,acc,a,l,vs,a2,l2,hb,h=>by
  unfold sa.arrL at h
  rcases hfa:f a l with ⟨x,a1,l1⟩ | ⟨e,q⟩
  ·rw [hfa] at h
   have hx:=hf a l x a1 l1 hb hfa
   obtain ⟨ys,h1,h2,h3,h4⟩:=sa.arr_en hf k (acc ++ [x]) a1 l1 vs a2 l2 hx.2 h
   refine ⟨x :: ys,by rw [h1,List.append_assoc];rfl,by rw [List.length_cons,h2],by rw [hx.1.1,h3,List.map_cons,List.flatten_cons,List.append_assoc], ?_⟩
   have:=hx.1.2
   simp only [List.map_cons,List.sum_cons]
   omega
  ·rw [hfa] at h;cases h
theorem sa.key_en {bs:List Int} (hb:Pl.Bytes bs) (hl:bs.length≤140737488351232) {ks:List ByteArray} {a l a2 l2:Int} {k:ByteArray} (h:sa.keyS bs (Pl.qAk bs) ks a l=.ok k a2 l2):sa.at_ bs a=Pl.putU (k.size:Int) ++ (bytesOf k ++ sa.at_ bs a2)∧1+(k.size:Int)=l - l2:=by
 unfold sa.keyS at h
 by_cases h1:(Pl.qAk bs a).2.2 ≠ 0
 ·rw [if_pos h1] at h;cases h
 rw [if_neg h1] at h
 have h1':(Pl.qAk bs a).2.2=0:=Classical.byContradiction h1
 have hok:=Pl.qBi bs hb a h1'
 have hrg:=Pl.qBS bs hb a
 have hfm:=sa.uint_form hb h1'
 obtain ⟨n,m,e,hr⟩:∃ n m e,Pl.qAk bs a=(n,m,e):=⟨_,_,_,rfl⟩
 rw [hr] at h hok hrg hfm
 dsimp only at h hok hrg hfm
 by_cases h2:n > 32
 ·rw [if_pos h2] at h;cases h
 rw [if_neg h2] at h
 by_cases h3:n > (bs.length:Int) - m
 ·rw [if_pos h3] at h;cases h
 rw [if_neg h3] at h
 split at h
 ·cases h
 split at h
 ·cases h
 ·injection h with e1 e2 e3
  have hsz:(k.size:Int)=n:=by
   rw [← e1,sa.qB3,List.length_take,List.length_drop]
   omega
  have hbo:bytesOf k=(bs.drop m.toNat).take n.toNat:=by rw [← e1];exact Pl.qB1 _ ((hb.drop _).take _)
  refine ⟨?_,by rw [e1] at e3;omega⟩
  rw [hfm,hsz,hbo,← e2,sa.at_cut (a:=m) (n:=n) (by omega) (by omega)]
theorem sa.rec_en {bs:List Int} (hb:Pl.Bytes bs) (hl:bs.length≤140737488351232) {i:Int→Int × Int × Int} (hU:sa.Uin bs (Pl.qAk bs) i) {f:Int→Int→sa.R3 S34} (hf:∀ (a l:Int) (x:S34) (a2 l2:Int),sa.Bd bs.length a l→f a l=.ok x a2 l2→sa.Rd bs x a l a2 l2∧sa.Bd bs.length a2 l2):∀ (k:Nat) (ks:List ByteArray) (acc:List S34) (a l:Int) (vs:List ByteArray × List S34) (a2 l2:Int),sa.Bd bs.length a l→sa.recL bs (Pl.qAk bs) f k ks acc a l=.ok vs a2 l2→∃ qs ys,vs=(ks ++ qs,acc ++ ys)∧ys.length=k∧qs.length=k∧sa.at_ bs a=recs (ys.map en) qs ++ sa.at_ bs a2∧(((ys.map wt).sum+(qs.map fun s=>1+s.size).sum:Nat):Int)=l - l2
 | 0,ks,acc,a,l,vs,a2,l2,hB,h=>by
  unfold sa.recL at h
  injection h with e1 e2 e3
  subst e1;subst e2;subst e3
  exact ⟨[],[],by simp,rfl,rfl,by simp [recs],by simp⟩
 | k+1,ks,acc,a,l,vs,a2,l2,hB,h=>by
  unfold sa.recL at h
  rcases hka:sa.keyS bs (Pl.qAk bs) ks a l with ⟨kk,a1,l1⟩ | ⟨e,q⟩
  ·rw [hka] at h
   have hb1:sa.Bd bs.length a1 l1:=sa.keyS_b hU ⟨hB.2.2.1,hB.2.2.2⟩ hka
   have hke:=sa.key_en hb hl hka
   dsimp only at h
   rcases hfa:f a1 l1 with ⟨x,a3,l3⟩ | ⟨e,q⟩
   ·rw [hfa] at h
    have hx:=hf a1 l1 x a3 l3 hb1 hfa
    obtain ⟨qs,ys,h1,h2,h3,h4,h5⟩:=sa.rec_en hb hl hU hf k (ks ++ [kk]) (acc ++ [x]) a3 l3 vs a2 l2 hx.2 h
    refine ⟨kk :: qs,x :: ys,by rw [h1,List.append_assoc,List.append_assoc];rfl,by rw [List.length_cons,h2],by rw [List.length_cons,h3], ?_, ?_⟩
    ·rw [hke.1,hx.1.1,h4]
     simp [recs,List.append_assoc]
    ·have q1:=hx.1.2
     have q2:=hke.2
     simp only [List.map_cons,List.sum_cons]
     omega
   ·rw [hfa] at h;cases h
  ·rw [hka] at h;cases h
theorem sa.qCA (f0 f1:Int) (f2:ByteArray):wt (⟨f0,f1,f2,[],[]⟩:S34)=1+f2.size:=by rw [wt_eq];simp
theorem sa.valS_en {bs:List Int} (hb:Pl.Bytes bs) (hl:bs.length≤140737488351232) (hU:sa.Uin bs (Pl.qAk bs) (Pl.qCL bs)):∀ (d:Nat) (a l:Int) (x:S34) (a2 l2:Int),sa.Bd bs.length a l→sa.valS bs (Pl.qAk bs) (Pl.qCL bs) d a l=.ok x a2 l2→sa.Rd bs x a l a2 l2
 | 0,a,l,x,a2,l2,hB,h=>by
  rw [sa.valS] at h
  split at h <;> cases h
 | d+1,a,l,x,a2,l2,hB,h=>by
  have ih:∀ (a l:Int) (x:S34) (a2 l2:Int),sa.Bd bs.length a l→sa.valS bs (Pl.qAk bs) (Pl.qCL bs) d a l=.ok x a2 l2→sa.Rd bs x a l a2 l2∧sa.Bd bs.length a2 l2:=fun a l x a2 l2 q h=>⟨sa.valS_en hb hl hU d a l x a2 l2 q h,sa.valS_b hU d a l x a2 l2 q h⟩
  rw [sa.valS_s] at h
  obtain ⟨b1,b2,b3,b4⟩:=hB
  have nb:∀ {e q:Int},sa.R3.bad e q=.ok x a2 l2→sa.Rd bs x a l a2 l2:=fun h=>by cases h
  by_cases h0:a=(bs.length:Int) ∨ rd bs a > 6
  ·rw [if_pos h0] at h;exact nb h
  rw [if_neg h0] at h
  have ha:a < (bs.length:Int):=by
   have:a ≠ (bs.length:Int):=fun e=>h0 (Or.inl e)
   omega
  have hx6:rd bs a≤6:=by
   have:¬ rd bs a > 6:=fun e=>h0 (Or.inr e)
   omega
  have hc:=sa.at_cons b1 ha
  have hrd:0≤rd bs a:=by
   have hlt:a.toNat < bs.length:=by omega
   have:rd bs a=bs[a.toNat]:=by unfold rd;rw [List.getD_eq_getElem?_getD,List.getElem?_eq_getElem hlt];rfl
   rw [this]
   exact (hb _ (List.getElem_mem hlt)).1
  by_cases h1:1 > l
  ·rw [if_pos h1] at h;exact nb h
  rw [if_neg h1] at h
  by_cases k1:rd bs a=1
  ·rw [if_pos k1] at h
   injection h with e1 e2 e3
   subst e1;subst e2;subst e3
   exact ⟨by rw [hc,k1,en1 rfl];rfl,by rw [sa.qCA];have hz:(⟨#[]⟩:ByteArray).size=0:=rfl;omega⟩
  rw [if_neg k1] at h
  by_cases k2:rd bs a=2
  ·rw [if_pos k2] at h
   injection h with e1 e2 e3
   subst e1;subst e2;subst e3
   exact ⟨by rw [hc,k2,en1 rfl];rfl,by rw [sa.qCA];have hz:(⟨#[]⟩:ByteArray).size=0:=rfl;omega⟩
  rw [if_neg k2] at h
  by_cases k3:rd bs a=3
  ·rw [if_pos k3] at h
   by_cases e1:(Pl.qCL bs (a+1)).2.2 ≠ 0
   ·rw [if_pos e1] at h;exact nb h
   rw [if_neg e1] at h
   have e1':(Pl.qAk bs (a+1)).2.2=0:=Classical.byContradiction e1
   have hf:=sa.uint_form hb e1'
   have hr:=Pl.qBS bs hb (a+1)
   injection h with q1 q2 q3
   subst q1;subst q2;subst q3
   refine ⟨?_,by rw [sa.qCA];have hz:(⟨#[]⟩:ByteArray).size=0:=rfl;omega⟩
   rw [hc,k3,hf,en2 rfl]
   show _=3 :: (Pl.putU (Pl.zz (Pl.unzz (Pl.qAk bs (a+1)).1)) ++ sa.at_ bs (Pl.qAk bs (a+1)).2.1)
   rw [Pl.zz_unzz _ hr.1]
  rw [if_neg k3] at h
  have hr:=Pl.qBS bs hb (a+1)
  by_cases k4:rd bs a=4
  ·rw [if_pos k4] at h
   by_cases e1:(Pl.qAk bs (a+1)).2.2 ≠ 0
   ·rw [if_pos e1] at h;exact nb h
   rw [if_neg e1] at h
   have e1':(Pl.qAk bs (a+1)).2.2=0:=Classical.byContradiction e1
   have hf:=sa.uint_form hb e1'
   have hok:=Pl.qBi bs hb (a+1) e1'
   obtain ⟨n,m,e,hu⟩:∃ n m e,Pl.qAk bs (a+1)=(n,m,e):=⟨_,_,_,rfl⟩
   rw [hu] at h hf hok hr
   dsimp only at h hf hok hr
   by_cases e2:(l - 1) / 1 < n
   ·rw [if_pos e2] at h;exact nb h
   rw [if_neg e2] at h
   by_cases e3:(bs.length:Int) - m < n
   ·rw [if_pos e3] at h;exact nb h
   rw [if_neg e3] at h
   injection h with q1 q2 q3
   subst q1;subst q2;subst q3
   have hsz:((strOfNums ((bs.drop m.toNat).take n.toNat)).size:Int)=n:=by
    rw [sa.qB3,List.length_take,List.length_drop]
    omega
   have hbo:bytesOf (strOfNums ((bs.drop m.toNat).take n.toNat))=(bs.drop m.toNat).take n.toNat:=Pl.qB1 _ ((hb.drop _).take _)
   refine ⟨?_,by rw [sa.qCA];omega⟩
   rw [hc,k4,hf,en3 rfl]
   show _=4 :: ((Pl.putU ((strOfNums ((bs.drop m.toNat).take n.toNat)).size:Int) ++ bytesOf (strOfNums ((bs.drop m.toNat).take n.toNat))) ++ sa.at_ bs (m+n))
   rw [hsz,hbo,List.append_assoc,← sa.at_cut (a:=m) (n:=n) (by omega) (by omega)]
  rw [if_neg k4] at h
  by_cases k5:rd bs a=5
  ·rw [if_pos k5] at h
   by_cases e1:(Pl.qAk bs (a+1)).2.2 ≠ 0
   ·rw [if_pos e1] at h;exact nb h
   rw [if_neg e1] at h
   have e1':(Pl.qAk bs (a+1)).2.2=0:=Classical.byContradiction e1
   have hf:=sa.uint_form hb e1'
   have hok:=Pl.qBi bs hb (a+1) e1'
   by_cases e2:(l - 1) / 1 < (Pl.qAk bs (a+1)).1
   ·rw [if_pos e2] at h;exact nb h
   rw [if_neg e2] at h
   rcases hL:sa.arrL (sa.valS bs (Pl.qAk bs) (Pl.qCL bs) d) (Pl.qAk bs (a+1)).1.toNat [] (Pl.qAk bs (a+1)).2.1 (l - 1) with ⟨vs,a3,l3⟩ | ⟨e,p⟩
   ·rw [hL] at h
    obtain ⟨ys,g1,g2,g3,g4⟩:=sa.arr_en ih _ _ _ _ _ _ _ ⟨by omega,by omega,by omega,by omega⟩ hL
    injection h with q1 q2 q3
    rw [List.nil_append] at g1
    subst g1;subst q1;subst q2;subst q3
    have hlen:(vs.length:Int)=(Pl.qAk bs (a+1)).1:=by omega
    refine ⟨?_, ?_⟩
    ·rw [hc,k5,hf,g3,en4 rfl]
     show _=5 :: ((Pl.putU (vs.length:Int) ++ (vs.map en).flatten) ++ _)
     rw [hlen,List.append_assoc]
    ·rw [wt_eq]
     show ((1+(⟨#[]⟩:ByteArray).size+(vs.map wt).sum+0:Nat):Int)=_
     have hz:(⟨#[]⟩:ByteArray).size=0:=rfl
     omega
   ·rw [hL] at h;exact nb h
  rw [if_neg k5] at h
  by_cases k6:rd bs a=6
  ·rw [if_pos k6] at h
   by_cases e1:(Pl.qAk bs (a+1)).2.2 ≠ 0
   ·rw [if_pos e1] at h;exact nb h
   rw [if_neg e1] at h
   have e1':(Pl.qAk bs (a+1)).2.2=0:=Classical.byContradiction e1
   have hf:=sa.uint_form hb e1'
   have hok:=Pl.qBi bs hb (a+1) e1'
   by_cases e2:(l - 1) / 2 < (Pl.qAk bs (a+1)).1
   ·rw [if_pos e2] at h;exact nb h
   rw [if_neg e2] at h
   rcases hL:sa.recL bs (Pl.qAk bs) (sa.valS bs (Pl.qAk bs) (Pl.qCL bs) d) (Pl.qAk bs (a+1)).1.toNat [] [] (Pl.qAk bs (a+1)).2.1 (l - 1) with ⟨⟨ks,vs⟩,a3,l3⟩ | ⟨e,p⟩
   ·rw [hL] at h
    obtain ⟨qs,ys,g1,g2,g3,g4,g5⟩:=sa.rec_en hb hl hU ih _ _ _ _ _ _ _ _ ⟨by omega,by omega,by omega,by omega⟩ hL
    injection h with q1 q2 q3
    rw [List.nil_append,List.nil_append] at g1
    injection g1 with g1 g1b
    subst g1;subst g1b;subst q1;subst q2;subst q3
    have hlen:(vs.length:Int)=(Pl.qAk bs (a+1)).1:=by omega
    refine ⟨?_, ?_⟩
    ·rw [hc,k6,hf,g4,en5 rfl]
     show _=6 :: ((Pl.putU (vs.length:Int) ++ recs (vs.map en) ks) ++ _)
     rw [hlen,List.append_assoc]
    ·rw [wt_eq]
     show ((1+(⟨#[]⟩:ByteArray).size+(vs.map wt).sum+(ks.map fun s=>1+s.size).sum:Nat):Int)=_
     have hz:(⟨#[]⟩:ByteArray).size=0:=rfl
     omega
   ·rw [hL] at h;exact nb h
  rw [if_neg k6] at h
  have k0:rd bs a=0:=by omega
  injection h with e1 e2 e3
  subst e1;subst e2;subst e3
  exact ⟨by rw [hc,k0,en0 rfl];rfl,by rw [sa.qCA];have hz:(⟨#[]⟩:ByteArray).size=0:=rfl;omega⟩
end
end Go.Proofs.Ytdommiicjpjfpaa.X
namespace Go.Proofs.Ytdommiicjpjfpaa.X
open Go.RowKit Go.Proofs.YtdommiicjpjfpaaW.PrintWords Go.Proofs.YtdommiicjpjfpaaW.PrintLast Go.Proofs.YtdommiicjpjfpaaW.PrintMore Go.Proofs.YtdommiicjpjfpaaW
section
set_option maxHeartbeats 4000000
set_option maxRecDepth 100000
theorem sa.cutc {P:Program} (t e:TypeId) {i:TypeInfo} (ht:P.underlying t=some (.slice e)) (hi:P.info? e=some i) (A:Option Addr) (n c:Nat) (hc:n≤c) :
  ∀ W:World,(Instr.slice t (.slice A n c) none (some (.int .i64 (n:Int))) (some (.int .i64 (n:Int)))).run P W=.ok (.slice A n n) W:=by
 intro W
 have hel:P.elem t=e:=by simp [Program.elem,ht]
 have hu:P.underlying t=some (.slice (P.elem t)):=by rw [hel];exact ht
 have ha:(A.map fun x=>x.add 0)=A:=by cases A <;> simp [Addr.add]
 rw [run_slice_hm W t A n c hu .i64 .i64 n n (by omega) (by omega) (by omega),hel]
 simp [sizeOf,typeInfo,hi,sliced,Result.andThen,ha]
theorem sa.clip56 (A:Option Addr) (n c:Nat) (hc:n≤c) (w:World):Calls Try.prog 93 #[.slice A n c] w fun e w'=>e=.returned (.slice A n n)∧Below w.heap.size w w':=by
 obtain ⟨i0,hi0,_,_,_⟩:=info_parts info9
 have hcut:=sa.cutc (P:=Try.prog) 32 9 Try.underlying32 hi0 A n c hc
 clear hi0
 go_enter Try.func93,Try.ntmps93
 go_wp2
 go_ret
 exact ⟨rfl,Below.refl _ _⟩
theorem sa.clip57 (A:Option Addr) (n c:Nat) (hc:n≤c) (w:World):Calls Try.prog 94 #[.slice A n c] w fun e w'=>e=.returned (.slice A n n)∧Below w.heap.size w w':=by
 obtain ⟨i0,hi0,_,_,_⟩:=info_parts info34
 have hcut:=sa.cutc (P:=Try.prog) 31 34 Try.underlying31 hi0 A n c hc
 clear hi0
 go_enter Try.func94,Try.ntmps94
 go_wp2
 go_ret
 exact ⟨rfl,Below.refl _ _⟩
def sa.five (w:World) (p:Addr) (v0 v1 v2 v3 v4:Value):Prop:=w.cell? p=some v0∧w.cell? ⟨p.block,p.off+1,none⟩=some v1∧w.cell? ⟨p.block,p.off+2,none⟩=some v2∧w.cell? ⟨p.block,p.off+3,none⟩=some v3∧w.cell? ⟨p.block,p.off+4,none⟩=some v4
theorem sa.five.of {w:World} {b o:Nat} {cs:Array Value} {v0 v1 v2 v3 v4:Value} (h:w.heap[b]?=some (.cells cs 34 (0,0))) (hg:sa.grp cs o v0 v1 v2 v3 v4) {ad:Addr} (ha:ad=⟨b,0,none⟩):sa.five w (ad.add o) v0 v1 v2 v3 v4:=by
 subst ha
 rw [Addr.add_lit,Nat.zero_add]
 exact ⟨sa.cell_of h hg.1,sa.cell_of h hg.2.1,sa.cell_of h hg.2.2.1,sa.cell_of h hg.2.2.2.1,sa.cell_of h hg.2.2.2.2⟩
theorem sa.SimT.block {Y:Nat→Prop} {w w1:World} (h:sa.SimT Y w w1) {b:Nat} {cs:Array Value} (hy:Y b) (hb:w.heap[b]?=some (.cells cs 34 (0,0))):∃ cs',w1.heap[b]?=some (.cells cs' 34 (0,0))∧cs'.size=cs.size:=by
 rcases h.ins b hy (qAp hb) with e | ⟨cs1,cs2,e1,e2,e3,_⟩
 ·exact ⟨cs,e.trans hb,rfl⟩
 ·rw [hb] at e1
  injection e1 with e1
  injection e1 with e1
  subst e1
  exact ⟨cs2,e2,e3⟩
theorem sa.VRow.elem {w:World} {Y:Nat→Prop} {d n c:Nat} {A:Option Addr} {xs:List S34} (h:sa.VRow w Y (d+1) (.slice A n c) xs) {j:Nat} (hj:j < n) (hn:xs.length=n):∃ b cs x u3 u4,A=some ⟨b,0,none⟩∧Y b∧w.heap[b]?=some (.cells cs 34 (0,0))∧n≤c∧c * 5≤cs.size∧xs[j]?=some x∧sa.grp cs (j * 5) (.int .i64 x.f0) (.int .i64 x.f1) (.string x.f2) u3 u4∧sa.VRow w Y d u3 x.f3∧sa.KRow w Y u4 x.f4:=by
 rcases h with ⟨_,rfl⟩ | ⟨b,c',cs,e,hy,hh,hl,hsz,hm,hc⟩
 ·simp at hn;omega
 ·injection e with e1 e2 e3
  subst e1;subst e3
  have hx:xs[j]?=some xs[j]:=List.getElem?_eq_getElem (by omega)
  obtain ⟨u3,u4,hg,r3,r4⟩:=hc j _ hx
  exact ⟨b,cs,_,u3,u4,rfl,hy,hh,by omega,hsz,hx,hg,r3,r4⟩
theorem sa.qCE {v:Value} (h:∃ A n c,v=.slice A n c):v.oneCell'=true∧(sa.qB0 v).oneCell'=true:=by
 obtain ⟨A,n,c,rfl⟩:=h
 exact ⟨rfl,rfl⟩
theorem sa.tight1 {Y:Nat→Prop}:∀ (d:Nat) (x:S34) (v3 v4:Value) (w:World),(∀ k,Y k→k < w.heap.size)→sa.VRow w Y d v3 x.f3→sa.KRow w Y v4 x.f4 →
  Calls Try.prog 74 #[.agg #[.int .i64 x.f0,.int .i64 x.f1,.string x.f2,v3,v4]] w fun e w'=>e=.returned (.agg #[.int .i64 x.f0,.int .i64 x.f1,.string x.f2,sa.qB0 v3,sa.qB0 v4])∧sa.SimT Y w w':=by
 intro d
 induction d with
 | zero=>intro x v3 v4 w hY h;exact h.elim
 | succ d ih =>
 rintro ⟨f0,f1,f2,f3,f4⟩ v3 v4 w hY hV hK
 obtain ⟨A4,c4,e4,l4,g4⟩:=hK.C
 obtain ⟨A3,c3,e3,l3,g3⟩:=sa.VRow.C (d+1) hV
 subst e3;subst e4
 dsimp only at *
 have hu25:=Try.underlying34
 have HV:=qAA.mk hV
 have HY:=qAA.mk hY
 have LM:=qAA.mk g3.2.1
 have L3:=qAA.mk l3
 have L4:=qAA.mk l4
 show Calls Try.prog 74 _ w fun e w'=>e=.returned (.agg #[.int .i64 f0,.int .i64 f1,.string f2,.slice A3 f3.length f3.length,.slice A4 f4.length f4.length])∧sa.SimT Y w w'
 clear hV hY hK g3 g4 l3 l4
 obtain ⟨n,hn⟩:∃ n,f3.length=n:=⟨_,rfl⟩
 obtain ⟨m,hm⟩:∃ m,f4.length=m:=⟨_,rfl⟩
 have HN:=qAA.mk hn
 rw [hn] at HV LM L3 ⊢
 rw [hm] at L4 ⊢
 clear hn hm
 go_enter Try.func74,Try.ntmps74
 go_wp2_with (first | ((with_reducible refine qAi (N:=1) rfl ?_);refine qAe ?hg (N:=1) ?hd (cs:=#[.int .i64 f0,.int .i64 f1,.string f2,.slice A3 n c3,.slice A4 m c4]) (t:=34) ?hr ?_;(case hd=>rfl);(case hg=>rfl);(case hr=>first | (go_simp;done) | (go_simp;rfl));intro pb hpb w1 hbox hb1;have BX1:=qAA.mk hbox;have HB1:=qAA.mk hb1;have HPB:=qAA.mk (Nat.le_of_eq hpb.symm);clear hbox hb1 hpb))
 obtain ⟨w2,hw2⟩:∃ w2,w1.alloc (.cells #[.int .i64 0,.int .i64 0,.string ⟨#[]⟩,.slice none 0 0,.slice none 0 0] 34)=w2:=⟨_,rfl⟩
 have RB2:=qAA.mk (show w2.heap[w1.heap.size]?=some (.cells #[.int .i64 0,.int .i64 0,.string ⟨#[]⟩,.slice none 0 0,.slice none 0 0] 34 (0,0)) by rw [← hw2];simpa using heap_alloc_new w1 _)
 have BX2:=qAA.mk (hw2▸qAR BX1.out (.cells #[.int .i64 0,.int .i64 0,.string ⟨#[]⟩,.slice none 0 0,.slice none 0 0] 34))
 have HB2:=qAA.mk (hw2▸HB1.out.alloc HB1.out.size (.cells #[.int .i64 0,.int .i64 0,.string ⟨#[]⟩,.slice none 0 0,.slice none 0 0] 34))
 have HPR:=qAA.mk (qAp BX1.out)
 rw [hw2]
 clear hw2 BX1 HB1
 generalize w1.heap.size=rb at *
 refine qAy (n:=10) (S:=fun w'=>w'.cell? ⟨pb,4,none⟩=some (.slice A4 m c4)∧w'.cell? ⟨pb,3,none⟩=some (.slice A3 n c3)) (ds:=[7,9]) #[qF,qF,qF,qF,qF,qF,qF,qF,qF,qF] (by kernel_rfl) rfl rfl ⟨(qAB (qAO BX2.out) 4).trans rfl,(qAB (qAO BX2.out) 3).trans rfl⟩ (fun hHeld => ?_)
 generalize hwd:w2.drew=wd at hHeld ⊢
 have BD:=qAA.mk (hwd▸qAO BX2.out)
 have RD:=qAA.mk (hwd▸qAO RB2.out)
 have HD:=qAA.mk (hwd▸qAX HB2.out)
 clear hwd BX2 RB2 HB2
 refine qAL (i:=0) (N:=some 4) (v := ?_) (a' := ?_) #[qT,qF,qF,qF,qF,qF,qF,qF,qF,qF] rfl rfl (by kernel_rfl) (fun _ _ _ h=>h) (Or.inl ⟨by rfl, ?_⟩) ?_ ?_
 rotate_left
 ·intro w'
  go_simp
  with_reducible rfl
 rotate_left
 ·simp only [Act.put,qs1,qs2,qs3,qAH,qAI]
  rfl
 refine qAL (i:=3) (N:=some 7) (v := ?_) (a' := ?_) #[qT,qF,qF,qT,qF,qF,qF,qF,qF,qF] rfl rfl (by kernel_rfl) (fun _ _ _ h=>h) (Or.inl ⟨by rfl, ?_⟩) ?_ ?_
 rotate_left
 ·intro w'
  go_simp
  with_reducible rfl
 rotate_left
 ·simp only [Act.put,qs1,qs2,qs3,qAH,qAI]
  rfl
 refine qAt (i:=1) (N:=some 5) (v := ?_) (a' := ?_) #[qT,qT,qF,qT,qF,qF,qF,qF,qF,qF] rfl rfl (by kernel_rfl) (fun _ _ _ h=>h) (Or.inl ⟨by rfl, ?_⟩) hHeld ?_ ?_
 rotate_left
 ·rintro w' ⟨s0,s1⟩
  go_simp
  with_reducible rfl
 rotate_left
 ·simp only [Act.put,qs1,qs2,qs3,qAH,qAI]
  rfl
 refine qAt (i:=4) (N:=some 8) (v := ?_) (a' := ?_) #[qT,qT,qF,qT,qT,qF,qF,qF,qF,qF] rfl rfl (by kernel_rfl) (fun _ _ _ h=>h) (Or.inl ⟨by rfl, ?_⟩) hHeld ?_ ?_
 rotate_left
 ·rintro w' ⟨s0,s1⟩
  go_simp
  with_reducible rfl
 rotate_left
 ·simp only [Act.put,qs1,qs2,qs3,qAH,qAI]
  rfl
 refine one_ (i:=2) (N:=some 6) #[qT,qT,qT,qT,qT,qF,qF,qF,qF,qF] rfl rfl (by kernel_rfl) (by decide) (fun K hK => ?_)
 refine qBe Try.func93 (by kernel_rfl) rfl #[.slice A4 m c4] (by rfl) rfl rfl (by (try simp only [List.map_toArray,List.map_cons,List.map_nil]);first | done | rfl) ?_
 refine (sa.clip56 A4 m c4 L4.out _).mono ?_
 rintro e w3 ⟨rfl,hb⟩
 refine ⟨_,rfl, ?_⟩
 have BX3:=qAA.mk (qAb BD.out hb)
 have RB3:=qAA.mk (qAb RD.out hb)
 have HB3:=qAA.mk (qAf HD.out HD.out.size hb)
 clear hb BD RD HD
 refine hK.out _ _ ⟨(qAB BX3.out 4).trans rfl,(qAB BX3.out 3).trans rfl⟩ (fun hHeld => ?_)
 clear hK K
 refine qBH (a' := ?_) ?_ ?_
 rotate_left
 ·show Act.put _ (some 6) _=_
  simp only [Act.put,qs1,qs2,qs3,qAH,qAI]
  rfl
 refine qAL (i:=6) (N:=some 10) (v := ?_) (a' := ?_) #[qT,qT,qT,qT,qT,qF,qT,qF,qF,qF] rfl rfl (by kernel_rfl) (fun _ _ _ h=>h) (Or.inl ⟨by rfl, ?_⟩) ?_ ?_
 rotate_left
 ·intro w'
  go_simp
  with_reducible rfl
 rotate_left
 ·simp only [Act.put,qs1,qs2,qs3,qAH,qAI]
  rfl
 refine one_ (i:=5) (N:=some 9) #[qT,qT,qT,qT,qT,qT,qT,qF,qF,qF] rfl rfl (by kernel_rfl) (by decide) (fun K hK => ?_)
 refine qBe Try.func94 (by kernel_rfl) rfl #[.slice A3 n c3] (by rfl) rfl rfl (by (try simp only [List.map_toArray,List.map_cons,List.map_nil]);first | done | rfl) ?_
 refine (sa.clip57 A3 n c3 L3.out _).mono ?_
 rintro e w4 ⟨rfl,hb⟩
 refine ⟨_,rfl, ?_⟩
 have BX4:=qAA.mk (qAb BX3.out hb)
 have RB4:=qAA.mk (qAb RB3.out hb)
 have HS4:=qAA.mk (sa.SimT.of_below (Y:=Y) (qAf HB3.out HB3.out.size hb))
 clear hb BX3 RB3 HB3
 have fv4:=qAC BX4.out 4
 refine hK.out _ _ ⟨(qAB BX4.out 4).trans rfl,(qAB BX4.out 3).trans rfl⟩ (fun hHeld => ?_)
 clear hK K
 refine qBH (a' := ?_) ?_ ?_
 rotate_left
 ·show Act.put _ (some 9) _=_
  simp only [Act.put,qs1,qs2,qs3,qAH,qAI]
  rfl
 refine last_ (i:=7) (N:=none) #[qT,qT,qT,qT,qT,qT,qT,qT,qF,qF] rfl rfl (by kernel_rfl) (by decide) (fun K hK => ?_)
 have hc4:=(qAB BX4.out 4).trans rfl
 refine skip_ (w1 := ?_) (by rfl) rfl ?_ ?_
 rotate_left
 ·go_simp
  rfl
 clear fv4 hc4
 have BX4a:=qAA.mk (qAz BX4.out 4 (.slice A4 m m) rfl)
 have RB4a:=qAA.mk ((Below.heap_setCell _ ⟨pb,4,none⟩ (.slice A4 m m) rb (show rb ≠ pb by have:=HPR.out;omega)).trans RB4.out)
 have HS4a:=qAA.mk (HS4.out.set (a:=⟨pb,4,none⟩) HPB.out (.slice A4 m m))
 have fv3:=qAC BX4a.out 3
 have hc3:=(qAB BX4a.out 3).trans rfl
 refine hK.out _ _ ?_
 clear hK K
 refine qAL (i:=8) (N:=some 11) (v := ?_) (a' := ?_) #[qT,qT,qT,qT,qT,qT,qT,qT,qT,qF] rfl rfl (by kernel_rfl) (fun _ _ _ h=>h) (Or.inl ⟨by rfl, ?_⟩) ?_ ?_
 rotate_left
 ·intro w'
  go_simp
  with_reducible rfl
 rotate_left
 ·simp only [Act.put,qs1,qs2,qs3,qAH,qAI]
  rfl
 refine last_ (i:=9) (N:=none) #[qT,qT,qT,qT,qT,qT,qT,qT,qT,qT] rfl rfl (by kernel_rfl) (by decide) (fun K hK => ?_)
 refine skip_ (w1 := ?_) (by rfl) rfl ?_ ?_
 rotate_left
 ·go_simp
  rfl
 clear fv3 hc3
 refine hK.out _ _ ?_
 clear hK K
 refine qBM (by kernel_rfl) ?_
 have BX5:=qAA.mk (qAz BX4a.out 3 (.slice A3 n n) rfl)
 have RB5:=qAA.mk ((Below.heap_setCell _ ⟨pb,3,none⟩ (.slice A3 n n) rb (show rb ≠ pb by have:=HPR.out;omega)).trans RB4a.out)
 have HS5:=qAA.mk (HS4a.out.set (a:=⟨pb,3,none⟩) HPB.out (.slice A3 n n))
 generalize (w4.setCell ⟨pb,4,none⟩ (.slice A4 m m)).setCell ⟨pb,3,none⟩ (.slice A3 n n)=w5 at *
 clear BX4a RB4a HS4a BX4 RB4 HS4
 have hz3:w5.cell? ⟨pb,3,none⟩=some (.slice A3 n n):=(qAB BX5.out 3).trans rfl
 go_wp2
 clear hz3
 go_loopw [15] (fun v15 wr=>∃ j:Nat,v15=.int .i64 (j:Int)∧qAA (j≤n)∧qAA (sa.SimT Y w wr)∧qAA (wr.heap[pb]?=some (.cells #[.int .i64 f0,.int .i64 f1,.string f2,.slice A3 n n,.slice A4 m m] 34 (0,0)))∧qAA (wr.heap[rb]?=some (.cells #[.int .i64 0,.int .i64 0,.string ⟨#[]⟩,.slice none 0 0,.slice none 0 0] 34 (0,0)))) (fun v15 _=>n - (intOf v15).toNat)
 case atStart=>exact ⟨0,rfl,⟨Nat.zero_le _⟩,HS5,BX5,RB5⟩
 case round =>
  clear HS5 BX5 RB5
  obtain ⟨j,rfl,HJ0,HS,HB,HRB⟩:=hrel
  by_cases hlt:j < n
  ·have i1:decide ((j:Int) < (n:Int))=true:=decide_eq_true (by omega)
   have i2:decide (j < n)=true:=decide_eq_true hlt
   have i3:(j < n)=True:=eq_true hlt
   have HWR:=qAA.mk (show wrap64 ((j:Int)+1)=(j:Int)+1 by have:=LM.out;unfold wrap64;omega)
   have HM:=qAA.mk (sa.meas j n hlt HWR.out)
   have HJ:=qAA.mk (show j+1≤n by omega)
   obtain ⟨b,cs,x,u3,u4,hA,hyb,hcs,hnc,hsz,hx,hgr,r3,r4⟩:=(sa.VRow.simT HS.out (d+1) HV.out).1.elem hlt HN.out
   obtain ⟨ad,had⟩:∃ ad,ad=(⟨b,0,none⟩:Addr):=⟨_,rfl⟩
   rw [← had] at hA
   subst hA
   have HAD:=qAA.mk had
   have HYB:=qAA.mk hyb
   have HCS:=qAA.mk hcs
   have HSZ:=qAA.mk (show j * 5+5≤cs.size by omega)
   have HGRP:=qAA.mk hgr
   have HF:=qAA.mk (sa.five.of hcs hgr had)
   have HR3:=qAA.mk r3
   have HR4:=qAA.mk r4
   have HO3:=qAA.mk (sa.qCE (by obtain ⟨A_,c_,e_,_⟩:=sa.VRow.C d r3;exact ⟨_,_,_,e_⟩))
   have HO4:=qAA.mk (sa.qCE (by obtain ⟨A_,c_,e_,_⟩:=r4.C;exact ⟨_,_,_,e_⟩))
   have HNY:=qAA.mk (show ¬ Y pb∧¬ Y rb from ⟨fun y=>by have:=HY.out pb y;have:=HPB.out;omega,fun y=>by have:=HY.out rb y;have:=HPB.out;have:=HPR.out;omega⟩)
   have t3:(j:Int) < (n:Int):=by omega
   clear had hyb hcs hnc hsz hgr r3 r4 hx
   go_wp2
   refine qAy (n:=11) (S:=fun w'=>w'.cell? ⟨pb,3,none⟩=some (.slice (some ad) n n)) (ds:=[10]) #[qF,qF,qF,qF,qF,qF,qF,qF,qF,qF,qF] (by kernel_rfl) rfl rfl ((qAB (qAO HB.out) 3).trans rfl) (fun hHeld => ?_)
   generalize hwd:wr.drew=wd at hHeld ⊢
   have SD:=qAA.mk (hwd▸HS.out.trans (sa.SimT.of_below (qAX (Below.refl _ _))))
   have BD:=qAA.mk (hwd▸qAO HB.out)
   have RD:=qAA.mk (hwd▸qAO HRB.out)
   have CD:=qAA.mk (hwd▸qAO HCS.out)
   have FD:=qAA.mk (hwd▸(show sa.five wr.drew (ad.add (j * 5)) (.int .i64 x.f0) (.int .i64 x.f1) (.string x.f2) u3 u4 from HF.out))
   have VD:=qAA.mk (hwd▸sa.VRow.move (w:=wr) (w1:=wr.drew) (fun _ h=>h) (fun _ _ _=>rfl) d HR3.out)
   have KD:=qAA.mk (hwd▸HR4.out.move (w1:=wr.drew) (fun _ h=>h) (fun _ _ _=>rfl))
   clear hwd
   refine qAL (i:=0) (N:=some 18) (v := ?_) (a' := ?_) #[qT,qF,qF,qF,qF,qF,qF,qF,qF,qF,qF] rfl rfl (by kernel_rfl) (fun _ _ _ h=>h) (Or.inl ⟨by rfl, ?_⟩) ?_ ?_
   rotate_left
   ·intro w'
    go_simp
    with_reducible rfl
   rotate_left
   ·simp only [Act.put,qs1,qs2,qs3,qAH,qAI]
    rfl
   refine qAL (i:=2) (N:=some 20) (v := ?_) (a' := ?_) #[qT,qF,qT,qF,qF,qF,qF,qF,qF,qF,qF] rfl rfl (by kernel_rfl) (fun _ _ _ h=>h) (Or.inl ⟨by rfl, ?_⟩) ?_ ?_
   rotate_left
   ·intro w'
    go_simp
    with_reducible rfl
   rotate_left
   ·simp only [Act.put,qs1,qs2,qs3,qAH,qAI]
    rfl
   refine qAL (i:=3) (N:=some 21) (v := ?_) (a' := ?_) #[qT,qF,qT,qT,qF,qF,qF,qF,qF,qF,qF] rfl rfl (by kernel_rfl) (fun _ _ _ h=>h) (Or.inl ⟨by rfl, ?_⟩) ?_ ?_
   rotate_left
   ·intro w'
    go_simp
    with_reducible rfl
   rotate_left
   ·simp only [Act.put,qs1,qs2,qs3,qAH,qAI]
    rfl
   refine qAL (i:=5) (N:=some 23) (v := ?_) (a' := ?_) #[qT,qF,qT,qT,qF,qT,qF,qF,qF,qF,qF] rfl rfl (by kernel_rfl) (fun _ _ _ h=>h) (Or.inl ⟨by rfl, ?_⟩) ?_ ?_
   rotate_left
   ·intro w'
    go_simp
    with_reducible rfl
   rotate_left
   ·simp only [Act.put,qs1,qs2,qs3,qAH,qAI]
    rfl
   refine qAt (i:=1) (N:=some 19) (v := ?_) (a' := ?_) #[qT,qT,qT,qT,qF,qT,qF,qF,qF,qF,qF] rfl rfl (by kernel_rfl) (fun _ _ _ h=>h) (Or.inl ⟨by rfl, ?_⟩) hHeld ?_ ?_
   rotate_left
   ·intro w' s0
    go_simp
    with_reducible rfl
   rotate_left
   ·simp only [Act.put,qs1,qs2,qs3,qAH,qAI]
    rfl
   refine qAt (i:=4) (N:=some 22) (v := ?_) (a' := ?_) #[qT,qT,qT,qT,qT,qT,qF,qF,qF,qF,qF] rfl rfl (by kernel_rfl) (fun _ _ _ h=>h) (Or.inl ⟨by rfl, ?_⟩) hHeld ?_ ?_
   rotate_left
   ·intro w' s0
    go_simp
    with_reducible rfl
   rotate_left
   ·simp only [Act.put,qs1,qs2,qs3,qAH,qAI]
    rfl
   refine qAL (i:=6) (N:=some 24) (v := ?_) (a' := ?_) #[qT,qT,qT,qT,qT,qT,qT,qF,qF,qF,qF] rfl rfl (by kernel_rfl) (fun _ _ _ h=>h) (Or.inl ⟨by rfl, ?_⟩) ?_ ?_
   rotate_left
   ·intro w'
    go_simp
    with_reducible rfl
   rotate_left
   ·simp only [Act.put,qs1,qs2,qs3,qAH,qAI]
    rfl
   refine one_ (i:=7) (N:=some 25) #[qT,qT,qT,qT,qT,qT,qT,qT,qF,qF,qF] rfl rfl (by kernel_rfl) (by decide) (fun K hK => ?_)
   obtain ⟨z0,z1,z2,z3,z4⟩:=FD.out
   refine value_ (w1 := ?_) (v := ?_) (by rfl) rfl ?_ ?_
   rotate_left 2
   ·go_simp
    constructor
    ·rfl
    ·rfl
   clear z0 z1 z2 z3 z4
   refine hK.out _ _ ((qAB BD.out 3).trans rfl) (fun hHeld => ?_)
   clear hK K
   refine qBH (a' := ?_) ?_ ?_
   rotate_left
   ·show Act.put _ (some 25) _=_
    simp only [Act.put,qs1,qs2,qs3,qAH,qAI]
    rfl
   refine one_ (i:=8) (N:=some 26) #[qT,qT,qT,qT,qT,qT,qT,qT,qT,qF,qF] rfl rfl (by kernel_rfl) (by decide) (fun K hK => ?_)
   refine qBe Try.func74 (by kernel_rfl) rfl #[.agg #[.int .i64 x.f0,.int .i64 x.f1,.string x.f2,u3,u4]] (by rfl) rfl rfl (by (try simp only [List.map_toArray,List.map_cons,List.map_nil]);first | done | rfl) ?_
   refine (ih x u3 u4 _ (fun k hk=>Nat.lt_of_lt_of_le (HY.out k hk) SD.out.size) VD.out KD.out).mono ?_
   rintro e w7 ⟨rfl,hs⟩
   refine ⟨_,rfl, ?_⟩
   have HS7:=qAA.mk hs
   have BX7:=qAA.mk ((hs.out pb (qAp BD.out) HNY.out.1).trans BD.out)
   have RB7:=qAA.mk ((hs.out rb (qAp RD.out) HNY.out.2).trans RD.out)
   clear hs
   refine hK.out _ _ ((qAB BX7.out 3).trans rfl) (fun hHeld => ?_)
   clear hK K
   refine qBH (a' := ?_) ?_ ?_
   rotate_left
   ·show Act.put _ (some 26) _=_
    simp only [Act.put,qs1,qs2,qs3,qAH,qAI]
    rfl
   refine qAL (i:=9) (N:=some 27) (v := ?_) (a' := ?_) #[qT,qT,qT,qT,qT,qT,qT,qT,qT,qT,qF] rfl rfl (by kernel_rfl) (fun _ _ _ h=>h) (Or.inl ⟨by rfl, ?_⟩) ?_ ?_
   rotate_left
   ·intro w'
    go_simp
    with_reducible rfl
   rotate_left
   ·simp only [Act.put,qs1,qs2,qs3,qAH,qAI]
    rfl
   refine last_ (i:=10) (N:=none) #[qT,qT,qT,qT,qT,qT,qT,qT,qT,qT,qT] rfl rfl (by kernel_rfl) (by decide) (fun K hK => ?_)
   obtain ⟨cs7,k1,k2⟩:=HS7.out.block HYB.out CD.out
   refine sa.st25 34 (by rfl) rfl 27 (.tmp 26) rfl (by kernel_rfl) b (j * 5) ?haddr (.int .i64 x.f0) (.int .i64 x.f1) (.string x.f2) (sa.qB0 u3) (sa.qB0 u4) rfl ?hone cs7 34 ?hsz k1 ?_
   (case haddr=>show Value.pointer (some (ad.add (j * 5)))=_;rw [HAD.out,Addr.add_lit,Nat.zero_add])
   (case hone=>intro q hq;simp at hq;rcases hq with rfl | rfl | rfl | rfl | rfl <;> first | rfl | exact HO3.out.2 | exact HO4.out.2)
   (case hsz=>have:=HSZ.out;omega)
   intro w9 cs9 q1 q2 q3 q4 q5
   have HS9:=qAA.mk (sa.SimT.store HS7.out HYB.out CD.out HGRP.out q5 q1 (q2.trans k2) q3 (fun c7 h7 i_ hi_=>by rw [k1] at h7;injection h7 with h7;injection h7 with h7;subst h7;exact q4 i_ hi_))
   have BX9:=qAA.mk ((q5.block pb (qAp BX7.out) (fun e_=>HNY.out.1 (Option.some.inj e_▸HYB.out))).trans BX7.out)
   have RB9:=qAA.mk ((q5.block rb (qAp RB7.out) (fun e_=>HNY.out.2 (Option.some.inj e_▸HYB.out))).trans RB7.out)
   clear k1 k2 q1 q2 q3 q4 q5
   refine hK.out _ _ ?_
   clear hK K
   refine qBM (by kernel_rfl) ?_
   go_wp2
   go_roundw
   case rel=>exact ⟨j+1,by rw [HWR.out];rfl,HJ,⟨SD.out.trans HS9.out⟩,BX9,RB9⟩
   case measure=>exact HM.out
  ·have i1:decide ((j:Int) < (n:Int))=false:=decide_eq_false (by omega)
   have i2:decide (j < n)=false:=decide_eq_false hlt
   have i3:(j < n)=False:=eq_false hlt
   have hz0:wr.cell? ⟨pb,0,none⟩=some (.int .i64 f0):=(qAB HB.out 0).trans rfl
   have hz1:wr.cell? ⟨pb,1,none⟩=some (.int .i64 f1):=(qAB HB.out 1).trans rfl
   have hz2:wr.cell? ⟨pb,2,none⟩=some (.string f2):=(qAB HB.out 2).trans rfl
   have hz3:wr.cell? ⟨pb,3,none⟩=some (.slice A3 n n):=(qAB HB.out 3).trans rfl
   have hz4:wr.cell? ⟨pb,4,none⟩=some (.slice A4 m m):=(qAB HB.out 4).trans rfl
   go_wp2_with (first | ((with_reducible refine qAn (p:=2) rfl ?_);refine sa.qBT rfl rfl 2 _ rfl rb rfl (.int .i64 f0) (.int .i64 f1) (.string f2) (.slice A3 n n) (.slice A4 m m) rfl (fun q hq=>by simp at hq;rcases hq with rfl | rfl | rfl | rfl | rfl <;> rfl) _ rfl HRB.out ?_;intro w9 hres hgr;have HRES:=qAA.mk hres;have HGR:=qAA.mk hgr;clear hgr hres))
   go_wp2
   refine bodyPost_ret (results_cell_row rfl _ _ rb 34 _ (0,0) _ rfl HRES.out Try.underlying34 rfl (by kernel_rfl)) rfl ?_
   exact ⟨rfl,HS.out.far HGR.out (by have:=HPB.out;have:=HPR.out;omega)⟩
end
end Go.Proofs.Ytdommiicjpjfpaa.X
namespace Go.Proofs.Ytdommiicjpjfpaa.X
open Go.RowKit Go.Proofs.YtdommiicjpjfpaaW.PrintWords Go.Proofs.YtdommiicjpjfpaaW.PrintLast Go.Proofs.YtdommiicjpjfpaaW.PrintMore Go.Proofs.YtdommiicjpjfpaaW
section
set_option maxHeartbeats 400000
set_option maxRecDepth 100000
theorem sa.ta_nil (w:World):(Instr.typeAssert .nilIface 20 102 true).run Try.prog w=.ok (.tuple #[.agg #[.int .i64 0,.int .i64 0],.bool false]) w:=by
 kernel_rfl
theorem sa.ta_flt (w:World) (e p:Int):(Instr.typeAssert (.iface 102 (.agg #[.int .i64 e,.int .i64 p])) 20 102 true).run Try.prog w=.ok (.tuple #[.agg #[.int .i64 e,.int .i64 p],.bool true]) w:=by
 kernel_rfl
section
variable {P:Program} {ops:Array Oper} {Q:Exit→Act→List Frame→World→Prop} {i:Nat} {rest:List Nat} {o:Oper} {a:Act} {cs:List Frame} {w w1:World}
theorem sa.opS_recN (ho:ops[i]?=some o) (hg:o.guard=none) (hrun:(execOp a.eval o).run P w=.ok .recover w1) (hr:recoverD cs=none) (h:wpOpsS P ops Q rest (a.put o.dst .nilIface) cs w1):wpOpsS P ops Q (i :: rest) a cs w:=by
 unfold wpOpsS
 rw [ho]
 dsimp only
 rw [if_pos (by simp [Region.wanted,hg]),hrun,hr]
 exact h
theorem sa.opS_recS {v:Value} {cs':List Frame} (ho:ops[i]?=some o) (hg:o.guard=none) (hrun:(execOp a.eval o).run P w=.ok .recover w1) (hr:recoverD cs=some (v,cs')) (h:wpOpsS P ops Q rest (a.put o.dst v) cs' w1):wpOpsS P ops Q (i :: rest) a cs w:=by
 unfold wpOpsS
 rw [ho]
 dsimp only
 rw [if_pos (by simp [Region.wanted,hg]),hrun,hr]
 exact h
end
section
variable {P:Program} {ops:Array Oper} {Q:Exit→Act→List Frame→World→Prop} {cs:List Frame}
theorem sa.S_of_list (hQ:¬ LetsOut (fun e a' w'=>Q e a' cs w')):∀ (l:List Oper) (k:Nat),(∀ j,l[j]?=ops[k+j]?)→∀ a w,wpList P ops (fun e a' w'=>Q e a' cs w') l a w→wpOpsS P ops Q (List.range' k l.length) a cs w
 | [],k,_,a,w,h=>h
 | o :: l,k,hj,a,w,h=>by
  have h0:ops[k]?=some o:=by simpa using (hj 0).symm
  have ih:=sa.S_of_list hQ l (k+1) (fun j=>by have:=hj (j+1);simpa [Nat.add_assoc,Nat.add_comm 1 j] using this)
  simp only [List.length_cons,List.range'_succ]
  unfold wpOpsS
  rw [h0]
  dsimp only
  unfold wpList at h
  by_cases hw:Region.wanted o (yielded ops a.tmps)=true
  ·rw [if_pos hw] at h ⊢
   have h1:=h.resolve_right (fun q=>hQ q.2)
   have h2:=Oper.wp_mono (fun a w=>ih a w) h1
   unfold Oper.wp at h2
   generalize (execOp a.eval o).run P w=r at h2 ⊢
   split
   ·exact h2.elim
   ·exact h2
  ·rw [if_neg hw] at h ⊢
   exact ih _ _ h
theorem sa.wpS_recN {id:Nat} {o:Oper} {rest:List Oper} {a:Act} {w:World} (hops:ops.toList=o :: rest) (hg:o.guard=none) (hrun:(execOp a.eval o).run P w=.ok .recover w) (hr:recoverD cs=none) (hQ:¬ LetsOut (fun e a' w'=>Q e a' cs w')) {a1:Act} (ha:a.put o.dst .nilIface=a1) (h:wpList P ops (fun e a' w'=>Q e a' cs w') rest a1 w):(Code.region id ops false).wpS P Q a cs w:=by
 subst ha
 apply wpS_region
 have hsz:ops.size=rest.length+1:=by rw [← Array.length_toList,hops];rfl
 have h0:ops[0]?=some o:=by rw [← Array.getElem?_toList,hops];rfl
 rw [hsz,List.range_eq_range',List.range'_succ]
 refine sa.opS_recN h0 hg hrun hr (sa.S_of_list hQ rest 1 (fun j => ?_) _ _ h)
 rw [← Array.getElem?_toList,hops,Nat.add_comm]
 rfl
theorem sa.wpS_recS {id:Nat} {o:Oper} {rest:List Oper} {a:Act} {w:World} {v:Value} {cs':List Frame} (hops:ops.toList=o :: rest) (hg:o.guard=none) (hrun:(execOp a.eval o).run P w=.ok .recover w) (hr:recoverD cs=some (v,cs')) (hQ:¬ LetsOut (fun e a' w'=>Q e a' cs' w')) {a1:Act} (ha:a.put o.dst v=a1) (h:wpList P ops (fun e a' w'=>Q e a' cs' w') rest a1 w):(Code.region id ops false).wpS P Q a cs w:=by
 subst ha
 apply wpS_region
 have hsz:ops.size=rest.length+1:=by rw [← Array.length_toList,hops];rfl
 have h0:ops[0]?=some o:=by rw [← Array.getElem?_toList,hops];rfl
 rw [hsz,List.range_eq_range',List.range'_succ]
 refine sa.opS_recS h0 hg hrun hr (sa.S_of_list hQ rest 1 (fun j => ?_) _ _ h)
 rw [← Array.getElem?_toList,hops,Nat.add_comm]
 rfl
end
def sa.But3 (w w':World) (bv bn be n:Nat):Prop:=w'.os=w.os∧w'.tape=w.tape∧w'.output=w.output∧w.heap.size≤w'.heap.size∧∀ k,k < n→k ≠ bv→k ≠ bn→k ≠ be→w'.heap[k]?=w.heap[k]?
theorem sa.catch_idle (bv bn be:Nat) (w:World) :
  CallsD Try.prog 72 #[.pointer (some ⟨bv,0,none⟩),.pointer (some ⟨bn,0,none⟩),.pointer (some ⟨be,0,none⟩)] .returning w fun en u' w'=>en=.returned (.tuple #[])∧u'=.returning∧Below w.heap.size w w':=by
 refine callsD_of_wpS Try.func72 rfl fun c₀ cs hu => ?_
 have hta:=sa.ta_nil w
 refine wpS_seq ?_
 refine sa.wpS_recN rfl rfl rfl (by simp [recoverD,hu]) ?_ (a1:={ tmps:=#[.pointer (some ⟨bv,0,none⟩),.pointer (some ⟨bn,0,none⟩),.pointer (some ⟨be,0,none⟩),undef,undef,undef,.nilIface,undef,undef,undef,undef,undef,undef,undef,undef,undef],defers:=[] }) rfl ?_
 ·rintro ⟨a,w,h⟩
  obtain ⟨u',he,_⟩:=h
  cases he
 go_wp2
 refine wpS_of_wp ?_
 go_wp2
 refine ⟨rfl,_, ?_,_,by simp [results,Try.results37],rfl,rfl, ?_⟩
 ·cases c₀
  cases hu
  rfl
 ·exact (Below.refl _ _).alloc (Nat.le_refl _) _
theorem sa.catch_bad (bv bn be:Nat) (e p x y:Int) (cv:Array Value) (hsz:0+5≤cv.size) (w:World) (hv:w.heap[bv]?=some (.cells cv 34 (0,0))) (hn:w.heap[bn]?=some (.cells #[.int .i64 x] 3 (0,0))) (he:w.heap[be]?=some (.cells #[.int .i64 y] 26 (0,0))) (hvn:bv ≠ bn) (hve:bv ≠ be) (hne:bn ≠ be) :
  CallsD Try.prog 72 #[.pointer (some ⟨bv,0,none⟩),.pointer (some ⟨bn,0,none⟩),.pointer (some ⟨be,0,none⟩)] (.panicking [{ v:=.iface 102 (.agg #[.int .i64 e,.int .i64 p]),recovered:=false }]) w fun en u' w'=>en=.returned (.tuple #[])∧u'=.panicking [{ v:=.iface 102 (.agg #[.int .i64 e,.int .i64 p]),recovered:=true }] ∧
   (∃ cv',w'.heap[bv]?=some (.cells cv' 34 (0,0))∧cv'.size=cv.size∧sa.grp cv' 0 (.int .i64 0) (.int .i64 0) (.string ⟨#[]⟩) (.slice none 0 0) (.slice none 0 0))∧w'.heap[bn]?=some (.cells #[.int .i64 p] 3 (0,0))∧w'.heap[be]?=some (.cells #[.int .i64 e] 26 (0,0))∧sa.But3 w w' bv bn be w.heap.size:=by
 have HV:=qAA.mk hv
 have HN:=qAA.mk hn
 have HE:=qAA.mk he
 have HD:=qAA.mk (And.intro hvn (And.intro hve hne))
 have hta:=sa.ta_flt w e p
 clear hv hn he hvn hve hne
 refine callsD_of_wpS Try.func72 rfl fun c₀ cs hu => ?_
 refine wpS_seq ?_
 refine sa.wpS_recS (v:=.iface 102 (.agg #[.int .i64 e,.int .i64 p])) (cs':={ c₀ with mode:=.panicking [{ v:=.iface 102 (.agg #[.int .i64 e,.int .i64 p]),recovered:=true }] } :: cs) rfl rfl rfl (by simp [recoverD,hu]) ?_ (a1:={ tmps:=#[.pointer (some ⟨bv,0,none⟩),.pointer (some ⟨bn,0,none⟩),.pointer (some ⟨be,0,none⟩),undef,undef,undef,.iface 102 (.agg #[.int .i64 e,.int .i64 p]),undef,undef,undef,undef,undef,undef,undef,undef,undef],defers:=[] }) rfl ?_
 ·rintro ⟨a,w,h⟩
  obtain ⟨u',he,_⟩:=h
  cases he
 go_wp2
 refine wpS_of_wp ?_
 go_wp2
 obtain ⟨w1,hw1⟩:∃ w1,w.alloc (.cells #[.int .i64 e,.int .i64 p] 102)=w1:=⟨_,rfl⟩
 have F1:=qAA.mk (show w1.heap[w.heap.size]?=some (.cells #[.int .i64 e,.int .i64 p] 102 (0,0)) by rw [← hw1];simpa using heap_alloc_new w _)
 have V1:=qAA.mk (hw1▸qAR HV.out (.cells #[.int .i64 e,.int .i64 p] 102))
 have N1:=qAA.mk (hw1▸qAR HN.out (.cells #[.int .i64 e,.int .i64 p] 102))
 have E1:=qAA.mk (hw1▸qAR HE.out (.cells #[.int .i64 e,.int .i64 p] 102))
 have HB1:=qAA.mk (show Below w.heap.size w w1 from hw1▸(Below.refl _ _).alloc (Nat.le_refl _) _)
 have HSZ:=qAA.mk hsz
 have HLT:=qAA.mk (And.intro (qAp HV.out) (And.intro (qAp HN.out) (qAp HE.out)))
 rw [hw1]
 clear hw1 hsz hta
 generalize hfb:w.heap.size=fb at *
 have HFB:=qAA.mk hfb
 clear hfb
 refine qAy (n:=8) (S:=fun w'=>w'.cell? ⟨fb,1,none⟩=some (.int .i64 p)∧w'.cell? ⟨fb,0,none⟩=some (.int .i64 e)) (ds:=[]) #[qF,qF,qF,qF,qF,qF,qF,qF] (by kernel_rfl) rfl rfl ⟨(qAB (qAO F1.out) 1).trans rfl,(qAB (qAO F1.out) 0).trans rfl⟩ (fun hHeld => ?_)
 generalize hwd:w1.drew=wd at hHeld ⊢
 have Fd:=qAA.mk (hwd▸qAO F1.out)
 have Vd:=qAA.mk (hwd▸qAO V1.out)
 have Nd:=qAA.mk (hwd▸qAO N1.out)
 have Ed:=qAA.mk (hwd▸qAO E1.out)
 have HBd:=qAA.mk (hwd▸qAX HB1.out)
 clear hwd
 refine qAL (i:=0) (N:=some 11) (v := ?_) (a' := ?_) #[qT,qF,qF,qF,qF,qF,qF,qF] rfl rfl (by kernel_rfl) (fun _ _ _ h=>h) (Or.inl ⟨by rfl, ?_⟩) ?_ ?_
 rotate_left
 ·intro w'
  go_simp
  with_reducible rfl
 rotate_left
 ·simp only [Act.put,qs1,qs2,qs3,qAH,qAI]
  rfl
 refine qAL (i:=1) (N:=some 12) (v := ?_) (a' := ?_) #[qT,qT,qF,qF,qF,qF,qF,qF] rfl rfl (by kernel_rfl) (fun _ _ _ h=>h) (Or.inl ⟨by rfl, ?_⟩) ?_ ?_
 rotate_left
 ·intro w'
  go_simp
  with_reducible rfl
 rotate_left
 ·simp only [Act.put,qs1,qs2,qs3,qAH,qAI]
  rfl
 refine qAL (i:=3) (N:=some 14) (v := ?_) (a' := ?_) #[qT,qT,qF,qT,qF,qF,qF,qF] rfl rfl (by kernel_rfl) (fun _ _ _ h=>h) (Or.inl ⟨by rfl, ?_⟩) ?_ ?_
 rotate_left
 ·intro w'
  go_simp
  with_reducible rfl
 rotate_left
 ·simp only [Act.put,qs1,qs2,qs3,qAH,qAI]
  rfl
 refine qAt (i:=2) (N:=some 13) (v := ?_) (a' := ?_) #[qT,qT,qT,qT,qF,qF,qF,qF] rfl rfl (by kernel_rfl) (fun _ _ _ h=>h) (Or.inl ⟨by rfl, ?_⟩) hHeld ?_ ?_
 rotate_left
 ·rintro w' ⟨s0,s1⟩
  go_simp
  with_reducible rfl
 rotate_left
 ·simp only [Act.put,qs1,qs2,qs3,qAH,qAI]
  rfl
 refine qAt (i:=4) (N:=some 15) (v := ?_) (a' := ?_) #[qT,qT,qT,qT,qT,qF,qF,qF] rfl rfl (by kernel_rfl) (fun _ _ _ h=>h) (Or.inl ⟨by rfl, ?_⟩) hHeld ?_ ?_
 rotate_left
 ·rintro w' ⟨s0,s1⟩
  go_simp
  with_reducible rfl
 rotate_left
 ·simp only [Act.put,qs1,qs2,qs3,qAH,qAI]
  rfl
 refine one_ (i:=5) (N:=none) #[qT,qT,qT,qT,qT,qT,qF,qF] rfl rfl (by kernel_rfl) (by decide) (fun K hK => ?_)
 refine sa.st25 34 (by rfl) rfl 0 (.tmp 11) rfl (by kernel_rfl) bv 0 rfl (.int .i64 0) (.int .i64 0) (.string ⟨#[]⟩) (.slice none 0 0) (.slice none 0 0) rfl ?hone cv 34 HSZ.out Vd.out ?_
 (case hone=>intro q hq;simp at hq;rcases hq with rfl | rfl | rfl | rfl | rfl <;> rfl)
 intro w2 cv' q1 q2 q3 q4 q5
 have V2:=qAA.mk q1
 have SZ2:=qAA.mk q2
 have G2:=qAA.mk q3
 have N2:=qAA.mk ((q5.block bn (qAp Nd.out) (fun e_=>HD.out.1 (Option.some.inj e_).symm)).trans Nd.out)
 have E2:=qAA.mk ((q5.block be (qAp Ed.out) (fun e_=>HD.out.2.1 (Option.some.inj e_).symm)).trans Ed.out)
 have F2:=qAA.mk ((q5.block fb (qAp Fd.out) (fun e_=>by have:=Option.some.inj e_;have:=HLT.out.1;omega)).trans Fd.out)
 have FO2:=qAA.mk (show sa.But3 w w2 bv bn be fb from ⟨q5.os.trans HBd.out.os,q5.tape.trans HBd.out.tape,q5.output.trans HBd.out.output,Nat.le_trans HBd.out.size q5.size,fun k hk n1 n2 n3=>(q5.block k (Nat.lt_trans hk (qAp Fd.out)) (fun e_=>n1 (Option.some.inj e_))).trans (HBd.out.block k hk)⟩)
 clear q1 q2 q3 q4 q5
 have hcn:=(qAB N2.out 0).trans rfl
 have fvn:=qAC N2.out 0
 refine hK.out _ _ ⟨(qAB F2.out 1).trans rfl,(qAB F2.out 0).trans rfl⟩ (fun hHeld => ?_)
 clear hK K
 refine one_ (i:=6) (N:=none) #[qT,qT,qT,qT,qT,qT,qT,qF] rfl rfl (by kernel_rfl) (by decide) (fun K hK => ?_)
 refine skip_ (w1 := ?_) (by rfl) rfl ?_ ?_
 rotate_left
 ·go_simp
  rfl
 clear hcn fvn
 have N3:=qAA.mk (qAz N2.out 0 (.int .i64 p) rfl)
 have V3:=qAA.mk ((Below.heap_setCell _ ⟨bn,0,none⟩ (.int .i64 p) bv (show bv ≠ bn from HD.out.1)).trans V2.out)
 have E3:=qAA.mk ((Below.heap_setCell _ ⟨bn,0,none⟩ (.int .i64 p) be (show be ≠ bn from fun e_=>HD.out.2.2 e_.symm)).trans E2.out)
 have F3:=qAA.mk ((Below.heap_setCell _ ⟨bn,0,none⟩ (.int .i64 p) fb (show fb ≠ bn by have:=HLT.out.2.1;omega)).trans F2.out)
 have FO3:=qAA.mk (show sa.But3 w (w2.setCell ⟨bn,0,none⟩ (.int .i64 p)) bv bn be fb from ⟨FO2.out.1,FO2.out.2.1,FO2.out.2.2.1,by rw [Deep.nblk_setCell];exact FO2.out.2.2.2.1,fun k hk n1 n2 n3=>(Below.heap_setCell _ ⟨bn,0,none⟩ (.int .i64 p) k n2).trans (FO2.out.2.2.2.2 k hk n1 n2 n3)⟩)
 have hce:=(qAB E3.out 0).trans rfl
 have fve:=qAC E3.out 0
 refine hK.out _ _ ⟨(qAB F3.out 1).trans rfl,(qAB F3.out 0).trans rfl⟩ (fun hHeld => ?_)
 clear hK K
 refine one_ (i:=7) (N:=none) #[qT,qT,qT,qT,qT,qT,qT,qT] rfl rfl (by kernel_rfl) (by decide) (fun K hK => ?_)
 refine skip_ (w1 := ?_) (by rfl) rfl ?_ ?_
 rotate_left
 ·go_simp
  rfl
 clear hce fve
 have E4:=qAA.mk (qAz E3.out 0 (.int .i64 e) rfl)
 have V4:=qAA.mk ((Below.heap_setCell _ ⟨be,0,none⟩ (.int .i64 e) bv (show bv ≠ be from HD.out.2.1)).trans V3.out)
 have N4:=qAA.mk ((Below.heap_setCell _ ⟨be,0,none⟩ (.int .i64 e) bn (show bn ≠ be from HD.out.2.2)).trans N3.out)
 have F4:=qAA.mk ((Below.heap_setCell _ ⟨be,0,none⟩ (.int .i64 e) fb (show fb ≠ be by have:=HLT.out.2.2;omega)).trans F3.out)
 have FO4:=qAA.mk (show sa.But3 w ((w2.setCell ⟨bn,0,none⟩ (.int .i64 p)).setCell ⟨be,0,none⟩ (.int .i64 e)) bv bn be fb from ⟨FO3.out.1,FO3.out.2.1,FO3.out.2.2.1,by rw [Deep.nblk_setCell];exact FO3.out.2.2.2.1,fun k hk n1 n2 n3=>(Below.heap_setCell _ ⟨be,0,none⟩ (.int .i64 e) k n3).trans (FO3.out.2.2.2.2 k hk n1 n2 n3)⟩)
 refine hK.out _ _ ⟨(qAB F4.out 1).trans rfl,(qAB F4.out 0).trans rfl⟩ (fun hHeld => ?_)
 clear hK K
 refine qBM (by kernel_rfl) ?_
 go_wp2
 refine ⟨rfl,_, ?_,_,by simp [results,Try.results37],rfl,rfl,⟨cv',V4.out,SZ2.out,G2.out⟩,N4.out,E4.out,by rw [HFB.out];exact FO4.out⟩
 ·cases c₀
  cases hu
  rfl
end
end Go.Proofs.Ytdommiicjpjfpaa.X
namespace Go.Proofs.Ytdommiicjpjfpaa.X
open Go.RowKit Go.Proofs.YtdommiicjpjfpaaW.PrintWords Go.Proofs.YtdommiicjpjfpaaW.PrintLast Go.Proofs.YtdommiicjpjfpaaW.PrintMore Go.Proofs.YtdommiicjpjfpaaW
section
set_option maxHeartbeats 4000000
set_option maxRecDepth 100000
theorem sa.arrL_all {p:S34→Prop} {f:Int→Int→sa.R3 S34} (hf:∀ (a l:Int) (x:S34) (a2 l2:Int),f a l=.ok x a2 l2→p x):∀ (k:Nat) (acc:List S34) (a l:Int) (vs:List S34) (a2 l2:Int),(∀ y ∈ acc,p y)→sa.arrL f k acc a l=.ok vs a2 l2→∀ y ∈ vs,p y
 | 0,acc,a,l,vs,a2,l2,hb,h=>by
  unfold sa.arrL at h
  injection h with e1 _ _
  subst e1;exact hb
 | k+1,acc,a,l,vs,a2,l2,hb,h=>by
  unfold sa.arrL at h
  rcases hfa:f a l with ⟨x,a1,l1⟩ | ⟨e,q⟩
  ·rw [hfa] at h
   refine sa.arrL_all hf k _ a1 l1 vs a2 l2 (fun y hy => ?_) h
   rcases List.mem_append.1 hy with hy | hy
   ·exact hb y hy
   ·rw [List.mem_singleton.1 hy];exact hf a l x a1 l1 hfa
  ·rw [hfa] at h;cases h
theorem sa.recL_all {p:S34→Prop} {bs:List Int} {u:Int→Int × Int × Int} {f:Int→Int→sa.R3 S34} (hf:∀ (a l:Int) (x:S34) (a2 l2:Int),f a l=.ok x a2 l2→p x):∀ (k:Nat) (ks:List ByteArray) (acc:List S34) (a l:Int) (vs:List ByteArray × List S34) (a2 l2:Int),(∀ y ∈ acc,p y)→sa.recL bs u f k ks acc a l=.ok vs a2 l2→∀ y ∈ vs.2,p y
 | 0,ks,acc,a,l,vs,a2,l2,hb,h=>by
  unfold sa.recL at h
  injection h with e1 _ _
  subst e1;exact hb
 | k+1,ks,acc,a,l,vs,a2,l2,hb,h=>by
  unfold sa.recL at h
  rcases hka:sa.keyS bs u ks a l with ⟨kk,a1,l1⟩ | ⟨e,q⟩
  ·rw [hka] at h
   dsimp only at h
   rcases hfa:f a1 l1 with ⟨x,a3,l3⟩ | ⟨e,q⟩
   ·rw [hfa] at h
    refine sa.recL_all hf k _ _ a3 l3 vs a2 l2 (fun y hy => ?_) h
    rcases List.mem_append.1 hy with hy | hy
    ·exact hb y hy
    ·rw [List.mem_singleton.1 hy];exact hf a1 l1 x a3 l3 hfa
   ·rw [hfa] at h;cases h
  ·rw [hka] at h;cases h
theorem sa.valS_deep {bs:List Int} {u i:Int→Int × Int × Int}:∀ (d:Nat) (a l:Int) (x:S34) (a2 l2:Int),sa.valS bs u i d a l=.ok x a2 l2→sa.deepL d x.f3
 | 0,a,l,x,a2,l2,h=>by
  rw [sa.valS] at h
  split at h <;> cases h
 | d+1,a,l,x,a2,l2,h=>by
  rw [sa.valS_s] at h
  have leaf:∀ {y:S34} {b m:Int},y.f3=[]→sa.R3.ok y b m=.ok x a2 l2→sa.deepL (d+1) x.f3:=fun e h=>by
   injection h with e1 _ _
   subst e1
   rw [e]
   exact sa.deepL_nil d
  have nb:∀ {e q:Int},sa.R3.bad e q=.ok x a2 l2→sa.deepL (d+1) x.f3:=fun h=>by cases h
  by_cases h0:a=(bs.length:Int) ∨ rd bs a > 6
  ·rw [if_pos h0] at h;exact nb h
  rw [if_neg h0] at h
  by_cases h1:1 > l
  ·rw [if_pos h1] at h;exact nb h
  rw [if_neg h1] at h
  by_cases k1:rd bs a=1
  ·rw [if_pos k1] at h;exact leaf rfl h
  rw [if_neg k1] at h
  by_cases k2:rd bs a=2
  ·rw [if_pos k2] at h;exact leaf rfl h
  rw [if_neg k2] at h
  by_cases k3:rd bs a=3
  ·rw [if_pos k3] at h
   by_cases e1:(i (a+1)).2.2 ≠ 0
   ·rw [if_pos e1] at h;exact nb h
   ·rw [if_neg e1] at h;exact leaf rfl h
  rw [if_neg k3] at h
  by_cases k4:rd bs a=4
  ·rw [if_pos k4] at h
   by_cases e1:(u (a+1)).2.2 ≠ 0
   ·rw [if_pos e1] at h;exact nb h
   rw [if_neg e1] at h
   by_cases e2:(l - 1) / 1 < (u (a+1)).1
   ·rw [if_pos e2] at h;exact nb h
   rw [if_neg e2] at h
   by_cases e3:(bs.length:Int) - (u (a+1)).2.1 < (u (a+1)).1
   ·rw [if_pos e3] at h;exact nb h
   ·rw [if_neg e3] at h;exact leaf rfl h
  rw [if_neg k4] at h
  by_cases k5:rd bs a=5
  ·rw [if_pos k5] at h
   by_cases e1:(u (a+1)).2.2 ≠ 0
   ·rw [if_pos e1] at h;exact nb h
   rw [if_neg e1] at h
   by_cases e2:(l - 1) / 1 < (u (a+1)).1
   ·rw [if_pos e2] at h;exact nb h
   rw [if_neg e2] at h
   rcases hL:sa.arrL (sa.valS bs u i d) (u (a+1)).1.toNat [] (u (a+1)).2.1 (l - 1) with ⟨vs,a3,l3⟩ | ⟨e,p⟩
   ·rw [hL] at h
    have hp:=sa.arrL_all (p:=fun y=>sa.deepL d y.f3) (sa.valS_deep d) _ _ _ _ _ _ _ (fun y hy=>by cases hy) hL
    injection h with e1 _ _
    subst e1
    exact hp
   ·rw [hL] at h;exact nb h
  rw [if_neg k5] at h
  by_cases k6:rd bs a=6
  ·rw [if_pos k6] at h
   by_cases e1:(u (a+1)).2.2 ≠ 0
   ·rw [if_pos e1] at h;exact nb h
   rw [if_neg e1] at h
   by_cases e2:(l - 1) / 2 < (u (a+1)).1
   ·rw [if_pos e2] at h;exact nb h
   rw [if_neg e2] at h
   rcases hL:sa.recL bs u (sa.valS bs u i d) (u (a+1)).1.toNat [] [] (u (a+1)).2.1 (l - 1) with ⟨⟨ks,vs⟩,a3,l3⟩ | ⟨e,p⟩
   ·rw [hL] at h
    have hp:=sa.recL_all (p:=fun y=>sa.deepL d y.f3) (sa.valS_deep d) _ _ _ _ _ _ _ _ (fun y hy=>by cases hy) hL
    injection h with e1 _ _
    subst e1
    exact hp
   ·rw [hL] at h;exact nb h
  rw [if_neg k6] at h
  exact leaf rfl h
def sa.takeS (bs:List Int) (u i:Int→Int × Int × Int) (at_:Int):sa.R3 S34:=if at_ < 0 ∨ at_ > (bs.length:Int) then .bad 41 0 else sa.valS bs u i 8 at_ 2048
def sa.GotT (r:sa.R3 S34) (w:World) (e:Ending) (w':World):Prop :=
 match r with
 | .ok x a' _=>∃ v3 v4:Value,e=.returned (.tuple #[.agg #[.int .i64 x.f0,.int .i64 x.f1,.string x.f2,v3,v4],.int .i64 a',.int .i64 0])∧sa.VRow w' (fun k=>w.heap.size≤k∧k < w'.heap.size) 8 v3 x.f3∧sa.KRow w' (fun k=>w.heap.size≤k∧k < w'.heap.size) v4 x.f4∧Below w.heap.size w w'
 | .bad f p=>e=.returned (.tuple #[.agg #[.int .i64 0,.int .i64 0,.string ⟨#[]⟩,.slice none 0 0,.slice none 0 0],.int .i64 p,.int .i64 f])∧Below w.heap.size w w'
theorem sa.res22 {tmps:Array Value} {w:World} {bv bn be:Nat} (hp4:tmps[4]?=some (.pointer (some ⟨bv,0,none⟩))) (hp5:tmps[5]?=some (.pointer (some ⟨bn,0,none⟩))) (hp6:tmps[6]?=some (.pointer (some ⟨be,0,none⟩))) {v0 v1 v2 v3 v4:Value} {x y:Int} (hv:w.heap[bv]?=some (.cells #[v0,v1,v2,v3,v4] 34 (0,0))) (hn:w.heap[bn]?=some (.cells #[.int .i64 x] 3 (0,0))) (he:w.heap[be]?=some (.cells #[.int .i64 y] 26 (0,0))) :
  (results Try.f61 tmps).run Try.prog w=.ok (.tuple #[.agg #[v0,v1,v2,v3,v4],.int .i64 x,.int .i64 y]) w:=by
 have z0:w.cell? ⟨bv,0,none⟩=some v0:=(qAB hv 0).trans rfl
 have z1:w.cell? ⟨bv,1,none⟩=some v1:=(qAB hv 1).trans rfl
 have z2:w.cell? ⟨bv,2,none⟩=some v2:=(qAB hv 2).trans rfl
 have z3:w.cell? ⟨bv,3,none⟩=some v3:=(qAB hv 3).trans rfl
 have z4:w.cell? ⟨bv,4,none⟩=some v4:=(qAB hv 4).trans rfl
 have c1:w.cell? ⟨bn,0,none⟩=some (.int .i64 x):=(qAB hn 0).trans rfl
 have c2:w.cell? ⟨be,0,none⟩=some (.int .i64 y):=(qAB he 0).trans rfl
 simp [results,Try.results22,hp4,hp5,hp6,asAddr,z0,z1,z2,z3,z4,c1,c2,go_sem]
theorem sa.grp_eq {cv:Array Value} {v0 v1 v2 v3 v4:Value} (hs:cv.size=5) (h:sa.grp cv 0 v0 v1 v2 v3 v4):cv=#[v0,v1,v2,v3,v4]:=by
 obtain ⟨h0,h1,h2,h3,h4⟩:=h
 apply Array.ext (by simp [hs])
 intro i hi hj
 have hi5:i < 5:=by omega
 have key:cv[i]?=#[v0,v1,v2,v3,v4][i]?:=by
  match i,hi5 with
  | 0,_=>exact h0
  | 1,_=>exact h1
  | 2,_=>exact h2
  | 3,_=>exact h3
  | 4,_=>exact h4
 rw [Array.getElem?_eq_getElem hi,Array.getElem?_eq_getElem hj] at key
 exact Option.some.inj key
theorem sa.three_new (w:World) (A B C:Obj):(((w.alloc A).alloc B).alloc C).heap[w.heap.size]?=some A∧(((w.alloc A).alloc B).alloc C).heap[w.heap.size+1]?=some B∧(((w.alloc A).alloc B).alloc C).heap[w.heap.size+1+1]?=some C∧(((w.alloc A).alloc B).alloc C).heap.size=w.heap.size+1+1+1∧Below w.heap.size w (((w.alloc A).alloc B).alloc C):=by
 have s1:=Deep.nblk_alloc w A
 have s2:=Deep.nblk_alloc (w.alloc A) B
 have s3:=Deep.nblk_alloc ((w.alloc A).alloc B) C
 have e1:=heap_alloc_new w A
 have e2:=heap_alloc_new (w.alloc A) B
 have e3:=heap_alloc_new ((w.alloc A).alloc B) C
 refine ⟨?_, ?_, ?_,by omega,(((Below.refl _ _).alloc (Nat.le_refl _) _).alloc (by omega) _).alloc (by omega) _⟩
 ·rw [Deep.blk_alloc_lt _ _ _ (by omega),Deep.blk_alloc_lt _ _ _ (by omega)];exact e1
 ·rw [Deep.blk_alloc_lt _ _ _ (by omega),← s1];exact e2
 ·rw [← s1,← s2];exact e3
theorem sa.takeA {bs:List Int} {w:World} {A:Option Addr} {c:Nat} {at_:Int} (h:at_ < 0 ∨ at_ > (bs.length:Int)):Calls Try.prog 61 #[.slice A bs.length c,.int .i64 at_] w (sa.GotT (.bad 41 0) w):=by
 obtain ⟨m,hm⟩:∃ m,bs.length=m:=⟨_,rfl⟩
 rw [hm] at h ⊢
 have fin:∀ (tmps:Array Value),tmps[4]?=some (.pointer (some ⟨w.heap.size,0,none⟩))→tmps[5]?=some (.pointer (some ⟨w.heap.size+1,0,none⟩))→tmps[6]?=some (.pointer (some ⟨w.heap.size+1+1,0,none⟩))→∃ v,(results Try.f61 tmps).run Try.prog (((w.alloc (.cells #[.int .i64 0,.int .i64 0,.string ⟨#[]⟩,.slice none 0 0,.slice none 0 0] 34)).alloc (.cells #[.int .i64 0] 3)).alloc (.cells #[.int .i64 41] 26))=.ok v (((w.alloc (.cells #[.int .i64 0,.int .i64 0,.string ⟨#[]⟩,.slice none 0 0,.slice none 0 0] 34)).alloc (.cells #[.int .i64 0] 3)).alloc (.cells #[.int .i64 41] 26))∧sa.GotT (.bad 41 0) w (.returned v) (((w.alloc (.cells #[.int .i64 0,.int .i64 0,.string ⟨#[]⟩,.slice none 0 0,.slice none 0 0] 34)).alloc (.cells #[.int .i64 0] 3)).alloc (.cells #[.int .i64 41] 26)):=fun tmps q4 q5 q6=>by
  obtain ⟨hv,hn,he,_,hb⟩:=sa.three_new w (.cells #[.int .i64 0,.int .i64 0,.string ⟨#[]⟩,.slice none 0 0,.slice none 0 0] 34) (.cells #[.int .i64 0] 3) (.cells #[.int .i64 41] 26)
  exact ⟨_,sa.res22 q4 q5 q6 hv hn he,rfl,hb⟩
 have FIN:=qAA.mk fin
 clear fin
 by_cases h1:at_ < 0
 ·have d1:decide (at_ < 0)=true:=decide_eq_true h1
  clear h
  go_enter_defers Try.func61,Try.ntmps61
  go_wp2
  exact FIN.out _ rfl rfl rfl
 ·have d1:decide (at_ < 0)=false:=decide_eq_false h1
  have h2:at_ > (m:Int):=h.resolve_left h1
  have d2:decide (at_ > (m:Int))=true:=decide_eq_true h2
  have d3:decide ((m:Int) < at_)=true:=decide_eq_true h2
  clear h h1
  go_enter_defers Try.func61,Try.ntmps61
  go_wp2
  exact FIN.out _ rfl rfl rfl
theorem sa.takeC {bs:List Int} {u i:Int→Int × Int × Int} (hU:sa.Uin bs u i) {w:World} {A:Option Addr} {c:Nat} {at_:Int} (hC:(Kd.int .u8).C w A bs.length bs) (hc:bs.length≤c) (h0:0≤at_) (h1:at_≤(bs.length:Int)) {ee pp:Int} (hr:sa.valS bs u i 8 at_ 2048=.bad ee pp) :
  Calls Try.prog 61 #[.slice A bs.length c,.int .i64 at_] w (sa.GotT (.bad ee pp) w):=by
 have hmf:∀ (fn:Fn) (first cap:Array Value) (w:World),(Instr.makeFunc fn first cap).run Try.prog w=.ok (.func fn first cap) w:=fun _ _ _ _=>rfl
 have d1:decide (at_ < 0)=false:=decide_eq_false (by omega)
 have d2:decide (at_ > (bs.length:Int))=false:=decide_eq_false (by omega)
 have d3:decide ((bs.length:Int) < at_)=false:=decide_eq_false (by omega)
 have HU:=qAA.mk hU
 have HC:=qAA.mk hC
 have HCC:=qAA.mk hc
 have H0:=qAA.mk h0
 have H1:=qAA.mk h1
 have HR:=qAA.mk hr
 have HT:=qAA.mk (sa.three_new w (.cells #[.int .i64 0,.int .i64 0,.string ⟨#[]⟩,.slice none 0 0,.slice none 0 0] 34) (.cells #[.int .i64 0] 3) (.cells #[.int .i64 0] 26))
 clear hU hC hc h0 h1 hr
 go_enter_defers Try.func61,Try.ntmps61
 go_wp2_with (first | ((with_reducible refine qAi (N:=21) rfl ?_);refine qAe ?hg (N:=21) ?hd (cs:=#[.slice A bs.length c,.int .i64 at_,.int .i64 2048]) (t:=106) ?hr ?_;(case hd=>rfl);(case hg=>rfl);(case hr=>first | (go_simp;done) | (go_simp;rfl));intro g hg w2 hbox hb1;have HB2:=qAA.mk (qAf HT.out.2.2.2.2 HT.out.2.2.2.2.size hb1);have V2:=qAA.mk (qAb HT.out.1 hb1);have N2:=qAA.mk (qAb HT.out.2.1 hb1);have E2:=qAA.mk (qAb HT.out.2.2.1 hb1);have G2:=qAA.mk hbox;have HG:=qAA.mk (hg.trans HT.out.2.2.2.1);clear hbox hb1 hg) | (go_at_call 73;refine (sa.value1 HU.out (by have:=HG.out;omega) HCC.out 8 (by omega) 0 rfl w2 at_ 2048 HB2.out G2.out (Kd.qAZ HC.out HB2.out) H0.out H1.out (by omega) (by omega)).mono ?_;rw [HR.out];rintro e_ w3 ⟨rfl,hx⟩;have V3:=qAA.mk ((hx.fr.2 _ (qAp V2.out) (by have:=HG.out;omega)).trans V2.out);have N3:=qAA.mk ((hx.fr.2 _ (qAp N2.out) (by have:=HG.out;omega)).trans N2.out);have E3:=qAA.mk ((hx.fr.2 _ (qAp E2.out) (by have:=HG.out;omega)).trans E2.out);have HB3:=qAA.mk hx.bel;clear hx;unfold sa.flt))
 refine leaves_cons (f:=72) (args:=#[.pointer (some ⟨w.heap.size,0,none⟩),.pointer (some ⟨w.heap.size+1,0,none⟩),.pointer (some ⟨w.heap.size+1+1,0,none⟩)]) (by simp) (by simp [go_sem]) ?_
 refine (sa.catch_bad _ _ _ ee pp _ _ _ (by decide) w3 V3.out N3.out E3.out (by omega) (by omega) (by omega)).mono ?_
 rintro e u' w4 ⟨rfl,rfl,⟨cv,hv,hsz,hg⟩,hn,he,hb⟩
 have hcv:=sa.grp_eq hsz hg
 subst hcv
 have hs:settle (.panicking [{ v:=.iface 102 (.agg #[.int .i64 ee,.int .i64 pp]),recovered:=true }])=.returning:=rfl
 show Leaves Try.prog Try.f61 _ _ [] (settle _) _
 rw [hs]
 refine ⟨_,sa.res22 rfl rfl rfl hv hn he,rfl, ?_⟩
 exact ⟨hb.1.trans HB3.out.os,hb.2.1.trans HB3.out.tape,hb.2.2.1.trans HB3.out.output,Nat.le_trans HB3.out.size hb.2.2.2.1,fun k hk=>(hb.2.2.2.2 k (Nat.lt_of_lt_of_le hk HB3.out.size) (by omega) (by omega) (by omega)).trans (HB3.out.block k hk)⟩
theorem sa.leaves_congr {P:Program} {fn:Func} {t1 t2:Array Value} {R:Ending→World→Prop} (he:results fn t1=results fn t2):∀ (ds:List Deferred) {u:FrameMode} {w:World},Leaves P fn t1 R ds u w→Leaves P fn t2 R ds u w
 | [],.returning,w,h=>by
  obtain ⟨v,h1,h2⟩:=h
  exact ⟨v,he▸h1,h2⟩
 | [],.panicking _,w,h=>h
 | [],.run,_,h=>h
 | d :: ds,u,w,h=>by
  obtain ⟨h1,fv,cap,f,args,h2,h3,h4⟩:=h
  refine ⟨h1,fv,cap,f,args,h2,h3,h4.mono fun e u' w' hh => ?_⟩
  cases e with
  | returned v=>exact sa.leaves_congr he ds hh
  | panicked ch=>exact sa.leaves_congr he ds hh
  | outgrown=>exact hh
theorem sa.leaves22 {P:Program} {N:Tmp} (hN:N ≠ 4∧N ≠ 5∧N ≠ 6) {a:Act} {v:Value} {R:Ending→World→Prop} {u:FrameMode} {w:World} (h:Leaves P Try.f61 (a.put (some N) v).tmps R (a.put (some N) v).defers u w):Leaves P Try.f61 a.tmps R a.defers u w:=by
 refine sa.leaves_congr ?_ a.defers h
 have e:∀ k,N ≠ k→(a.put (some N) v).tmps.getD k undef=a.tmps.getD k undef:=fun k hk=>by
  simp [Act.put,Array.getElem?_setIfInBounds,hk]
 simp only [results,Try.results22]
 simp [e 4 hN.1,e 5 hN.2.1,e 6 hN.2.2,Act.put,Array.getElem?_setIfInBounds,hN.1,hN.2.1,hN.2.2]
theorem sa.takeB {bs:List Int} {u i:Int→Int × Int × Int} (hU:sa.Uin bs u i) {w:World} {A:Option Addr} {c:Nat} {at_:Int} (hC:(Kd.int .u8).C w A bs.length bs) (hc:bs.length≤c) (h0:0≤at_) (h1:at_≤(bs.length:Int)) {x:S34} {a2 l2:Int} (hr:sa.valS bs u i 8 at_ 2048=.ok x a2 l2) :
  Calls Try.prog 61 #[.slice A bs.length c,.int .i64 at_] w (sa.GotT (.ok x a2 l2) w):=by
 have hmf:∀ (fn:Fn) (first cap:Array Value) (w:World),(Instr.makeFunc fn first cap).run Try.prog w=.ok (.func fn first cap) w:=fun _ _ _ _=>rfl
 have d1:decide (at_ < 0)=false:=decide_eq_false (by omega)
 have d2:decide (at_ > (bs.length:Int))=false:=decide_eq_false (by omega)
 have d3:decide ((bs.length:Int) < at_)=false:=decide_eq_false (by omega)
 have HU:=qAA.mk hU
 have HC:=qAA.mk hC
 have HCC:=qAA.mk hc
 have H0:=qAA.mk h0
 have H1:=qAA.mk h1
 have HR:=qAA.mk hr
 have HDP:=qAA.mk (sa.valS_deep 8 _ _ _ _ _ hr)
 have HT:=qAA.mk (sa.three_new w (.cells #[.int .i64 0,.int .i64 0,.string ⟨#[]⟩,.slice none 0 0,.slice none 0 0] 34) (.cells #[.int .i64 0] 3) (.cells #[.int .i64 0] 26))
 clear hU hC hc h0 h1 hr
 go_enter_defers Try.func61,Try.ntmps61
 go_wp2_with (first | ((with_reducible refine qAi (N:=21) rfl ?_);refine qAe ?hg (N:=21) ?hd (cs:=#[.slice A bs.length c,.int .i64 at_,.int .i64 2048]) (t:=106) ?hr ?_;(case hd=>rfl);(case hg=>rfl);(case hr=>first | (go_simp;done) | (go_simp;rfl));intro g hg w2 hbox hb1;have HB2:=qAA.mk (qAf HT.out.2.2.2.2 HT.out.2.2.2.2.size hb1);have V2:=qAA.mk (qAb HT.out.1 hb1);have N2:=qAA.mk (qAb HT.out.2.1 hb1);have E2:=qAA.mk (qAb HT.out.2.2.1 hb1);have G2:=qAA.mk hbox;have HG:=qAA.mk (hg.trans HT.out.2.2.2.1);clear hbox hb1 hg) | (go_at_call 73;refine (sa.value1 HU.out (by have:=HG.out;omega) HCC.out 8 (by omega) 0 rfl w2 at_ 2048 HB2.out G2.out (Kd.qAZ HC.out HB2.out) H0.out H1.out (by omega) (by omega)).mono ?_;rw [HR.out];rintro e_ w3 ⟨⟨v3,v4,rfl,hr3,hr4⟩,hx⟩;have V3:=qAA.mk ((hx.fr.2 _ (qAp V2.out) (by have:=HG.out;omega)).trans V2.out);have N3:=qAA.mk ((hx.fr.2 _ (qAp N2.out) (by have:=HG.out;omega)).trans N2.out);have E3:=qAA.mk ((hx.fr.2 _ (qAp E2.out) (by have:=HG.out;omega)).trans E2.out);have G3:=qAA.mk hx.blk;have HB3:=qAA.mk hx.bel;have R3_:=qAA.mk (sa.VRow.of_R 8 (Y:=fun k=>w2.heap.size≤k∧k < w3.heap.size) (Kd.qBf hr3) (fun k hk=>⟨hk.1,hk.2.2.1⟩) HDP.out);have R4_:=qAA.mk (sa.KRow.of_R (Y:=fun k=>w2.heap.size≤k∧k < w3.heap.size) (Kd.qBf hr4) (fun k hk=>⟨hk.1,hk.2.2.1⟩));have HSZ:=qAA.mk hx.fr.1;clear hx hr3 hr4) | ((with_reducible refine qAn (p:=4) rfl ?_);refine sa.qBT rfl rfl 4 _ rfl w.heap.size rfl (.int .i64 x.f0) (.int .i64 x.f1) (.string x.f2) v3 v4 rfl (fun q hq=>by simp at hq;rcases hq with rfl | rfl | rfl | rfl | rfl <;> first | rfl | exact (sa.qCE (by obtain ⟨A_,c_,e_,_⟩:=sa.VRow.C 8 R3_.out;exact ⟨_,_,_,e_⟩)).1 | exact (sa.qCE (by obtain ⟨A_,c_,e_,_⟩:=R4_.out.C;exact ⟨_,_,_,e_⟩)).1) _ rfl V3.out ?_;intro w4 hres hgr;have V4:=qAA.mk hres;have N4:=qAA.mk ((hgr.block _ (qAp N3.out) (fun e_=>by have:=Option.some.inj e_;omega)).trans N3.out);have E4:=qAA.mk ((hgr.block _ (qAp E3.out) (fun e_=>by have:=Option.some.inj e_;omega)).trans E3.out);have G4:=qAA.mk ((hgr.block _ (qAp G3.out) (fun e_=>by have:=Option.some.inj e_;have:=HG.out;omega)).trans G3.out);have HB4:=qAA.mk (show Below w.heap.size w w4 from ⟨hgr.os.trans HB3.out.os,hgr.tape.trans HB3.out.tape,hgr.output.trans HB3.out.output,Nat.le_trans HB3.out.size hgr.size,fun k hk=>(hgr.block k (Nat.lt_of_lt_of_le hk HB3.out.size) (fun e_=>by have:=Option.some.inj e_;omega)).trans (HB3.out.block k hk)⟩);have HYW:=qAA.mk (show w.heap.size+1+1+1 < w2.heap.size from by have:=qAp G2.out;have:=HG.out;omega);have VR4:=qAA.mk (sa.VRow.move (w:=w3) (w1:=w4) (Y:=fun k=>w2.heap.size≤k∧k < w3.heap.size) (fun _ h=>h) (fun k hk hlt=>hgr.block k hlt (fun e_=>by have:=Option.some.inj e_;have:=HYW.out;omega)) 8 R3_.out);have KR4:=qAA.mk (R4_.out.move (w1:=w4) (fun _ h=>h) (fun k hk hlt=>hgr.block k hlt (fun e_=>by have:=Option.some.inj e_;have:=HYW.out;omega)));have HSZ4:=qAA.mk (show w3.heap.size≤w4.heap.size from hgr.size);clear hres hgr))
 generalize hYd:(fun k=>w2.heap.size≤k∧k < w3.heap.size)=Y at *
 have HYD:=qAA.mk (show ∀ k,Y k→w2.heap.size≤k∧k < w3.heap.size from fun k hk=>by rw [← hYd] at hk;exact hk)
 clear hYd R3_ R4_
 refine qAy (n:=9) (S:=fun w'=>w'.cell? ⟨g,1,none⟩=some (.int .i64 a2)) (ds:=[]) #[qF,qF,qF,qF,qF,qF,qF,qF,qF] (by kernel_rfl) rfl rfl ((qAB (qAO G4.out) 1).trans rfl) (fun hHeld => ?_)
 generalize hwd:w4.drew=wd at hHeld ⊢
 have Vd:=qAA.mk (hwd▸qAO V4.out)
 have Nd:=qAA.mk (hwd▸qAO N4.out)
 have Ed:=qAA.mk (hwd▸qAO E4.out)
 have Gd:=qAA.mk (hwd▸qAO G4.out)
 have HBd:=qAA.mk (hwd▸qAX HB4.out)
 have VRd:=qAA.mk (hwd▸sa.VRow.move (w:=w4) (w1:=w4.drew) (fun _ h=>h) (fun _ _ _=>rfl) 8 VR4.out)
 have KRd:=qAA.mk (hwd▸KR4.out.move (w1:=w4.drew) (fun _ h=>h) (fun _ _ _=>rfl))
 have HSd:=qAA.mk (show w3.heap.size≤wd.heap.size from hwd▸HSZ4.out)
 clear hwd
 refine qAL (i:=2) (N:=some 26) (v := ?_) (a' := ?_) #[qF,qF,qT,qF,qF,qF,qF,qF,qF] rfl rfl (by kernel_rfl) (fun _ _ _ h=>sa.leaves22 (by decide) h) (Or.inl ⟨by rfl, ?_⟩) ?_ ?_
 rotate_left
 ·intro w'
  go_simp
  with_reducible rfl
 rotate_left
 ·simp only [Act.put,qs1,qs2,qs3,qAH,qAI]
  rfl
 refine qAL (i:=3) (N:=some 27) (v := ?_) (a' := ?_) #[qF,qF,qT,qT,qF,qF,qF,qF,qF] rfl rfl (by kernel_rfl) (fun _ _ _ h=>sa.leaves22 (by decide) h) (Or.inl ⟨by rfl, ?_⟩) ?_ ?_
 rotate_left
 ·intro w'
  go_simp
  with_reducible rfl
 rotate_left
 ·simp only [Act.put,qs1,qs2,qs3,qAH,qAI]
  rfl
 refine qAL (i:=4) (N:=some 28) (v := ?_) (a' := ?_) #[qF,qF,qT,qT,qT,qF,qF,qF,qF] rfl rfl (by kernel_rfl) (fun _ _ _ h=>sa.leaves22 (by decide) h) (Or.inl ⟨by rfl, ?_⟩) ?_ ?_
 rotate_left
 ·intro w'
  go_simp
  with_reducible rfl
 rotate_left
 ·simp only [Act.put,qs1,qs2,qs3,qAH,qAI]
  rfl
 refine qAt (i:=5) (N:=some 29) (v := ?_) (a' := ?_) #[qF,qF,qT,qT,qT,qT,qF,qF,qF] rfl rfl (by kernel_rfl) (fun _ _ _ h=>sa.leaves22 (by decide) h) (Or.inl ⟨by rfl, ?_⟩) hHeld ?_ ?_
 rotate_left
 ·intro w' s0
  go_simp
  with_reducible rfl
 rotate_left
 ·simp only [Act.put,qs1,qs2,qs3,qAH,qAI]
  rfl
 refine one_ (i:=0) (N:=some 24) #[qT,qF,qT,qT,qT,qT,qF,qF,qF] rfl rfl (by kernel_rfl) (by decide) (fun K hK => ?_)
 have z0:=(qAB Vd.out 0).trans rfl
 have z1:=(qAB Vd.out 1).trans rfl
 have z2:=(qAB Vd.out 2).trans rfl
 have z3:=(qAB Vd.out 3).trans rfl
 have z4:=(qAB Vd.out 4).trans rfl
 refine value_ (w1 := ?_) (v := ?_) (by rfl) rfl ?_ ?_
 rotate_left 2
 ·go_simp
  constructor
  ·rfl
  ·rfl
 clear z0 z1 z2 z3 z4
 refine hK.out _ _ ((qAB Gd.out 1).trans rfl) (fun hHeld => ?_)
 clear hK K
 refine qBH (a' := ?_) ?_ ?_
 rotate_left
 ·show Act.put _ (some 24) _=_
  simp only [Act.put,qs1,qs2,qs3,qAH,qAI]
  rfl
 refine one_ (i:=1) (N:=some 25) #[qT,qT,qT,qT,qT,qT,qF,qF,qF] rfl rfl (by kernel_rfl) (by decide) (fun K hK => ?_)
 refine qBe Try.func74 (by kernel_rfl) rfl #[.agg #[.int .i64 x.f0,.int .i64 x.f1,.string x.f2,v3,v4]] (by rfl) rfl rfl (by (try simp only [List.map_toArray,List.map_cons,List.map_nil]);first | done | rfl) ?_
 refine (sa.tight1 8 x v3 v4 _ (fun k hk=>by have:=(HYD.out k hk).2;have:=HSd.out;omega) VRd.out KRd.out).mono ?_
 rintro e w5 ⟨rfl,hs⟩
 refine ⟨_,rfl, ?_⟩
 have V5:=qAA.mk ((hs.out _ (qAp Vd.out) (fun y=>by have:=(HYD.out _ y).1;have:=HYW.out;have:=HG.out;omega)).trans Vd.out)
 have N5:=qAA.mk ((hs.out _ (qAp Nd.out) (fun y=>by have:=(HYD.out _ y).1;have:=HYW.out;have:=HG.out;omega)).trans Nd.out)
 have E5:=qAA.mk ((hs.out _ (qAp Ed.out) (fun y=>by have:=(HYD.out _ y).1;have:=HYW.out;have:=HG.out;omega)).trans Ed.out)
 have G5:=qAA.mk ((hs.out _ (qAp Gd.out) (fun y=>by have:=(HYD.out _ y).1;have:=HYW.out;have:=HG.out;omega)).trans Gd.out)
 have HB5:=qAA.mk (show Below w.heap.size w w5 from ⟨hs.os.trans HBd.out.os,hs.tape.trans HBd.out.tape,hs.output.trans HBd.out.output,Nat.le_trans HBd.out.size hs.size,fun k hk=>(hs.out k (Nat.lt_of_lt_of_le hk HBd.out.size) (fun y=>by have:=(HYD.out k y).1;have:=HYW.out;omega)).trans (HBd.out.block k hk)⟩)
 have VR5:=qAA.mk (sa.VRow.simT hs 8 VRd.out).2
 have KR5:=qAA.mk (sa.KRow.simT hs KRd.out).2
 have HS5:=qAA.mk (Nat.le_trans HSd.out hs.size)
 clear hs
 refine hK.out _ _ ((qAB G5.out 1).trans rfl) (fun hHeld => ?_)
 clear hK K
 refine qBH (a' := ?_) ?_ ?_
 rotate_left
 ·show Act.put _ (some 25) _=_
  simp only [Act.put,qs1,qs2,qs3,qAH,qAI]
  rfl
 refine one_ (i:=6) (N:=none) #[qT,qT,qT,qT,qT,qT,qT,qF,qF] rfl rfl (by kernel_rfl) (by decide) (fun K hK => ?_)
 refine sa.st25 34 (by rfl) rfl 4 (.tmp 25) rfl (by kernel_rfl) w.heap.size 0 rfl (.int .i64 x.f0) (.int .i64 x.f1) (.string x.f2) (sa.qB0 v3) (sa.qB0 v4) rfl ?hone _ 34 (Nat.le_refl _) V5.out ?_
 (case hone=>intro q hq;simp at hq;rcases hq with rfl | rfl | rfl | rfl | rfl <;> first | rfl | exact (sa.qCE (by obtain ⟨A_,c_,e_,_⟩:=sa.VRow.C 8 VRd.out;exact ⟨_,_,_,e_⟩)).2 | exact (sa.qCE (by obtain ⟨A_,c_,e_,_⟩:=KRd.out.C;exact ⟨_,_,_,e_⟩)).2)
 intro w6 cv' q1 q2 q3 q4 q5
 have V6:=qAA.mk q1
 have SZ6:=qAA.mk q2
 have GR6:=qAA.mk q3
 have N6:=qAA.mk ((q5.block _ (qAp N5.out) (fun e_=>by have:=Option.some.inj e_;omega)).trans N5.out)
 have E6:=qAA.mk ((q5.block _ (qAp E5.out) (fun e_=>by have:=Option.some.inj e_;omega)).trans E5.out)
 have G6:=qAA.mk ((q5.block _ (qAp G5.out) (fun e_=>by have:=Option.some.inj e_;have:=HG.out;omega)).trans G5.out)
 have HB6:=qAA.mk (show Below w.heap.size w w6 from ⟨q5.os.trans HB5.out.os,q5.tape.trans HB5.out.tape,q5.output.trans HB5.out.output,Nat.le_trans HB5.out.size q5.size,fun k hk=>(q5.block k (Nat.lt_of_lt_of_le hk HB5.out.size) (fun e_=>by have:=Option.some.inj e_;omega)).trans (HB5.out.block k hk)⟩)
 have VR6:=qAA.mk (sa.VRow.move (w:=w5) (w1:=w6) (fun _ h=>h) (fun k hk hlt=>q5.block k hlt (fun e_=>by have:=Option.some.inj e_;have:=(HYD.out k hk).1;have:=HYW.out;omega)) 8 VR5.out)
 have KR6:=qAA.mk (KR5.out.move (w1:=w6) (fun _ h=>h) (fun k hk hlt=>q5.block k hlt (fun e_=>by have:=Option.some.inj e_;have:=(HYD.out k hk).1;have:=HYW.out;omega)))
 have HS6:=qAA.mk (Nat.le_trans HS5.out q5.size)
 clear q1 q2 q3 q4 q5
 have hcn:=(qAB N6.out 0).trans rfl
 have fvn:=qAC N6.out 0
 refine hK.out _ _ ((qAB G6.out 1).trans rfl) (fun hHeld => ?_)
 clear hK K
 refine one_ (i:=7) (N:=none) #[qT,qT,qT,qT,qT,qT,qT,qT,qF] rfl rfl (by kernel_rfl) (by decide) (fun K hK => ?_)
 refine skip_ (w1 := ?_) (by rfl) rfl ?_ ?_
 rotate_left
 ·go_simp
  rfl
 clear hcn fvn
 have N7:=qAA.mk (qAz N6.out 0 (.int .i64 a2) rfl)
 have V7:=qAA.mk ((Below.heap_setCell _ ⟨w.heap.size+1,0,none⟩ (.int .i64 a2) w.heap.size (show w.heap.size ≠ w.heap.size+1 by omega)).trans V6.out)
 have E7:=qAA.mk ((Below.heap_setCell _ ⟨w.heap.size+1,0,none⟩ (.int .i64 a2) (w.heap.size+1+1) (show w.heap.size+1+1 ≠ w.heap.size+1 by omega)).trans E6.out)
 have G7:=qAA.mk ((Below.heap_setCell _ ⟨w.heap.size+1,0,none⟩ (.int .i64 a2) g (show g ≠ w.heap.size+1 by have:=HG.out;omega)).trans G6.out)
 have HB7:=qAA.mk (HB6.out.setCell (show w.heap.size≤(⟨w.heap.size+1,0,none⟩:Addr).block from Nat.le_succ _) (.int .i64 a2))
 have VR7:=qAA.mk (sa.VRow.move (w:=w6) (w1:=w6.setCell ⟨w.heap.size+1,0,none⟩ (.int .i64 a2)) (fun _ h=>h) (fun k hk hlt=>Below.heap_setCell _ ⟨w.heap.size+1,0,none⟩ (.int .i64 a2) k (show k ≠ w.heap.size+1 by have:=(HYD.out k hk).1;have:=HYW.out;omega)) 8 VR6.out)
 have KR7:=qAA.mk (KR6.out.move (w1:=w6.setCell ⟨w.heap.size+1,0,none⟩ (.int .i64 a2)) (fun _ h=>h) (fun k hk hlt=>Below.heap_setCell _ ⟨w.heap.size+1,0,none⟩ (.int .i64 a2) k (show k ≠ w.heap.size+1 by have:=(HYD.out k hk).1;have:=HYW.out;omega)))
 have HS7:=qAA.mk (show w3.heap.size≤(w6.setCell ⟨w.heap.size+1,0,none⟩ (.int .i64 a2)).heap.size by rw [Deep.nblk_setCell];exact HS6.out)
 generalize w6.setCell ⟨w.heap.size+1,0,none⟩ (.int .i64 a2)=w7 at *
 have hce:=(qAB E7.out 0).trans rfl
 have fve:=qAC E7.out 0
 refine hK.out _ _ ((qAB G7.out 1).trans rfl) (fun hHeld => ?_)
 clear hK K
 refine one_ (i:=8) (N:=none) #[qT,qT,qT,qT,qT,qT,qT,qT,qT] rfl rfl (by kernel_rfl) (by decide) (fun K hK => ?_)
 refine skip_ (w1 := ?_) (by rfl) rfl ?_ ?_
 rotate_left
 ·go_simp
  rfl
 clear hce fve
 have E8:=qAA.mk (qAz E7.out 0 (.int .i64 0) rfl)
 have V8:=qAA.mk ((Below.heap_setCell _ ⟨w.heap.size+1+1,0,none⟩ (.int .i64 0) w.heap.size (show w.heap.size ≠ w.heap.size+1+1 by omega)).trans V7.out)
 have N8:=qAA.mk ((Below.heap_setCell _ ⟨w.heap.size+1+1,0,none⟩ (.int .i64 0) (w.heap.size+1) (show w.heap.size+1 ≠ w.heap.size+1+1 by omega)).trans N7.out)
 have G8:=qAA.mk ((Below.heap_setCell _ ⟨w.heap.size+1+1,0,none⟩ (.int .i64 0) g (show g ≠ w.heap.size+1+1 by have:=HG.out;omega)).trans G7.out)
 have HB8:=qAA.mk (HB7.out.setCell (show w.heap.size≤(⟨w.heap.size+1+1,0,none⟩:Addr).block by show w.heap.size≤w.heap.size+1+1;omega) (.int .i64 0))
 have VR8:=qAA.mk (sa.VRow.move (w:=w7) (w1:=w7.setCell ⟨w.heap.size+1+1,0,none⟩ (.int .i64 0)) (fun _ h=>h) (fun k hk hlt=>Below.heap_setCell _ ⟨w.heap.size+1+1,0,none⟩ (.int .i64 0) k (show k ≠ w.heap.size+1+1 by have:=(HYD.out k hk).1;have:=HYW.out;omega)) 8 VR7.out)
 have KR8:=qAA.mk (KR7.out.move (w1:=w7.setCell ⟨w.heap.size+1+1,0,none⟩ (.int .i64 0)) (fun _ h=>h) (fun k hk hlt=>Below.heap_setCell _ ⟨w.heap.size+1+1,0,none⟩ (.int .i64 0) k (show k ≠ w.heap.size+1+1 by have:=(HYD.out k hk).1;have:=HYW.out;omega)))
 have LT8:=qAA.mk (show w3.heap.size≤(w7.setCell ⟨w.heap.size+1+1,0,none⟩ (.int .i64 0)).heap.size by rw [Deep.nblk_setCell];exact HS7.out)
 generalize w7.setCell ⟨w.heap.size+1+1,0,none⟩ (.int .i64 0)=w8 at *
 refine hK.out _ _ ((qAB G8.out 1).trans rfl) (fun hHeld => ?_)
 clear hK K
 refine qBM (by kernel_rfl) ?_
 go_wp2
 refine leaves_cons (f:=72) (args:=#[.pointer (some ⟨w.heap.size,0,none⟩),.pointer (some ⟨w.heap.size+1,0,none⟩),.pointer (some ⟨w.heap.size+1+1,0,none⟩)]) (by simp) (by simp [go_sem]) ?_
 refine (sa.catch_idle _ _ _ _).mono ?_
 rintro e u' w9 ⟨rfl,rfl,hb⟩
 have hcv:=sa.grp_eq SZ6.out GR6.out
 have V9:=qAb V8.out hb
 rw [hcv] at V9
 show Leaves Try.prog Try.f61 _ _ [] .returning _
 refine ⟨_,sa.res22 rfl rfl rfl V9 (qAb N8.out hb) (qAb E8.out hb),_,_,rfl, ?_, ?_,qAf HB8.out HB8.out.size hb⟩
 ·exact sa.VRow.move (fun k hk=>⟨by have:=HYD.out k hk;have:=HB2.out.size;omega,by have:=HYD.out k hk;have:=LT8.out;have:=hb.size;omega⟩) (fun k hk hlt=>hb.block k hlt) 8 VR8.out
 ·exact KR8.out.move (fun k hk=>⟨by have:=HYD.out k hk;have:=HB2.out.size;omega,by have:=HYD.out k hk;have:=LT8.out;have:=hb.size;omega⟩) (fun k hk hlt=>hb.block k hlt)
theorem sa.take1 {bs:List Int} {u i:Int→Int × Int × Int} (hU:sa.Uin bs u i) {w:World} {A:Option Addr} {c:Nat} (at_:Int) (hC:(Kd.int .u8).C w A bs.length bs) (hc:bs.length≤c):Calls Try.prog 61 #[.slice A bs.length c,.int .i64 at_] w (sa.GotT (sa.takeS bs u i at_) w):=by
 unfold sa.takeS
 by_cases h:at_ < 0 ∨ at_ > (bs.length:Int)
 ·rw [if_pos h];exact sa.takeA h
 ·rw [if_neg h]
  have h0:0≤at_:=by
   have:¬ at_ < 0:=fun e=>h (Or.inl e)
   omega
  have h1:at_≤(bs.length:Int):=by
   have:¬ at_ > (bs.length:Int):=fun e=>h (Or.inr e)
   omega
  rcases hr:sa.valS bs u i 8 at_ 2048 with ⟨x,a2,l2⟩ | ⟨ee,pp⟩
  ·exact sa.takeB hU hC hc h0 h1 hr
  ·exact sa.takeC hU hC hc h0 h1 hr
end
end Go.Proofs.Ytdommiicjpjfpaa.X
namespace Go.Proofs.Ytdommiicjpjfpaa.X
open Go.RowKit Go.Proofs.YtdommiicjpjfpaaW.PrintWords Go.Proofs.YtdommiicjpjfpaaW.PrintLast Go.Proofs.YtdommiicjpjfpaaW.PrintMore Go.Proofs.YtdommiicjpjfpaaW
section
set_option maxRecDepth 100000
def sa.kOk (ks:List ByteArray):Prop:=(∀ s ∈ ks,s.size≤32)∧∀ i:Nat,i+1 < ks.length→Op.bytesLess (rdOf ByteArray.empty ks (i:Int)).toList (rdOf ByteArray.empty ks ((i+1:Nat):Int)).toList=true
def sa.okV:Nat→S34→Prop
 | 0,_=>False
 | d+1,x=>qAg.b x.f0 x.f1 x.f2 x.f3.length x.f4.length=true∧(x.f0=5→sa.kOk x.f4)∧∀ y ∈ x.f3,sa.okV d y
theorem sa.okV.mk {d:Nat} {f0 f1:Int} {f2:ByteArray} {f3:List S34} {f4:List ByteArray} (h:qAg.b f0 f1 f2 f3.length f4.length=true) (k:f0=5→sa.kOk f4) (s:∀ y ∈ f3,sa.okV d y):sa.okV (d+1) ⟨f0,f1,f2,f3,f4⟩:=⟨h,k,s⟩
theorem sa.rdOf_lt (ks:List ByteArray) (k:ByteArray) (i:Nat) (h:i < ks.length):rdOf ByteArray.empty (ks ++ [k]) (i:Int)=rdOf ByteArray.empty ks (i:Int):=by
 unfold rdOf
 rw [Int.toNat_natCast,List.getD_eq_getElem?_getD,List.getD_eq_getElem?_getD,List.getElem?_append_left h]
theorem sa.rdOf_end (ks:List ByteArray) (k:ByteArray):rdOf ByteArray.empty (ks ++ [k]) ((ks.length:Nat):Int)=k:=by
 unfold rdOf
 rw [Int.toNat_natCast,List.getD_eq_getElem?_getD,List.getElem?_append_right (Nat.le_refl _),Nat.sub_self]
 rfl
theorem sa.kOk.snoc {ks:List ByteArray} {k:ByteArray} (h:sa.kOk ks) (hk:k.size≤32) (hl:0 < ks.length→Op.bytesLess (rdOf ByteArray.empty ks ((ks.length:Int) - 1)).toList k.toList=true):sa.kOk (ks ++ [k]):=by
 refine ⟨fun s hs => ?_,fun i hi => ?_⟩
 ·rcases List.mem_append.1 hs with hs | hs
  ·exact h.1 s hs
  ·rw [List.mem_singleton.1 hs];exact hk
 ·rw [List.length_append,List.length_singleton] at hi
  rw [sa.rdOf_lt ks k i (by omega)]
  by_cases he:i+1 < ks.length
  ·rw [sa.rdOf_lt ks k (i+1) he]
   exact h.2 i he
  ·have e:i+1=ks.length:=by omega
   rw [e,sa.rdOf_end]
   have:=hl (by omega)
   rw [← e,show ((i+1:Nat):Int) - 1=(i:Int) by omega] at this
   exact this
theorem sa.keyS_ok {bs:List Int} {u i:Int→Int × Int × Int} (hU:sa.Uin bs u i) {ks:List ByteArray} {a l a2 l2:Int} {k:ByteArray} (h:sa.keyS bs u ks a l=.ok k a2 l2):k.size≤32∧(0 < ks.length→Op.bytesLess (rdOf ByteArray.empty ks ((ks.length:Int) - 1)).toList k.toList=true):=by
 unfold sa.keyS at h
 by_cases h1:(u a).2.2 ≠ 0
 ·rw [if_pos h1] at h;cases h
 rw [if_neg h1] at h
 by_cases h2:(u a).1 > 32
 ·rw [if_pos h2] at h;cases h
 rw [if_neg h2] at h
 by_cases h3:(u a).1 > (bs.length:Int) - (u a).2.1
 ·rw [if_pos h3] at h;cases h
 rw [if_neg h3] at h
 dsimp only at h
 split at h
 ·cases h
 next hq =>
  split at h
  ·cases h
  ·injection h with e1 e2 e3
   subst e1
   refine ⟨?_,fun hp=>Classical.byContradiction fun hn=>hq ⟨hp,hn⟩⟩
   rw [sa.qB3,List.length_take]
   have:=(hU.R a).1
   omega
theorem sa.recL_ok {bs:List Int} {u i:Int→Int × Int × Int} (hU:sa.Uin bs u i) {p:S34→Prop} {f:Int→Int→sa.R3 S34} (hf:∀ (a l:Int) (x:S34) (a2 l2:Int),f a l=.ok x a2 l2→p x):∀ (k:Nat) (ks:List ByteArray) (acc:List S34) (a l:Int) (vs:List ByteArray × List S34) (a2 l2:Int),(∀ y ∈ acc,p y)→sa.kOk ks→ks.length=acc.length→sa.recL bs u f k ks acc a l=.ok vs a2 l2→(∀ y ∈ vs.2,p y)∧sa.kOk vs.1∧vs.1.length=vs.2.length
 | 0,ks,acc,a,l,vs,a2,l2,hp,hk,hl,h=>by
  unfold sa.recL at h
  injection h with e1 _ _
  subst e1;exact ⟨hp,hk,hl⟩
 | k+1,ks,acc,a,l,vs,a2,l2,hp,hk,hl,h=>by
  unfold sa.recL at h
  rcases hka:sa.keyS bs u ks a l with ⟨kk,a1,l1⟩ | ⟨e,q⟩
  ·rw [hka] at h
   have hks:=sa.keyS_ok hU hka
   dsimp only at h
   rcases hfa:f a1 l1 with ⟨x,a3,l3⟩ | ⟨e,q⟩
   ·rw [hfa] at h
    refine sa.recL_ok hU hf k (ks ++ [kk]) (acc ++ [x]) a3 l3 vs a2 l2 (fun y hy => ?_) (hk.snoc hks.1 hks.2) (by rw [List.length_append,List.length_append,hl];rfl) h
    rcases List.mem_append.1 hy with hy | hy
    ·exact hp y hy
    ·rw [List.mem_singleton.1 hy];exact hf a1 l1 x a3 l3 hfa
   ·rw [hfa] at h;cases h
  ·rw [hka] at h;cases h
theorem sa.kOk_nil:sa.kOk []:=by
 constructor
 ·intro s hs;cases hs
 ·intro i hi;exact absurd hi (by simp)
theorem sa.e_nil:(⟨#[]⟩:ByteArray).toList=[]:=by
 first | rfl | (unfold ByteArray.toList;unfold ByteArray.toList.loop;rfl) | simp
theorem sa.valS_ok {bs:List Int} {u i:Int→Int × Int × Int} (hU:sa.Uin bs u i):∀ (d:Nat) (a l:Int) (x:S34) (a2 l2:Int),sa.valS bs u i d a l=.ok x a2 l2→sa.okV d x
 | 0,a,l,x,a2,l2,h=>by
  rw [sa.valS] at h
  split at h <;> cases h
 | d+1,a,l,x,a2,l2,h=>by
  rw [sa.valS_s] at h
  have leaf:∀ {f0 f1:Int} {f2:ByteArray} {b m:Int},qAg.b f0 f1 f2 0 0=true→f0 ≠ 5→sa.R3.ok (⟨f0,f1,f2,[],[]⟩:S34) b m=.ok x a2 l2→sa.okV (d+1) x:=fun q0 q5 h=>by
   injection h with e1 _ _
   subst e1
   exact sa.okV.mk q0 (fun e=>absurd e q5) (fun y hy=>by cases hy)
  have nb:∀ {e q:Int},sa.R3.bad e q=.ok x a2 l2→sa.okV (d+1) x:=fun h=>by cases h
  by_cases h0:a=(bs.length:Int) ∨ rd bs a > 6
  ·rw [if_pos h0] at h;exact nb h
  rw [if_neg h0] at h
  by_cases h1:1 > l
  ·rw [if_pos h1] at h;exact nb h
  rw [if_neg h1] at h
  by_cases k1:rd bs a=1
  ·rw [if_pos k1] at h;exact leaf (by simp [qAg.b,sa.e_nil,wrap64]) (by decide) h
  rw [if_neg k1] at h
  by_cases k2:rd bs a=2
  ·rw [if_pos k2] at h;exact leaf (by simp [qAg.b,sa.e_nil,wrap64]) (by decide) h
  rw [if_neg k2] at h
  by_cases k3:rd bs a=3
  ·rw [if_pos k3] at h
   by_cases e1:(i (a+1)).2.2 ≠ 0
   ·rw [if_pos e1] at h;exact nb h
   ·rw [if_neg e1] at h;exact leaf (by simp [qAg.b,sa.e_nil,wrap64]) (by decide) h
  rw [if_neg k3] at h
  by_cases k4:rd bs a=4
  ·rw [if_pos k4] at h
   by_cases e1:(u (a+1)).2.2 ≠ 0
   ·rw [if_pos e1] at h;exact nb h
   rw [if_neg e1] at h
   by_cases e2:(l - 1) / 1 < (u (a+1)).1
   ·rw [if_pos e2] at h;exact nb h
   rw [if_neg e2] at h
   by_cases e3:(bs.length:Int) - (u (a+1)).2.1 < (u (a+1)).1
   ·rw [if_pos e3] at h;exact nb h
   ·rw [if_neg e3] at h;exact leaf (by simp [qAg.b,sa.e_nil,wrap64]) (by decide) h
  rw [if_neg k4] at h
  by_cases k5:rd bs a=5
  ·rw [if_pos k5] at h
   by_cases e1:(u (a+1)).2.2 ≠ 0
   ·rw [if_pos e1] at h;exact nb h
   rw [if_neg e1] at h
   by_cases e2:(l - 1) / 1 < (u (a+1)).1
   ·rw [if_pos e2] at h;exact nb h
   rw [if_neg e2] at h
   rcases hL:sa.arrL (sa.valS bs u i d) (u (a+1)).1.toNat [] (u (a+1)).2.1 (l - 1) with ⟨vs,a3,l3⟩ | ⟨e,p⟩
   ·rw [hL] at h
    have hp:=sa.arrL_all (p:=sa.okV d) (sa.valS_ok hU d) _ _ _ _ _ _ _ (fun y hy=>by cases hy) hL
    injection h with e1 _ _
    subst e1
    exact sa.okV.mk (by simp [qAg.b,sa.e_nil,wrap64]) (fun e=>absurd e (by decide)) hp
   ·rw [hL] at h;exact nb h
  rw [if_neg k5] at h
  by_cases k6:rd bs a=6
  ·rw [if_pos k6] at h
   by_cases e1:(u (a+1)).2.2 ≠ 0
   ·rw [if_pos e1] at h;exact nb h
   rw [if_neg e1] at h
   by_cases e2:(l - 1) / 2 < (u (a+1)).1
   ·rw [if_pos e2] at h;exact nb h
   rw [if_neg e2] at h
   rcases hL:sa.recL bs u (sa.valS bs u i d) (u (a+1)).1.toNat [] [] (u (a+1)).2.1 (l - 1) with ⟨⟨ks,vs⟩,a3,l3⟩ | ⟨e,p⟩
   ·rw [hL] at h
    have hp:=sa.recL_ok hU (p:=sa.okV d) (sa.valS_ok hU d) _ _ _ _ _ _ _ _ (fun y hy=>by cases hy) sa.kOk_nil rfl hL
    injection h with e1 _ _
    subst e1
    refine sa.okV.mk ?_ (fun _=>hp.2.1) hp.1
    have:ks.length=vs.length:=hp.2.2
    simp [qAg.b,this,sa.e_nil]
   ·rw [hL] at h;exact nb h
  rw [if_neg k6] at h
  exact leaf (by simp [qAg.b,sa.e_nil,wrap64]) (by decide) h
end
end Go.Proofs.Ytdommiicjpjfpaa.X
namespace Go.Proofs.Ytdommiicjpjfpaa.X
open Go.RowKit Go.Proofs.YtdommiicjpjfpaaW.PrintWords Go.Proofs.YtdommiicjpjfpaaW.PrintLast Go.Proofs.YtdommiicjpjfpaaW.PrintMore Go.Proofs.YtdommiicjpjfpaaW
section
set_option maxRecDepth 100000
theorem sa.mx_b {D a:Int} (h0:0≤D) (h1:D≤8) (h2:a≤8):0≤mx D a∧mx D a≤8:=by
 rw [mx_eq];split <;> omega
theorem sa.meas_l {d:Nat} (ih:∀ x:S34,sa.okV d x→∀ ar D W:Int,0≤ar→ar+d≤8→0≤D→D≤8→0≤W→W+(wt x:Int)≤2048→∃ D',0≤D'∧D'≤8∧Ev (fun k=>qAK.w k x.f0 x.f1 x.f2 x.f3 x.f4 ar D W) (true,D',W+(wt x:Int)))
  (f0 f1:Int) (f2:ByteArray) (f3:List S34) (f4:List ByteArray) (hl:f3.length≤9223372036854775000) (h45:f0=5→f4.length=f3.length) (hk:f0=5→sa.kOk f4) (hs:∀ y ∈ f3,sa.okV d y) (ar:Int) (ha:0≤ar) (hb:ar+1+d≤8) :
  ∀ (rem i:Nat),i+rem=f3.length→∀ D W:Int,0≤D→D≤8→0≤W→W+(qBq f0 f3 f4 i:Int)≤2048→∃ D',0≤D'∧D'≤8∧Ev (fun k=>qAK.l k f0 f1 f2 f3 f4 ar D W (i:Int)) (true,D',W+(qBq f0 f3 f4 i:Int)):=by
 intro rem
 induction rem with
 | zero =>
  intro i hi D W h0 h1 h2 h3
  have c:¬ ((i:Int) < (f3.length:Int)):=by omega
  have hz:=wrest_end f0 f3 f4 i (by omega) h45
  rw [hz] at h3 ⊢
  refine ⟨D,h0,h1,Ev.step Ev.const (fun k => ?_)⟩
  rw [qAK.l,if_neg c,decide_eq_true (by omega)]
  simp
 | succ rem ihr =>
  intro i hi D W h0 h1 h2 h3
  have c:(i:Int) < (f3.length:Int):=by omega
  have p:(0:Int)≤(i:Int):=by omega
  have ei:wrap64 ((i:Int)+1)=((i+1:Nat):Int):=by rw [X.w64 _ (by omega) (by omega)];omega
  have ea:wrap64 (ar+1)=ar+1:=X.w64 _ (by omega) (by omega)
  have hrs:=wrest_succ f0 f3 f4 i (by omega) h45
  have hmem:qAV f3 (i:Int) ∈ f3:=by
   have hl:i < f3.length:=by omega
   unfold qAV
   rw [show ((i:Int)).toNat=i from by omega,List.getD_eq_getElem?_getD,List.getElem?_eq_getElem hl]
   exact List.getElem_mem hl
  have hox:=hs _ hmem
  generalize hx:qAV f3 (i:Int)=x at hrs hox
  have child:∀ V:Int,0≤V→V+(wt x:Int)+(qBq f0 f3 f4 (i+1):Int)≤2048→∃ D',0≤D'∧D'≤8∧Ev (fun k=>(qAK.w k x.f0 x.f1 x.f2 x.f3 x.f4 (ar+1) D V).bind fun r=>if r.1=true then qAK.l k f0 f1 f2 f3 f4 ar r.2.1 r.2.2 ((i+1:Nat):Int) else some (false,r.2.1,r.2.2)) (true,D',V+(wt x:Int)+(qBq f0 f3 f4 (i+1):Int)):=by
   intro V hV0 hV
   obtain ⟨D1,d0,d1,m1⟩:=ih x hox (ar+1) D V (by omega) (by omega) h0 h1 hV0 (by omega)
   obtain ⟨D2,e0,e1,m2⟩:=ihr (i+1) (by omega) D1 (V+(wt x:Int)) d0 d1 (by omega) hV
   exact ⟨D2,e0,e1,Ev.bind m1 (by simpa using m2)⟩
  by_cases k5:f0=5
  ·rw [if_pos k5] at hrs
   have q4:(i:Int) < (f4.length:Int):=by have:=h45 k5;omega
   have hko:=hk k5
   have hki:rdOf ByteArray.empty f4 (i:Int) ∈ f4:=by
    have hl:i < f4.length:=by omega
    unfold rdOf
    rw [show ((i:Int)).toNat=i from by omega,List.getD_eq_getElem?_getD,List.getElem?_eq_getElem hl]
    exact List.getElem_mem hl
   have hsz:=hko.1 _ hki
   have g1:¬ 32 < ((rdOf ByteArray.empty f4 (i:Int)).size:Int):=by omega
   have g2:¬ (0 < (i:Int)∧(Op.bytesLess ((rdOf ByteArray.empty f4 ((i:Int) - 1)).toList) ((rdOf ByteArray.empty f4 (i:Int)).toList))=false):=by
    rintro ⟨q1,q2⟩
    have:=hko.2 (i - 1) (by omega)
    rw [show i - 1+1=i by omega,show ((i - 1:Nat):Int)=(i:Int) - 1 by omega] at this
    rw [this] at q2
    cases q2
   have et:wrap64 (W+wrap64 (1+((rdOf ByteArray.empty f4 (i:Int)).size:Int)))=W+1+((rdOf ByteArray.empty f4 (i:Int)).size:Int):=by
    rw [X.w64 (1+((rdOf ByteArray.empty f4 (i:Int)).size:Int)) (by omega) (by omega),X.w64 _ (by omega) (by omega)]
    omega
   obtain ⟨D',e0,e1,m⟩:=child (W+1+((rdOf ByteArray.empty f4 (i:Int)).size:Int)) (by omega) (by omega)
   refine ⟨D',e0,e1, ?_⟩
   rw [show W+(qBq f0 f3 f4 i:Int)=W+1+((rdOf ByteArray.empty f4 (i:Int)).size:Int)+(wt x:Int)+(qBq f0 f3 f4 (i+1):Int) by omega]
   exact Ev.step m (fun k=>by rw [qAK.l,if_pos c,if_pos p,if_pos k5,if_pos q4,if_neg g1,if_neg g2,hx,ea,et,ei])
  ·rw [if_neg k5] at hrs
   obtain ⟨D',e0,e1,m⟩:=child W h2 (by omega)
   refine ⟨D',e0,e1, ?_⟩
   rw [show W+(qBq f0 f3 f4 i:Int)=W+(wt x:Int)+(qBq f0 f3 f4 (i+1):Int) by omega]
   exact Ev.step m (fun k=>by rw [qAK.l,if_pos c,if_pos p,if_neg k5,hx,ea,ei])
theorem sa.len_wt:∀ l:List S34,l.length≤(l.map wt).sum
 | []=>Nat.zero_le _
 | a :: l=>by
  have h1:1≤wt a:=by rw [wt_eq];omega
  have:=sa.len_wt l
  simp only [List.length_cons,List.map_cons,List.sum_cons]
  omega
theorem sa.len_ks:∀ l:List ByteArray,l.length≤(l.map fun s=>1+s.size).sum
 | []=>Nat.zero_le _
 | a :: l=>by
  have:=sa.len_ks l
  simp only [List.length_cons,List.map_cons,List.sum_cons]
  omega
theorem sa.meas_ok:∀ (d:Nat) (x:S34),sa.okV d x→∀ ar D W:Int,0≤ar→ar+d≤8→0≤D→D≤8→0≤W→W+(wt x:Int)≤2048→∃ D',0≤D'∧D'≤8∧Ev (fun k=>qAK.w k x.f0 x.f1 x.f2 x.f3 x.f4 ar D W) (true,D',W+(wt x:Int))
 | 0,x,h=>h.elim
 | d+1,x,h=>by
  intro ar D W h0 h1 h2 h3 h4 h5
  obtain ⟨hf,hk,hs⟩:=h
  have e0:=wt_eq x
  have l3:=sa.len_wt x.f3
  have l4:=sa.len_ks x.f4
  have hlen:=form_len (by omega) (by omega) hf
  have hkeys:((x.f4.map fun s=>1+s.size).sum:Nat)=if x.f0=5 then ((x.f4.drop 0).map fun s=>1+s.size).sum else 0:=by
   split
   ·simp
   ·rename_i k5
    have h40:x.f4=[]:=by
     rcases qBu (by omega) (by omega) hf with z | z | z | z | z | z
     all_goals first | exact List.eq_nil_of_length_eq_zero z.2.2.2.2 | exact List.eq_nil_of_length_eq_zero z.2.2.2 | exact absurd z.1 k5
    rw [h40];rfl
  have e1:(wt x:Int)=1+(x.f2.size:Int)+(qBq x.f0 x.f3 x.f4 0:Int):=by
   rw [e0,hkeys]
   unfold qBq
   simp only [List.drop_zero]
   omega
  have ea:wrap64 (ar+1)=ar+1:=X.w64 _ (by omega) (by omega)
  have em:mn (x.f2.size:Int) 2048=(x.f2.size:Int):=by rw [mn_eq,if_neg (by omega)]
  have ew:wrap64 (W+wrap64 (1+mn (x.f2.size:Int) 2048))=W+1+(x.f2.size:Int):=by
   rw [em,X.w64 (1+(x.f2.size:Int)) (by omega) (by omega),X.w64 _ (by omega) (by omega)];omega
  have hm:=sa.mx_b (a:=ar+1) h2 h3 (by omega)
  obtain ⟨D',d0,d1,hl⟩:=sa.meas_l (sa.meas_ok d) x.f0 x.f1 x.f2 x.f3 x.f4 (by omega) hlen.1 hk hs ar h0 (by omega) x.f3.length 0 (by omega) (mx D (ar+1)) (W+1+(x.f2.size:Int)) hm.1 hm.2 (by omega) (by omega)
  refine ⟨D',d0,d1, ?_⟩
  rw [show W+(wt x:Int)=W+1+(x.f2.size:Int)+(qBq x.f0 x.f3 x.f4 0:Int) by omega]
  refine Ev.step hl (fun k => ?_)
  rw [qAK.w,ea,ew,if_neg (by omega),if_neg (by omega),qAg.f,hf]
  rfl
end
end Go.Proofs.Ytdommiicjpjfpaa.X
