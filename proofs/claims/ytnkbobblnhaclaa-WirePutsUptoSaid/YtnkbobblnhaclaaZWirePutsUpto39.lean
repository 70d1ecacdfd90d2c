import Derived.WalkLawsBesides
import Derived.Laws.Pointers
import Derived.Shelf.Abstract
import Derived.Deep.DeepMust
import Derived.Deep.QuietTactic
import Derived.BigQuiet
import Derived.ArgAppend
import Derived.Test.YtnkbobblnhaclaaZWirePutsUpto3
import Derived.Test.YtnkbobblnhaclaaZWirePutsUpto2
import Derived.Test.YtnkbobblnhaclaaZWirePutsUpto38
import Derived.Test.YtnkbobblnhaclaaZWirePutsUpto21
import Derived.Laws.Rows
import Derived.Test.YtnkbobblnhaclaaZWirePutsUpto37
import Derived.Test.YtnkbobblnhaclaaZWirePutsUpto22
import Derived.Test.YtnkbobblnhaclaaZWirePutsUpto24
import Derived.ChangeArms
import Derived.Test.YtnkbobblnhaclaaZWirePutsUpto25
import Derived.Test.YtnkbobblnhaclaaZWirePutsUpto33
import Derived.Test.YtnkbobblnhaclaaZWirePutsUpto32
import Derived.Test.YtnkbobblnhaclaaZWirePutsUpto34
set_option linter.unusedVariables false
set_option linter.unusedSimpArgs false
namespace Go.Proofs.Ytnkbobblnhaclaa.X
open Go.RowKit Go.Proofs.YtnkbobblnhaclaaW.PrintWords Go.Proofs.YtnkbobblnhaclaaW.PrintLast Go.Proofs.YtnkbobblnhaclaaW.PrintMore Go.Proofs.YtnkbobblnhaclaaW
section
set_option maxHeartbeats 4000000
set_option maxRecDepth 100000
section
variable {Y:Nat→Prop} {mark:ByteArray} {w W W1:World} {b n:Nat} {cs cs':Array Value} {O:Obj}
theorem wt.SimW.app25 (hS:wt.SimW Y mark w W) (hZ:Y b ∨ w.heap.size≤b) (hYl:∀ k,Y k→k < w.heap.size) (hb:W.heap[b]?=some (.cells cs 25 (0,0))) (h1:W1.heap[b]?=some (.cells cs' 25 (0,0))) (hsz:cs'.size=cs.size) (hn:wt.grp cs' (n * 5) (.int .i64 3) (.int .i64 0) (.string mark) (.slice none 0 0) (.slice none 0 0)) (hrest:∀ q,q < n * 5 ∨ n * 5+5≤q→cs'[q]?=cs[q]?) (hg:(W.alloc O).grownBy W1 (some b)):wt.SimW Y mark w W1:=by
 have hS2:wt.SimW Y mark w (W.alloc O):=hS.trans (wt.SimW.of_below ((Below.refl _ _).alloc (Nat.le_refl _) _))
 rcases hZ with hy | hge
 ·exact hS2.storeG hy (hYl b hy) (blk_alloc hb O) hg h1 hsz hn hrest
 ·exact hS2.grown hg (fun k e=>by rw [← Option.some.inj e];exact hge)
theorem wt.SimW.app9 (hS:wt.SimW Y mark w W) (hZ:Y b ∨ w.heap.size≤b) (hYl:∀ k,Y k→k < w.heap.size) (hb:W.heap[b]?=some (.cells cs 9 (0,0))) (h1:W1.heap[b]?=some (.cells cs' 9 (0,0))) (hsz:cs'.size=cs.size) (hn:cs'[n]?=some (.string mark)) (hrest:∀ q,q < n ∨ n+1≤q→cs'[q]?=cs[q]?) (hg:(W.alloc O).grownBy W1 (some b)):wt.SimW Y mark w W1:=by
 have hS2:wt.SimW Y mark w (W.alloc O):=hS.trans (wt.SimW.of_below ((Below.refl _ _).alloc (Nat.le_refl _) _))
 rcases hZ with hy | hge
 ·have hne:∀ i,i < w.heap.size→i ≠ b→W1.heap[i]?=(W.alloc O).heap[i]?:=fun i hi hib=>hg.block i (Nat.lt_of_lt_of_le hi hS2.size) (fun e=>hib (Option.some.inj e))
  refine ⟨hg.os.trans hS2.os,hg.tape.trans hS2.tape,hg.output.trans hS2.output,Nat.le_trans hS2.size hg.size,fun i hi hi2=>(hne i hi (fun e=>hi2 (e▸hy))).trans (hS2.out i hi hi2),fun i hi c0 t hc => ?_⟩
  obtain ⟨c1,e1,e2,e3⟩:=hS2.ins i hi c0 t hc
  by_cases hib:i=b
  ·subst hib
   rw [blk_alloc hb O] at e1
   injection e1 with e1
   injection e1 with e1 et
   subst e1;subst et
   refine ⟨cs',h1,hsz.trans e2,e3.trans ⟨fun h25=>absurd h25 (by decide),fun _ q => ?_⟩⟩
   by_cases hq:q=n
   ·subst hq;exact Or.inr hn
   ·exact Or.inl (hrest q (by omega))
  ·exact ⟨c1,(hne i (blk_lt hc) hib).trans e1,e2,e3⟩
 ·exact hS2.grown hg (fun k e=>by rw [← Option.some.inj e];exact hge)
theorem wt.Row.keep {t t' size:Nat} {Z:Nat→Prop} {v:Value} (h:wt.Row W t size Z v n) (hg:(W.alloc O).grownBy W1 (some b)) (hb:W.heap[b]?=some (.cells cs t' (0,0))) (ht:t ≠ t'):wt.Row W1 t size Z v n:=by
 rcases h with ⟨rfl,rfl⟩ | ⟨b',c,cs',rfl,hZ,hh,hle,hcs⟩
 ·exact Or.inl ⟨rfl,rfl⟩
 ·refine Or.inr ⟨b',c,cs',rfl,hZ,(hg.block b' (by rw [Deep.nblk_alloc];have:=blk_lt hh;omega) (fun e => ?_)).trans (blk_alloc hh O),hle,hcs⟩
  have e2:=Option.some.inj e
  subst e2
  rw [hb] at hh
  injection hh with hh
  injection hh with _ hh
  exact ht hh.symm
theorem wt.Row.keepN {t size:Nat} {Z:Nat→Prop} {v:Value} (h:wt.Row W t size Z v n) (hg:(W.alloc O).grownBy W1 none):wt.Row W1 t size Z v n:=by
 rcases h with ⟨rfl,rfl⟩ | ⟨b',c,cs',rfl,hZ,hh,hle,hcs⟩
 ·exact Or.inl ⟨rfl,rfl⟩
 ·exact Or.inr ⟨b',c,cs',rfl,hZ,(hg.block b' (by rw [Deep.nblk_alloc];have:=blk_lt hh;omega) (by simp)).trans (blk_alloc hh O),hle,hcs⟩
end
section
variable {ops:Array Oper} {rest:List Oper} {Q:Exit→Act→World→Prop} {Y:Nat→Prop} {mark:ByteArray} {w W:World} {o:Oper} {a:Act} {v v2:Value} {n m:Nat}
theorem wt.app25 (hgd:o.guard=none) (s x:Operand) (hop:o.op=Op.call { callee:=Callee.builtin Builtin.append,args:=#[s,x],argTypes:=#[22,22] }) (hs:a.eval s=v) (hx:a.eval x=.slice (some ⟨W.heap.size,0,none⟩) 1 1) (hYl:∀ k,Y k→k < w.heap.size) (hS:wt.SimW Y mark w W) (hr:wt.Row W 25 5 (fun k=>Y k ∨ w.heap.size≤k) v n) (hk:wt.Row W 9 1 (fun k=>Y k ∨ w.heap.size≤k) v2 m) (hb:n≤1759218604430)
  (h:∀ v1 W1,wt.SimW Y mark w W1→wt.Row W1 25 5 (fun k=>Y k ∨ w.heap.size≤k) v1 (n+1)→wt.Row W1 9 1 (fun k=>Y k ∨ w.heap.size≤k) v2 m→wpList Try.prog ops Q rest (a.put o.dst v1) W1) :
  wpList Try.prog ops Q (o :: rest) a (W.alloc (.cells [Value.int .i64 3,.int .i64 0,.string mark,.slice none 0 0,.slice none 0 0].toArray 25)):=by
 have hsz:w.heap.size≤W.heap.size:=hS.size
 refine wt.row_append (w0:=w) hgd s x 22 25 hop 5 80 (.agg #[(.int .i64 0),(.int .i64 0),(.string ⟨#[]⟩),(.slice none 0 0),(.slice none 0 0)]) Try.underlying22 info25 rfl (by decide) hs _ hx rfl (fun u hu=>by simp at hu;rcases hu with rfl | rfl | rfl | rfl <;> rfl) hr (by omega) (by omega) ?_ ?_
 ·intro b c cs hv hZ hh hfit hc hcs W1 cs' q1 q2 q3 q4 q5
  exact h _ _ (hS.app25 (n:=n) hZ hYl hh q1 q2 ⟨q3 0 (by omega),q3 1 (by omega),q3 2 (by omega),q3 3 (by omega),q3 4 (by omega)⟩ q4 q5) (Or.inr ⟨b,c,cs',rfl,hZ,q1,hc,by omega⟩) (hk.keep q5 hh (by decide))
 ·intro b c cs W1 q1 q2 q3 q4 q5
  exact h _ _ ((hS.trans (wt.SimW.of_below ((Below.refl _ _).alloc (Nat.le_refl _) _))).grown q5 (fun k e=>by cases e)) (Or.inr ⟨b,c,cs,rfl,Or.inr (by omega),q1,q3,q4⟩) (hk.keepN q5)
theorem wt.app9 (hgd:o.guard=none) (s x:Operand) (hop:o.op=Op.call { callee:=Callee.builtin Builtin.append,args:=#[s,x],argTypes:=#[23,23] }) (hs:a.eval s=v) (hx:a.eval x=.slice (some ⟨W.heap.size,0,none⟩) 1 1) (hYl:∀ k,Y k→k < w.heap.size) (hS:wt.SimW Y mark w W) (hr:wt.Row W 9 1 (fun k=>Y k ∨ w.heap.size≤k) v n) (hk:wt.Row W 25 5 (fun k=>Y k ∨ w.heap.size≤k) v2 m) (hb:n≤8796093022100)
  (h:∀ v1 W1,wt.SimW Y mark w W1→wt.Row W1 9 1 (fun k=>Y k ∨ w.heap.size≤k) v1 (n+1)→wt.Row W1 25 5 (fun k=>Y k ∨ w.heap.size≤k) v2 m→wpList Try.prog ops Q rest (a.put o.dst v1) W1) :
  wpList Try.prog ops Q (o :: rest) a (W.alloc (.cells [Value.string mark].toArray 9)):=by
 have hsz:w.heap.size≤W.heap.size:=hS.size
 refine wt.row_append (w0:=w) hgd s x 23 9 hop 1 16 (.string ⟨#[]⟩) Try.underlying23 info9 rfl (by decide) hs _ hx rfl (fun u hu=>by simp at hu;subst hu;rfl) hr (by omega) (by omega) ?_ ?_
 ·intro b c cs hv hZ hh hfit hc hcs W1 cs' q1 q2 q3 q4 q5
  rw [Nat.mul_one] at q3 q4
  exact h _ _ (hS.app9 (n:=n) hZ hYl hh q1 q2 (q3 0 (by omega)) q4 q5) (Or.inr ⟨b,c,cs',rfl,hZ,q1,hc,by omega⟩) (hk.keep q5 hh (by decide))
 ·intro b c cs W1 q1 q2 q3 q4 q5
  exact h _ _ ((hS.trans (wt.SimW.of_below ((Below.refl _ _).alloc (Nat.le_refl _) _))).grown q5 (fun k e=>by cases e)) (Or.inr ⟨b,c,cs,rfl,Or.inr (by omega),q1,q3,q4⟩) (hk.keepN q5)
end
theorem wt.KRow.elem {w:World} {Y:Nat→Prop} {n c:Nat} {A:Option Addr} {ks:List ByteArray} (h:wt.KRow w Y (.slice A n c) ks) {j:Nat} (hj:j < n) (hn:ks.length=n):∃ b cs k,A=some ⟨b,0,none⟩∧Y b∧w.heap[b]?=some (.cells cs 9 (0,0))∧cs[j]?=some (.string k):=by
 rcases h with ⟨_,rfl⟩ | ⟨b,c',cs,e,hy,hh,hl,hsz,hm,hc⟩
 ·simp at hn;omega
 ·injection e with e1 e2 e3
  exact ⟨b,cs,_,e1,hy,hh,hc j _ (List.getElem?_eq_getElem (by omega))⟩
theorem wt.wipe1 {Y:Nat→Prop} {mark:ByteArray} {B:Nat} (hBB:B≤1759218604390):∀ (d:Nat) (x:S25) (v3 v4:Value) (w:World),(∀ k,Y k→k < w.heap.size)→wt.VRow w Y d v3 x.f3→wt.KRow w Y v4 x.f4→wt.szL B d x.f3→x.f4.length≤5 * B+2 →
  Calls Try.prog 36 #[.agg #[.int .i64 x.f0,.int .i64 x.f1,.string x.f2,v3,v4],.string mark] w fun e w'=>e=.returned (.tuple #[])∧wt.SimW Y mark w w':=by
 intro d
 induction d with
 | zero=>intro x v3 v4 w hY h;exact h.elim
 | succ d ih =>
 rintro ⟨f0,f1,f2,f3,f4⟩ v3 v4 w hY hV hK hS hk
 obtain ⟨A4,c4,e4,l4,g4⟩:=hK.C
 obtain ⟨A3,c3,e3,l3,g3⟩:=wt.VRow.C (d+1) hV
 subst e3;subst e4
 dsimp only at *
 have hu25:=Try.underlying25
 have HV:=Aside0.mk hV
 have HK:=Aside0.mk hK
 have HY:=Aside0.mk hY
 have HSZ:=Aside0.mk hS
 obtain ⟨n,hn⟩:∃ n,f3.length=n:=⟨_,rfl⟩
 obtain ⟨m,hm⟩:∃ m,f4.length=m:=⟨_,rfl⟩
 have HNB:=Aside0.mk (show n≤1759218604390∧m≤8796093021952 from ⟨by have:=hS.1;omega,by omega⟩)
 have HN:=Aside0.mk hn
 have HM4:=Aside0.mk hm
 rw [hn] at HV ⊢
 rw [hm] at HK ⊢
 clear hY hV hK g3 g4 l3 l4 hS hk hn hm
 go_enter Try.func36,Try.ntmps36
 go_wp2_with (first | ((with_reducible refine gate_dst (N:=2) rfl ?_);refine box_event ?hg (N:=2) ?hd (cs:=#[.int .i64 f0,.int .i64 f1,.string f2,.slice A3 n c3,.slice A4 m c4]) (t:=25) ?hr ?_;(case hd=>rfl);(case hg=>rfl);(case hr=>first | (go_simp;done) | (go_simp;rfl));intro pb hpb w1 hbox hb1;have HB1:=Aside0.mk hbox;have HS1:=Aside0.mk (wt.SimW.of_below (Y:=Y) (mark:=mark) hb1);have HPB:=Aside0.mk (Nat.le_of_eq hpb.symm);clear hbox hb1 hpb))
 have HNY:=Aside0.mk (show ¬ Y pb from fun y=>by have:=HY.out pb y;have:=HPB.out;omega)
 go_loopw [4] (fun v4 wr=>∃ j:Nat,v4=.int .i64 (j:Int)∧Aside0 (j≤n)∧Aside0 (wt.SimW Y mark w wr)∧Aside0 (wr.heap[pb]?=some (.cells #[.int .i64 f0,.int .i64 f1,.string f2,.slice A3 n c3,.slice A4 m c4] 25 (0,0)))) (fun v4 _=>n - (intOf v4).toNat)
 case atStart=>exact ⟨0,rfl,⟨Nat.zero_le _⟩,HS1,HB1⟩
 case round =>
  clear HS1 HB1
  obtain ⟨j,rfl,HJ0,HS,HB⟩:=hrel
  have hz3:wr.cell? ⟨pb,3,none⟩=some (.slice A3 n c3):=(blk_cell HB.out 3).trans rfl
  by_cases hlt:j < n
  ·have i1:decide ((j:Int) < (n:Int))=true:=decide_eq_true (by omega)
   have i2:decide (j < n)=true:=decide_eq_true hlt
   have i3:(j < n)=True:=eq_true hlt
   have HWR:=Aside0.mk (show wrap64 ((j:Int)+1)=(j:Int)+1 by have:=HNB.out;unfold wrap64;omega)
   have HM:=Aside0.mk (wt.meas j n hlt HWR.out)
   have HJ:=Aside0.mk (show j+1≤n by omega)
   have t3:(j:Int) < (n:Int):=by omega
   obtain ⟨xs,hxl,hxv,hxs⟩:=wt.VRow.simW (B:=B) HS.out (d+1) HV.out HSZ.out
   rw [HN.out] at hxl
   obtain ⟨b,cs,x,u3,u4,hA,hyb,hcs,hnc,hsz,hx,hgr,r3,r4⟩:=hxv.elem hlt hxl
   obtain ⟨ad,had⟩:∃ ad,ad=(⟨b,0,none⟩:Addr):=⟨_,rfl⟩
   rw [← had] at hA
   subst hA
   have hsx:=hxs.2 x (List.mem_of_getElem? hx)
   have IH:=Aside0.mk (ih x u3 u4 wr (fun k hk=>Nat.lt_of_lt_of_le (HY.out k hk) HS.out.size) r3 r4 hsx.1 hsx.2)
   obtain ⟨z0,z1,z2,z3,z4⟩:=wt.five.of hcs hgr had
   clear hxl hxv hxs had hyb hcs hnc hsz hx hgr r3 r4 hsx hlt
   go_wp2_with (first | (go_at_call 36;refine IH.out.mono ?_;rintro e_ w7 ⟨rfl,hs⟩;have HS7:=Aside0.mk (HS.out.trans hs);have HB7:=Aside0.mk ((hs.out pb (blk_lt HB.out) HNY.out).trans HB.out);clear hs))
   go_roundw
   case rel=>exact ⟨j+1,by rw [HWR.out];rfl,HJ,HS7,HB7⟩
   case measure=>exact HM.out
  ·have i1:decide ((j:Int) < (n:Int))=false:=decide_eq_false (by omega)
   have i2:decide (j < n)=false:=decide_eq_false hlt
   have i3:(j < n)=False:=eq_false hlt
   clear hlt
   go_wp2
   clear hz3
   go_loopw [5] (fun v5 wr=>∃ j:Nat,v5=.int .i64 (j:Int)∧Aside0 (j≤n)∧Aside0 (wt.SimW Y mark w wr)∧Aside0 (wr.heap[pb]?=some (.cells #[.int .i64 f0,.int .i64 f1,.string f2,.slice A3 n c3,.slice A4 m c4] 25 (0,0)))) (fun v5 _=>n - (intOf v5).toNat)
   case atStart=>exact ⟨0,rfl,⟨Nat.zero_le _⟩,HS,HB⟩
   case round =>
    clear HS HB HJ0 i1 i2 i3
    obtain ⟨j,rfl,HJ0,HS,HB⟩:=hrel
    have hz3:wr.cell? ⟨pb,3,none⟩=some (.slice A3 n c3):=(blk_cell HB.out 3).trans rfl
    by_cases hlt:j < n
    ·have i1:decide ((j:Int) < (n:Int))=true:=decide_eq_true (by omega)
     have i2:decide (j < n)=true:=decide_eq_true hlt
     have i3:(j < n)=True:=eq_true hlt
     have HWR:=Aside0.mk (show wrap64 ((j:Int)+1)=(j:Int)+1 by have:=HNB.out;unfold wrap64;omega)
     have HM:=Aside0.mk (wt.meas j n hlt HWR.out)
     have HJ:=Aside0.mk (show j+1≤n by omega)
     have t3:(j:Int) < (n:Int):=by omega
     obtain ⟨xs,hxl,hxv,hxs⟩:=wt.VRow.simW (B:=B) HS.out (d+1) HV.out HSZ.out
     rw [HN.out] at hxl
     obtain ⟨b,cs,x,u3,u4,hA,hyb,hcs,hnc,hsz,hx,hgr,r3,r4⟩:=hxv.elem hlt hxl
     obtain ⟨ad,had⟩:∃ ad,ad=(⟨b,0,none⟩:Addr):=⟨_,rfl⟩
     rw [← had] at hA
     subst hA
     have HAD:=Aside0.mk had
     have HYB:=Aside0.mk (And.intro hyb (HY.out b hyb))
     have HCS:=Aside0.mk hcs
     have HFT:=Aside0.mk (show j * 5+5≤cs.size by omega)
     obtain ⟨z0,z1,z2,z3,z4⟩:=wt.five.of hcs hgr had
     clear hxl hxv hxs had hyb hcs hnc hsz hx hgr r3 r4 hlt
     go_wp2_with (first | ((with_reducible refine gate_store (p:=36) rfl ?_);refine wt.st25L 25 rfl rfl 36 (.tmp 35) rfl (by kernel_rfl) b (j * 5) ?haddr (.int .i64 3) (.int .i64 0) (.string mark) (.slice none 0 0) (.slice none 0 0) rfl (fun q hq=>by simp at hq;rcases hq with rfl | rfl | rfl | rfl <;> rfl) cs 25 HFT.out HCS.out ?_;(case haddr=>show Value.pointer (some (ad.add (j * 5)))=_;rw [HAD.out,Addr.add_lit,Nat.zero_add]);intro w7 cs' q1 q2 q3 q4 q5;have HS7:=Aside0.mk (HS.out.storeG HYB.out.1 HYB.out.2 HCS.out q5 q1 q2 q3 q4);have HB7:=Aside0.mk ((q5.block pb (blk_lt HB.out) (fun e_=>HNY.out (Option.some.inj e_▸HYB.out.1))).trans HB.out);clear q1 q2 q3 q4 q5))
     go_roundw
     case rel=>exact ⟨j+1,by rw [HWR.out];rfl,HJ,HS7,HB7⟩
     case measure=>exact HM.out
    ·have i1:decide ((j:Int) < (n:Int))=false:=decide_eq_false (by omega)
     have i2:decide (j < n)=false:=decide_eq_false hlt
     have i3:(j < n)=False:=eq_false hlt
     clear hlt
     go_wp2
     clear hz3
     go_loopw [6] (fun v6 wr=>∃ j:Nat,v6=.int .i64 (j:Int)∧Aside0 (j≤m)∧Aside0 (wt.SimW Y mark w wr)∧Aside0 (wr.heap[pb]?=some (.cells #[.int .i64 f0,.int .i64 f1,.string f2,.slice A3 n c3,.slice A4 m c4] 25 (0,0)))) (fun v6 _=>m - (intOf v6).toNat)
     case atStart=>exact ⟨0,rfl,⟨Nat.zero_le _⟩,HS,HB⟩
     case round =>
      clear HS HB HJ0 i1 i2 i3
      obtain ⟨j,rfl,HJ0,HS,HB⟩:=hrel
      have hz4:wr.cell? ⟨pb,4,none⟩=some (.slice A4 m c4):=(blk_cell HB.out 4).trans rfl
      by_cases hlt:j < m
      ·have i1:decide ((j:Int) < (m:Int))=true:=decide_eq_true (by omega)
       have i2:decide (j < m)=true:=decide_eq_true hlt
       have i3:(j < m)=True:=eq_true hlt
       have HWR:=Aside0.mk (show wrap64 ((j:Int)+1)=(j:Int)+1 by have:=HNB.out;unfold wrap64;omega)
       have HM:=Aside0.mk (wt.meas j m hlt HWR.out)
       have HJ:=Aside0.mk (show j+1≤m by omega)
       have t3:(j:Int) < (m:Int):=by omega
       obtain ⟨ks,hkl,hkv⟩:=wt.KRow.simW HS.out HK.out
       rw [HM4.out] at hkl
       obtain ⟨b,cs,kk,hA,hyb,hcs,hcj⟩:=hkv.elem hlt hkl
       obtain ⟨ad,had⟩:∃ ad,ad=(⟨b,0,none⟩:Addr):=⟨_,rfl⟩
       rw [← had] at hA
       subst hA
       have hadj:ad.add j=⟨b,j,none⟩:=by rw [had,Addr.add_lit,Nat.zero_add]
       have HAD:=Aside0.mk hadj
       have HYB:=Aside0.mk (And.intro hyb (HY.out b hyb))
       have HCS:=Aside0.mk hcs
       have HCJ:=Aside0.mk (Array.getElem?_eq_some_iff.1 hcj).1
       have z0:wr.cell? (ad.add j)=some (.string kk):=by rw [hadj];exact wt.cell_of hcs hcj
       have zf:wr.frozen? (ad.add j)=false:=by rw [hadj];exact blk_frozen hcs j
       clear hkl hkv had hyb hcs hcj hadj hlt
       go_wp2
       go_roundw
       case rel=>exact ⟨j+1,by rw [HWR.out];rfl,HJ,⟨by rw [HAD.out];exact HS.out.setK HYB.out.1 HYB.out.2 HCS.out HCJ.out⟩,⟨by rw [HAD.out];exact (Below.heap_setCell wr ⟨b,j,none⟩ (.string mark) pb (show pb ≠ b from fun e_=>HNY.out (e_▸HYB.out.1))).trans HB.out⟩⟩
       case measure=>exact HM.out
      ·have i1:decide ((j:Int) < (m:Int))=false:=decide_eq_false (by omega)
       have i2:decide (j < m)=false:=decide_eq_false hlt
       have i3:(j < m)=False:=eq_false hlt
       clear hlt
       have hz3:wr.cell? ⟨pb,3,none⟩=some (.slice A3 n c3):=(blk_cell HB.out 3).trans rfl
       go_wp2
       clear hz3 hz4
       obtain ⟨xs,hxl,hxv,hxs⟩:=wt.VRow.simW (B:=B) HS.out (d+1) HV.out HSZ.out
       obtain ⟨ks,hkl,hkv⟩:=wt.KRow.simW HS.out HK.out
       rw [HN.out] at hxl
       rw [HM4.out] at hkl
       have R7:=hxv.row (Z:=fun k=>Y k ∨ w.heap.size≤k) (fun k hk=>Or.inl hk)
       have R8:=hkv.row (Z:=fun k=>Y k ∨ w.heap.size≤k) (fun k hk=>Or.inl hk)
       rw [hxl] at R7
       rw [hkl] at R8
       have R7:=Aside0.mk R7
       have R8:=Aside0.mk R8
       clear hxl hxv hxs hkl hkv
       go_loopw [9,7,8] (fun v9 v7 v8 wr=>∃ j:Nat,v9=.int .i64 (j:Int)∧Aside0 (j≤9)∧Aside0 (wt.SimW Y mark w wr)∧Aside0 (wt.Row wr 25 5 (fun k=>Y k ∨ w.heap.size≤k) v7 (n+j))∧Aside0 (wt.Row wr 9 1 (fun k=>Y k ∨ w.heap.size≤k) v8 (m+j))) (fun v9 _ _ _=>9 - (intOf v9).toNat)
       case atStart=>exact ⟨0,rfl,⟨by omega⟩,HS,R7,R8⟩
       case round =>
        clear HS HB HJ0 i1 i2 i3 R7 R8
        obtain ⟨j,rfl,HJ0,HS,R7,R8⟩:=hrel
        by_cases hlt:j < 9
        ·have i1:decide ((j:Int) < 9)=true:=decide_eq_true (by omega)
         have HWR:=Aside0.mk (show wrap64 ((j:Int)+1)=(j:Int)+1 by unfold wrap64;omega)
         have HM:=Aside0.mk (wt.meas j 9 hlt HWR.out)
         have HJ:=Aside0.mk (show j+1≤9 by omega)
         clear hlt
         go_wp2_with (first | ((with_reducible refine gate_dst (N:=61) rfl ?_);refine wt.app25 (mark:=mark) rfl (.tmp 57) (.tmp 60) rfl rfl rfl HY.out HS.out R7.out R8.out (by have:=HNB.out;have:=HJ.out;omega) ?_;intro u7 w7 q1 q2 q3;have HS7:=Aside0.mk q1;have R77:=Aside0.mk q2;have R87:=Aside0.mk q3;clear q1 q2 q3) | ((with_reducible refine gate_dst (N:=65) rfl ?_);refine wt.app9 (mark:=mark) rfl (.tmp 62) (.tmp 64) rfl rfl rfl HY.out HS7.out R87.out R77.out (by have:=HNB.out;have:=HJ.out;omega) ?_;intro u8 w8 q1 q2 q3;have HS8:=Aside0.mk q1;have R88:=Aside0.mk q2;have R78:=Aside0.mk q3;clear q1 q2 q3))
         go_roundw
         case rel=>exact ⟨j+1,by rw [HWR.out];rfl,HJ,HS8,R78,R88⟩
         case measure=>exact HM.out
        ·have i1:decide ((j:Int) < 9)=false:=decide_eq_false (by omega)
         clear hlt
         go_wp2
         go_end0
         exact ⟨rfl,HS.out⟩
end
end Go.Proofs.Ytnkbobblnhaclaa.X
namespace Go.Proofs.Ytnkbobblnhaclaa.X
open Go.RowKit Go.Proofs.YtnkbobblnhaclaaW.PrintWords Go.Proofs.YtnkbobblnhaclaaW.PrintLast Go.Proofs.YtnkbobblnhaclaaW.PrintMore Go.Proofs.YtnkbobblnhaclaaW
section
set_option maxHeartbeats 4000000
set_option maxRecDepth 100000
theorem wt.over1 {Y:Nat→Prop} {mark:ByteArray} {B d:Nat} (hBB:B≤1759218604390) (x:S25) (v3 v4:Value) (w:World) (hY:∀ k,Y k→k < w.heap.size) (hV:wt.VRow w Y d v3 x.f3) (hK:wt.KRow w Y v4 x.f4) (hS:wt.szL B d x.f3) (hk:x.f4.length≤5 * B+2) {kf:Nat} {fb:Bool} (hf:scruplelaw04_few.f kf x.f0 x.f1 x.f2 x.f3 x.f4=some fb) :
  Calls Try.prog 21 #[.agg #[.int .i64 x.f0,.int .i64 x.f1,.string x.f2,v3,v4],.string mark] w fun e w'=>e=.returned (.tuple #[])∧wt.SimW Y mark w w':=by
 obtain ⟨A4,c4,e4,l4,g4⟩:=hK.C
 obtain ⟨A3,c3,e3,l3,g3⟩:=wt.VRow.C d hV
 subst e3;subst e4
 have hu25:=Try.underlying25
 have HFEW:=Aside0.mk (fun (W:World) (hb:Below w.heap.size w W)=>scruplelaw04_few.calls kf x.f0 x.f1 x.f2 A3 c3 x.f3 A4 c4 x.f4 fb W (Kd.C_below g3 hb) l3 (Kd.C_below g4 hb) l4 hf)
 have HW:=Aside0.mk (fun (W:World) (hb:Below w.heap.size w W)=>wt.wipe1 (mark:=mark) hBB d x (.slice A3 x.f3.length c3) (.slice A4 x.f4.length c4) W (fun k hk=>Nat.lt_of_lt_of_le (hY k hk) hb.size) (wt.VRow.move (fun _ h=>h) (fun k _ hlt=>hb.block k hlt) d hV) (hK.move (fun _ h=>h) (fun k _ hlt=>hb.block k hlt)) hS hk)
 clear hY hV hK hS hk g3 g4 l3 l4 hf
 obtain ⟨x0,x1,x2,x3,x4⟩:=x
 dsimp only at *
 generalize x3.length=n at *
 generalize x4.length=m at *
 have BXW:=fun (pb:Nat) (W W1:World) (h:W.heap[pb]?=some (.cells #[.int .i64 x0,.int .i64 x1,.string x2,.slice A3 n c3,.slice A4 m c4] 25 (0,0))) (hb:Below W.heap.size W W1)=>blk_below h hb
 cases fb with
 | false =>
  go_enter Try.func21,Try.ntmps21
  go_wp2_with (first | ((with_reducible refine gate_dst (N:=2) rfl ?_);refine box_event ?hg (N:=2) ?hd (cs:=#[.int .i64 x0,.int .i64 x1,.string x2,.slice A3 n c3,.slice A4 m c4]) (t:=25) ?hr ?_;(case hd=>rfl);(case hg=>rfl);(case hr=>first | (go_simp;done) | (go_simp;rfl));intro pb hpb w1 hbox hb1;have HB1:=Aside0.mk hbox;have HL1:=Aside0.mk hb1;clear hbox hb1 hpb;have z0:=(blk_cell HB1.out 0).trans rfl;have z1:=(blk_cell HB1.out 1).trans rfl;have z2:=(blk_cell HB1.out 2).trans rfl;have z3:=(blk_cell HB1.out 3).trans rfl;have z4:=(blk_cell HB1.out 4).trans rfl) | (go_at_call 27;refine (HFEW.out _ HL1.out).mono ?_;rintro e_ w2 ⟨rfl,hb⟩;have HL2:=Aside0.mk (below_then HL1.out HL1.out.size hb);clear hb z0 z1 z2 z3 z4))
  go_end0
  exact ⟨rfl,wt.SimW.of_below HL2.out⟩
 | true =>
  go_enter Try.func21,Try.ntmps21
  go_wp2_with (first | ((with_reducible refine gate_dst (N:=2) rfl ?_);refine box_event ?hg (N:=2) ?hd (cs:=#[.int .i64 x0,.int .i64 x1,.string x2,.slice A3 n c3,.slice A4 m c4]) (t:=25) ?hr ?_;(case hd=>rfl);(case hg=>rfl);(case hr=>first | (go_simp;done) | (go_simp;rfl));intro pb hpb w1 hbox hb1;have HB1:=Aside0.mk hbox;have HL1:=Aside0.mk hb1;clear hbox hb1 hpb;have z0:=(blk_cell HB1.out 0).trans rfl;have z1:=(blk_cell HB1.out 1).trans rfl;have z2:=(blk_cell HB1.out 2).trans rfl;have z3:=(blk_cell HB1.out 3).trans rfl;have z4:=(blk_cell HB1.out 4).trans rfl) | (go_at_call 27;refine (HFEW.out _ HL1.out).mono ?_;rintro e_ w2 ⟨rfl,hb⟩;have HL2:=Aside0.mk (below_then HL1.out HL1.out.size hb);have HB2:=Aside0.mk (blk_below HB1.out hb);clear hb z0 z1 z2 z3 z4;have z0:=(blk_cell HB2.out 0).trans rfl;have z1:=(blk_cell HB2.out 1).trans rfl;have z2:=(blk_cell HB2.out 2).trans rfl;have z3:=(blk_cell HB2.out 3).trans rfl;have z4:=(blk_cell HB2.out 4).trans rfl) | (go_at_call 36;refine (HW.out _ HL2.out).mono ?_;rintro e_ w3 ⟨rfl,hs⟩;have HS3:=Aside0.mk hs;clear hs z0 z1 z2 z3 z4))
  go_end0
  exact ⟨rfl,(wt.SimW.of_below HL2.out).trans HS3.out⟩
theorem wt.over0 {Y:Nat→Prop} {mark:ByteArray} (x:S25) (A3:Option Addr) (c3:Nat) (A4:Option Addr) (c4:Nat) (w:World) (g3:k25.C w A3 x.f3.length x.f3) (l3:x.f3.length≤c3) (g4:Kd.string.C w A4 x.f4.length x.f4) (l4:x.f4.length≤c4) {kf:Nat} (hf:scruplelaw04_few.f kf x.f0 x.f1 x.f2 x.f3 x.f4=some false) :
  Calls Try.prog 21 #[.agg #[.int .i64 x.f0,.int .i64 x.f1,.string x.f2,.slice A3 x.f3.length c3,.slice A4 x.f4.length c4],.string mark] w fun e w'=>e=.returned (.tuple #[])∧wt.SimW Y mark w w':=by
 have hu25:=Try.underlying25
 have HFEW:=Aside0.mk (fun (W:World) (hb:Below w.heap.size w W)=>scruplelaw04_few.calls kf x.f0 x.f1 x.f2 A3 c3 x.f3 A4 c4 x.f4 false W (Kd.C_below g3 hb) l3 (Kd.C_below g4 hb) l4 hf)
 clear g3 g4 l3 l4 hf
 obtain ⟨x0,x1,x2,x3,x4⟩:=x
 dsimp only at *
 generalize x3.length=n at *
 generalize x4.length=m at *
 go_enter Try.func21,Try.ntmps21
 go_wp2_with (first | ((with_reducible refine gate_dst (N:=2) rfl ?_);refine box_event ?hg (N:=2) ?hd (cs:=#[.int .i64 x0,.int .i64 x1,.string x2,.slice A3 n c3,.slice A4 m c4]) (t:=25) ?hr ?_;(case hd=>rfl);(case hg=>rfl);(case hr=>first | (go_simp;done) | (go_simp;rfl));intro pb hpb w1 hbox hb1;have HB1:=Aside0.mk hbox;have HL1:=Aside0.mk hb1;clear hbox hb1 hpb;have z0:=(blk_cell HB1.out 0).trans rfl;have z1:=(blk_cell HB1.out 1).trans rfl;have z2:=(blk_cell HB1.out 2).trans rfl;have z3:=(blk_cell HB1.out 3).trans rfl;have z4:=(blk_cell HB1.out 4).trans rfl) | (go_at_call 27;refine (HFEW.out _ HL1.out).mono ?_;rintro e_ w2 ⟨rfl,hb⟩;have HL2:=Aside0.mk (below_then HL1.out HL1.out.size hb);clear hb z0 z1 z2 z3 z4))
 go_end0
 exact ⟨rfl,wt.SimW.of_below HL2.out⟩
end
end Go.Proofs.Ytnkbobblnhaclaa.X
namespace Go.Proofs.Ytnkbobblnhaclaa.X
open Go.RowKit Go.Proofs.YtnkbobblnhaclaaW.PrintWords Go.Proofs.YtnkbobblnhaclaaW.PrintLast Go.Proofs.YtnkbobblnhaclaaW.PrintMore Go.Proofs.YtnkbobblnhaclaaW
section
set_option maxRecDepth 100000
open Go.Proofs.Ytnkbobblnhaclaa
def wt.sm:Nat→S25→Prop
 | 0,_=>False
 | d+1,x=>(0≤x.f0∧x.f0≤5)∧(-9223372036854775808≤x.f1∧x.f1≤9223372036854775807)∧x.f2.size≤2048∧x.f3.length≤2048∧x.f4.length≤2048∧(∀ s ∈ x.f4,s.size≤2048)∧∀ y ∈ x.f3,wt.sm d y
theorem wt.sm.szL:∀ (d:Nat) {x:S25},wt.sm d x→wt.szL 2048 d x.f3
 | 0,x,h=>h
 | d+1,x,h=>⟨h.2.2.2.1,fun y hy=>by
  have hs:=h.2.2.2.2.2.2 y hy
  refine ⟨wt.sm.szL d hs, ?_⟩
  cases d with
  | zero=>exact hs.elim
  | succ d=>exact Nat.le_trans hs.2.2.2.2.1 (by decide)⟩
theorem wt.sm.val:∀ (d:Nat) {x:S25},wt.sm d x→Val x∧Siz x
 | 0,x,h=>h.elim
 | d+1,x,h=>by
  obtain ⟨h0,h1,h2,h3,h4,k4,k3⟩:=h
  exact ⟨.mk x (by omega) (by omega) h1.1 h1.2 (by omega) (by omega) (by omega) (fun s hs=>by have:=k4 s hs;omega) (fun y hy=>(wt.sm.val d (k3 y hy)).1),.mk x (by omega) (by omega) (by omega) (fun s hs=>by have:=k4 s hs;omega) (fun y hy=>(wt.sm.val d (k3 y hy)).2)⟩
theorem wt.sm.mk {d:Nat} {f0 f1:Int} {f2:ByteArray} {f3:List S25} {f4:List ByteArray} (h0:0≤f0∧f0≤5) (h1 : -9223372036854775808≤f1∧f1≤9223372036854775807) (h2:f2.size≤2048) (h3:f3.length≤2048) (h4:f4.length≤2048) (k4:∀ s ∈ f4,s.size≤2048) (k3:∀ y ∈ f3,wt.sm d y):wt.sm (d+1) ⟨f0,f1,f2,f3,f4⟩:=⟨h0,h1,h2,h3,h4,k4,k3⟩
end
end Go.Proofs.Ytnkbobblnhaclaa.X
namespace Go.Proofs.Ytnkbobblnhaclaa.X
open Go.RowKit Go.Proofs.YtnkbobblnhaclaaW.PrintWords Go.Proofs.YtnkbobblnhaclaaW.PrintLast Go.Proofs.YtnkbobblnhaclaaW.PrintMore Go.Proofs.YtnkbobblnhaclaaW
section
set_option maxHeartbeats 4000000
set_option maxRecDepth 100000
def wt.pad (i:Nat):Int:=((100+i % 50:Nat):Int)
structure wt.LentL (bs xs:List Int):Prop where
 len:xs.length=bs.length+40
 lo:∀ q,q < bs.length→xs[q]?=bs[q]?
 hi:∀ q,bs.length≤q→q < bs.length+40→xs[q]?=some (wt.pad q)
theorem wt.LentL.take {bs xs:List Int} (h:wt.LentL bs xs):xs.take bs.length=bs:=by
 apply List.ext_getElem?
 intro i
 rw [List.getElem?_take]
 split
 next hi=>exact h.lo i hi
 next hi=>exact (List.getElem?_eq_none (by omega)).symm
theorem wt.tmod50 (i:Nat):Int.tmod (i:Int) 50=((i % 50:Nat):Int):=by
 rw [Int.tmod_eq_emod_of_nonneg (by omega)]
 rfl
theorem wt.pad_eq (i:Nat):(wrap64 (100+Int.tmod (i:Int) 50)) % 256=wt.pad i:=by
 rw [wt.tmod50]
 unfold wt.pad wrap64
 omega
theorem wt.still_ok {bs xs:List Int} (h:wt.LentL bs xs) (hL:bs.length≤140737488351232):∃ K,scruplelaw04_still.f K xs bs=some true:=by
 have key:∀ rem i:Nat,i+rem=xs.length→scruplelaw04_still.l0 (rem+1) xs bs (i:Int)=some true:=by
  intro rem
  induction rem with
  | zero =>
   intro i hi
   unfold scruplelaw04_still.l0
   rw [if_neg (by omega)]
  | succ rem ih =>
   intro i hi
   have hlen:=h.len
   have hw:wrap64 ((i:Int)+1)=((i+1:Nat):Int):=by unfold wrap64;omega
   have ihn:=ih (i+1) (by omega)
   unfold scruplelaw04_still.l0
   rw [if_pos (by omega),hw]
   by_cases hb:i < bs.length
   ·have e1:rd xs (i:Int)=rd bs (i:Int):=by
     unfold rd
     rw [Int.toNat_natCast,List.getD_eq_getElem?_getD,List.getD_eq_getElem?_getD,h.lo i hb]
    rw [if_pos (by omega),if_pos (by omega),if_pos e1,if_neg (by omega)]
    exact ihn
   ·have e1:rd xs (i:Int)=wt.pad i:=by
     unfold rd
     rw [Int.toNat_natCast,List.getD_eq_getElem?_getD,h.hi i (by omega) (by omega)]
     rfl
    rw [if_neg (by omega),if_pos (by omega),if_pos (by omega),if_pos (by rw [e1,wt.pad_eq])]
    exact ihn
 exact ⟨xs.length+1,key xs.length 0 (by omega)⟩
theorem wt.lent1 {bs:List Int} {A:Option Addr} {c:Nat} (w:World) (hC:(Kd.int .u8).C w A bs.length bs) (hc:bs.length≤c) (hL:bs.length≤140737488351232) :
  Calls Try.prog 14 #[.slice A bs.length c] w fun e w'=>∃ (b cap:Nat) (xs:List Int),e=.returned (.tuple #[.slice (some ⟨b,0,none⟩) bs.length cap,.slice (some ⟨b,0,none⟩) (bs.length+40) cap])∧Kd.R (Kd.int .u8) 5 w' w.heap.size (fun _=>True) (.slice (some ⟨b,0,none⟩) (bs.length+40) cap) xs∧wt.LentL bs xs∧bs.length+40≤cap∧Below w.heap.size w w':=by
 have HC:=Aside0.mk hC
 have HLL:=Aside0.mk hL
 obtain ⟨n,hn⟩:∃ n,bs.length=n:=⟨_,rfl⟩
 have HN:=Aside0.mk hn
 rw [hn]
 have hs0:wrap64 ((n:Int)+40)=(n:Int)+40:=by unfold wrap64;omega
 have HS0:=Aside0.mk hs0
 clear hs0
 obtain ⟨i0,hi0,_⟩:=info_parts info5
 have hct:=fun (A:Option Addr) (c2:Nat) (h:n+40≤c2)=>cut_to (P:=Try.prog) 26 5 .i64 Try.underlying26 hi0 A (n+40) c2 (n:Int) (by omega) (by omega) h
 have HCT:=Aside0.mk hct
 clear hC hc hL hi0 hct
 rw [hn] at HC HLL
 clear hn
 go_enter Try.func14,Try.ntmps14
 go_wp2_with (first | ((with_reducible refine gate_dst (N:=9) rfl ?_);refine XWords.R_make_c (Kd.int .u8) (w0:=w) w.heap.size 5 rfl (N:=9) rfl 26 _ _ rfl (wrap64 ((n:Int)+40)) (wrap64 ((n:Int)+40)) rfl rfl Try.underlying26 (.int .u8 0) 1 info5 rfl (by decide) (by omega) 0 (ok:=fun _=>True) (okp:=fun _=>True) rfl (fun _ hk=>hk) trivial (by rw [HS0.out];omega) (Int.le_refl _) (by rw [HS0.out];have:=HLL.out;omega) (Below.refl _ _) (Nat.le_refl _) ?_;intro v1 w1 ho hb hg_ hnew_;clear hg_ hnew_;rw [HS0.out,show ((n:Int)+40).toNat=n+40 by omega] at ho;have HO1:=Aside0.mk ho;have HB1:=Aside0.mk hb;clear ho hb) | ((with_reducible refine gate_builtin (b:=.copy) (xs:=#[.tmp 10,.tmp 11]) rfl ?_);skip;refine XWords.R_copy_row (enc:=(Value.int .u8)) (h1:=fun _=>rfl) 0 (w0:=w) w.heap.size rfl (.tmp 10) (.tmp 11) 26 26 5 rfl Try.underlying26 (by kernel_rfl) v1 (List.replicate (n+40) 0) bs A n c (fun _=>True) rfl rfl HO1.out (Kd.C_below HC.out HB1.out) HB1.out (fun _ _=>trivial) HB1.out.size (by omega) ?_;intro w2 ho hb hg hat;have HO2:=Aside0.mk ho;have HB2:=Aside0.mk hb;clear ho hb hg hat))
 obtain ⟨y,hy⟩:∃ y,bs.take (min bs.length (List.replicate (n+40) (0:Int)).length) ++ (List.replicate (n+40) 0).drop (min bs.length (List.replicate (n+40) (0:Int)).length)=y:=⟨_,rfl⟩
 have hye:y.length=n+40∧(∀ q,q < n→y[q]?=bs[q]?):=by
  rw [List.length_replicate,HN.out,Nat.min_eq_left (by omega)] at hy
  subst hy
  have e1:(bs.take n).length=n:=by rw [List.length_take,HN.out,Nat.min_self]
  refine ⟨by rw [List.length_append,e1,List.length_drop,List.length_replicate];omega,fun q hq => ?_⟩
  rw [List.getElem?_append_left (by omega),List.getElem?_take,if_pos hq]
 rw [hy] at HO2
 clear hy
 obtain ⟨b,cap,hv,_,_,_⟩:=Kd.R_form HO2.out (by omega)
 rw [hye.1] at hv
 subst hv
 have HCAP:=Aside0.mk (show n+40≤cap from (Kd.R_reads' HO2.out).2.1)
 have HYE:=Aside0.mk hye
 have hct:=HCT.out (some ⟨b,0,none⟩) cap HCAP.out
 rw [Int.toNat_natCast] at hct
 obtain ⟨ad,had⟩:∃ ad,ad=(⟨b,0,none⟩:Addr):=⟨_,rfl⟩
 have HAD:=Aside0.mk had
 rw [← had] at hct ⊢
 clear hye had
 go_wp2
 go_loopw [5] (fun v5 wr=>∃ (j:Nat) (xs:List Int),v5=.int .i64 (j:Int)∧Aside0 (n≤j∧j≤n+40)∧Aside0 (xs.length=n+40∧(∀ q,q < n→xs[q]?=bs[q]?)∧(∀ q,n≤q→q < j→xs[q]?=some (wt.pad q)))∧Aside0 (Kd.R (Kd.int .u8) 5 wr w.heap.size (fun _=>True) (.slice (some ⟨b,0,none⟩) (n+40) cap) xs)∧Aside0 (Below w.heap.size w wr)) (fun v5 _=>(n+40) - (intOf v5).toNat)
 case atStart=>exact ⟨n,y,rfl,⟨by omega⟩,⟨HYE.out.1,HYE.out.2,fun q h1 h2=>by omega⟩,HO2,HB2⟩
 case round =>
  clear HO2 HB2 HO1 HB1
  obtain ⟨j,xs,rfl,HJ0,HX,HO,HB⟩:=hrel
  by_cases hlt:j < n+40
  ·have i1:decide ((j:Int) < ((n+40:Nat):Int))=true:=decide_eq_true (by omega)
   have i1b:decide ((j:Int) < (n:Int)+40)=true:=decide_eq_true (by omega)
   have i2:decide (j < n+40)=true:=decide_eq_true hlt
   have i3:(j < n+40)=True:=eq_true hlt
   have t3:(j:Int) < ((n+40:Nat):Int):=by omega
   have t3b:(j:Int) < (n:Int)+40:=by omega
   have HWR:=Aside0.mk (show wrap64 ((j:Int)+1)=(j:Int)+1 by have:=HLL.out;unfold wrap64;omega)
   have HM:=Aside0.mk (wt.meas j (n+40) hlt HWR.out)
   have HJ:=Aside0.mk (show n≤j+1∧j+1≤n+40 by have:=HJ0.out;omega)
   have hp:=wt.pad_eq j
   have hx:=(Kd.R_reads' HO.out).2.2
   rw [HX.out.1] at hx
   obtain ⟨ad',ea,hz⟩:=Kd.at_int hx (j:Int) (by omega) (by omega)
   have ea2:=Option.some.inj ea
   rw [← ea2,Int.toNat_natCast,← HAD.out] at hz
   have hadj:ad.add j=⟨b,j,none⟩:=by rw [HAD.out,Addr.add_lit,Nat.zero_add]
   have hzf:wr.frozen? (ad.add j)=false:=by
    obtain ⟨g,cap',e1,_,_,cells,hcl⟩:=Kd.R_form HO.out (by have:=HX.out.1;omega)
    injection e1 with e1
    injection e1 with e1
    injection e1 with e1
    rw [hadj,e1]
    exact blk_frozen hcl j
   have HADJ:=Aside0.mk hadj
   have HLT:=Aside0.mk hlt
   clear hx ea ea2 hadj hlt
   go_wp2
   go_roundw
   case rel =>
    refine ⟨j+1,xs.set j (wt.pad j),by rw [HWR.out];rfl,HJ,⟨by rw [List.length_set];exact HX.out.1,fun q hq => ?_,fun q h1 h2 => ?_⟩,⟨?_⟩,⟨?_⟩⟩
    ·rw [List.getElem?_set_ne (by have:=HJ0.out;omega)]
     exact HX.out.2.1 q hq
    ·by_cases hq:q=j
     ·subst hq
      rw [List.getElem?_set_self (by rw [HX.out.1];exact HLT.out)]
     ·rw [List.getElem?_set_ne (fun e=>hq e.symm)]
      exact HX.out.2.2 q h1 (by omega)
    ·have:=(Kd.R_putg HO.out (j:Int) (wt.pad j)).1
     rw [Int.toNat_natCast] at this
     rw [HADJ.out]
     exact this
    ·rw [HADJ.out]
     exact HB.out.setCell (Kd.R_base HO.out b rfl) _
   case measure=>exact HM.out
  ·have i1:decide ((j:Int) < ((n+40:Nat):Int))=false:=decide_eq_false (by omega)
   have i1b:decide ((j:Int) < (n:Int)+40)=false:=decide_eq_false (by omega)
   have i2:decide (j < n+40)=false:=decide_eq_false hlt
   have i3:(j < n+40)=False:=eq_false hlt
   have hje:j=n+40:=by have:=HJ0.out;omega
   subst hje
   clear hlt
   go_wp2
   go_ret2
   refine ⟨b,cap,xs,by rw [HAD.out];rfl,HO.out,⟨by rw [HN.out];exact HX.out.1,fun q hq=>HX.out.2.1 q (by have:=HN.out;omega),fun q h1 h2=>HX.out.2.2 q (by have:=HN.out;omega) (by have:=HN.out;omega)⟩,HCAP.out,HB.out⟩
end
end Go.Proofs.Ytnkbobblnhaclaa.X
namespace Go.Proofs.Ytnkbobblnhaclaa.X
open Go.RowKit Go.Proofs.YtnkbobblnhaclaaW.PrintWords Go.Proofs.YtnkbobblnhaclaaW.PrintLast Go.Proofs.YtnkbobblnhaclaaW.PrintMore Go.Proofs.YtnkbobblnhaclaaW
section
set_option maxHeartbeats 4000000
set_option maxRecDepth 100000
open Go.Proofs.Ytnkbobblnhaclaa
open Go.ChangeShapes Go.WideShapes Go.ChangeAt in
theorem el_int {H:Type} {enc:TypeId × Value→H} {P:Program} {w:World} {held:Bool} {spare:Nat→Bool} {k:IntKind} {e:TypeId} (he:P.underlying e=some (.int k)):∀ n cs (y:DataW H × List MemPlace),DataW.trod enc P w 0 spare held n e cs=some y→∃ x,(Kd.int k).K w x cs∧(Lit.int k x).wf=true:=fun n cs y hy=>by
 obtain ⟨x,q,_,z⟩:=DataW.trod_int he hy
 exact ⟨x,q,z⟩
theorem wt.VRow.CC {w:World} {Y:Nat→Prop} {d n c:Nat} {A:Option Addr} {xs:List S25} (h:wt.VRow w Y d (.slice A n c) xs):n=xs.length∧xs.length≤c∧k25.C w A xs.length xs:=by
 obtain ⟨A',c',e,h1,h2⟩:=wt.VRow.C d h
 injection e with e1 e2 e3
 subst e1;subst e2;subst e3
 exact ⟨rfl,h1,h2⟩
theorem wt.KRow.CC {w:World} {Y:Nat→Prop} {n c:Nat} {A:Option Addr} {xs:List ByteArray} (h:wt.KRow w Y (.slice A n c) xs):n=xs.length∧xs.length≤c∧Kd.string.C w A xs.length xs:=by
 obtain ⟨A',c',e,h1,h2⟩:=h.C
 injection e with e1 e2 e3
 subst e1;subst e2;subst e3
 exact ⟨rfl,h1,h2⟩
def wt.vl (x:S25) (A3:Option Addr) (c3:Nat) (A4:Option Addr) (c4:Nat):Value:=.agg #[.int .i64 x.f0,.int .i64 x.f1,.string x.f2,.slice A3 x.f3.length c3,.slice A4 x.f4.length c4]
structure wt.Tr (W:World) (lo hi:Nat) (x:S25) (A3:Option Addr) (c3:Nat) (A4:Option Addr) (c4:Nat):Prop where
 v:wt.VRow W (fun k=>lo≤k∧k < hi) 8 (.slice A3 x.f3.length c3) x.f3
 k:wt.KRow W (fun k=>lo≤k∧k < hi) (.slice A4 x.f4.length c4) x.f4
section
variable {W W1:World} {lo hi:Nat} {x:S25} {A3:Option Addr} {c3:Nat} {A4:Option Addr} {c4:Nat}
theorem wt.Tr.move (h:wt.Tr W lo hi x A3 c3 A4 c4) (hm:∀ k,lo≤k→k < hi→W1.heap[k]?=W.heap[k]?):wt.Tr W1 lo hi x A3 c3 A4 c4 :=
 ⟨wt.VRow.move (fun _ q=>q) (fun k hk _=>hm k hk.1 hk.2) 8 h.v,h.k.move (fun _ q=>q) (fun k hk _=>hm k hk.1 hk.2)⟩
theorem wt.Tr.below (h:wt.Tr W lo hi x A3 c3 A4 c4) (hb:Below W.heap.size W W1) (hh:hi≤W.heap.size):wt.Tr W1 lo hi x A3 c3 A4 c4:=h.move (fun k _ hk=>hb.block k (Nat.lt_of_lt_of_le hk hh))
end
theorem wt.room_ok {bs xs:List Int} {w1:World} {base b cap:Nat} (hr:Kd.R (Kd.int .u8) 5 w1 base (fun _=>True) (.slice (some ⟨b,0,none⟩) (bs.length+40) cap) xs) (hle:wt.LentL bs xs):(Kd.int .u8).C w1 (some ⟨b,0,none⟩) bs.length bs:=by
 have q:=Kd.C_take (m:=bs.length) (Kd.R_reads' hr).2.2 (by have:=hle.len;omega)
 rw [hle.take] at q
 exact q
structure wt.MM (w wr:World) (n1 n3 n4 n5 n6:Nat) (W:World) (x:S25) (A23:Option Addr) (c23:Nat) (A24:Option Addr) (c24:Nat) (A33:Option Addr) (c33:Nat) (A34:Option Addr) (c34:Nat) (b n cap:Nat):Prop where
 t2:wt.Tr W n3 n4 x A23 c23 A24 c24
 t3:wt.Tr W n5 n6 x A33 c33 A34 c34
 x2:W.heap[n4]?=some (.cells #[.int .i64 x.f0,.int .i64 x.f1,.string x.f2,.slice A23 x.f3.length c23,.slice A24 x.f4.length c24] 25 (0,0))
 x3:W.heap[n6]?=some (.cells #[.int .i64 x.f0,.int .i64 x.f1,.string x.f2,.slice A33 x.f3.length c33,.slice A34 x.f4.length c34] 25 (0,0))
 bel:Below w.heap.size w W
 row:∃ xs,Kd.R (Kd.int .u8) 5 W w.heap.size (fun _=>True) (.slice (some ⟨b,0,none⟩) n cap) xs
 bn:w.heap.size≤b∧b < n3∧n3≤n4∧n4 < n5∧n5≤n6∧n6 < W.heap.size
structure wt.M7 (w wr:World) (bs:List Int) (xs:List Int) (n1 n2 n3 n4 n5 n6:Nat) (W:World) (x:S25) (A13:Option Addr) (c13:Nat) (A14:Option Addr) (c14:Nat) (A23:Option Addr) (c23:Nat) (A24:Option Addr) (c24:Nat) (A33:Option Addr) (c33:Nat) (A34:Option Addr) (c34:Nat) (b n cap:Nat):Prop where
 t1:wt.Tr W n1 n2 x A13 c13 A14 c14
 t2:wt.Tr W n3 n4 x A23 c23 A24 c24
 t3:wt.Tr W n5 n6 x A33 c33 A34 c34
 x1:W.heap[n2]?=some (.cells #[.int .i64 x.f0,.int .i64 x.f1,.string x.f2,.slice A13 x.f3.length c13,.slice A14 x.f4.length c14] 25 (0,0))
 x2:W.heap[n4]?=some (.cells #[.int .i64 x.f0,.int .i64 x.f1,.string x.f2,.slice A23 x.f3.length c23,.slice A24 x.f4.length c24] 25 (0,0))
 x3:W.heap[n6]?=some (.cells #[.int .i64 x.f0,.int .i64 x.f1,.string x.f2,.slice A33 x.f3.length c33,.slice A34 x.f4.length c34] 25 (0,0))
 bel:Below w.heap.size w W
 row:Kd.R (Kd.int .u8) 5 W w.heap.size (fun _=>True) (.slice (some ⟨b,0,none⟩) n cap) xs
 bn:w.heap.size≤b∧b < n1∧n1≤n2∧n2 < n3∧n3≤n4∧n4 < n5∧n5≤n6∧n6 < W.heap.size
section
variable {w wr W W1:World} {bs xs:List Int} {n1 n2 n3 n4 n5 n6:Nat} {x:S25} {A13:Option Addr} {c13:Nat} {A14:Option Addr} {c14:Nat} {A23:Option Addr} {c23:Nat} {A24:Option Addr} {c24:Nat} {A33:Option Addr} {c33:Nat} {A34:Option Addr} {c34:Nat} {b n cap:Nat}
theorem wt.M7.h1 (h:wt.M7 w wr bs xs n1 n2 n3 n4 n5 n6 W x A13 c13 A14 c14 A23 c23 A24 c24 A33 c33 A34 c34 b n cap):n2≤W.heap.size:=by have:=h.bn;omega
theorem wt.M7.below (h:wt.M7 w wr bs xs n1 n2 n3 n4 n5 n6 W x A13 c13 A14 c14 A23 c23 A24 c24 A33 c33 A34 c34 b n cap) (hb:Below W.heap.size W W1):wt.M7 w wr bs xs n1 n2 n3 n4 n5 n6 W1 x A13 c13 A14 c14 A23 c23 A24 c24 A33 c33 A34 c34 b n cap :=
 have q:=h.bn
 have s:=hb.size
 ⟨h.t1.below hb (by omega),h.t2.below hb (by omega),h.t3.below hb (by omega),blk_below h.x1 hb,blk_below h.x2 hb,blk_below h.x3 hb,below_then h.bel h.bel.size hb,Kd.R_below h.row hb,by omega⟩
theorem wt.M7.wiped {mark:ByteArray} (h:wt.M7 w wr bs xs n1 n2 n3 n4 n5 n6 W x A13 c13 A14 c14 A23 c23 A24 c24 A33 c33 A34 c34 b n cap) (hs:wt.SimW (fun k=>n1≤k∧k < n2) mark W W1):wt.MM w wr n1 n3 n4 n5 n6 W1 x A23 c23 A24 c24 A33 c33 A34 c34 b n cap:=by
 have q:=h.bn
 have s:=hs.size
 have same:∀ k,k < W.heap.size→k < n1 ∨ n2≤k→W1.heap[k]?=W.heap[k]?:=fun k hk hn=>hs.out k hk (fun y=>by omega)
 exact ⟨h.t2.move (fun k h1 h2=>same k (by omega) (by omega)),h.t3.move (fun k h1 h2=>same k (by omega) (by omega)),(same _ (by omega) (by omega)).trans h.x2,(same _ (by omega) (by omega)).trans h.x3,
  ⟨hs.os.trans h.bel.os,hs.tape.trans h.bel.tape,hs.output.trans h.bel.output,Nat.le_trans h.bel.size hs.size,fun k hk=>(same k (Nat.lt_of_lt_of_le hk h.bel.size) (by omega)).trans (h.bel.block k hk)⟩,
  ⟨xs,Kd.R_step (Kd.R_tight rfl h.row) (fun k hk hlt=>same k hlt (by have e:k=b:=Option.some.inj (hk.trans rfl);omega)) |> fun z=>Kd.R_mono z (fun _ _=>trivial)⟩,by omega⟩
theorem wt.MM.cell (h:wt.MM w wr n1 n3 n4 n5 n6 W x A23 c23 A24 c24 A33 c33 A34 c34 b n cap) {k:Nat} (hk:k < n):∃ old,W.cell? ⟨b,k,none⟩=some (.int .u8 old)∧W.frozen? ⟨b,k,none⟩=false:=by
 obtain ⟨xs,hr⟩:=h.row
 have hx:=Kd.R_reads' hr
 obtain ⟨ad,ea,hz⟩:=Kd.at_int hx.2.2 (k:Int) (by omega) (by omega)
 have ea:=Option.some.inj ea
 rw [← ea,Int.toNat_natCast,Addr.add_lit,Nat.zero_add] at hz
 obtain ⟨g,cap',e1,_,_,cells,hcl⟩:=Kd.R_form hr (by omega)
 injection e1 with e1
 injection e1 with e1
 injection e1 with e1
 exact ⟨_,hz,by rw [e1];exact blk_frozen hcl k⟩
theorem wt.MM.put (h:wt.MM w wr n1 n3 n4 n5 n6 W x A23 c23 A24 c24 A33 c33 A34 c34 b n cap) (k:Nat):wt.MM w wr n1 n3 n4 n5 n6 (W.setCell ⟨b,k,none⟩ (.int .u8 9)) x A23 c23 A24 c24 A33 c33 A34 c34 b n cap:=by
 have q:=h.bn
 have same:∀ i,i ≠ b→(W.setCell ⟨b,k,none⟩ (.int .u8 9)).heap[i]?=W.heap[i]?:=fun i hi=>Below.heap_setCell W ⟨b,k,none⟩ (.int .u8 9) i hi
 obtain ⟨xs,hr⟩:=h.row
 have hp:=(Kd.R_putg hr (k:Int) 9).1
 rw [Int.toNat_natCast] at hp
 exact ⟨h.t2.move (fun i h1 h2=>same i (by omega)),h.t3.move (fun i h1 h2=>same i (by omega)),(same _ (by omega)).trans h.x2,(same _ (by omega)).trans h.x3,h.bel.setCell (show w.heap.size≤b from q.1) _,⟨_,hp⟩,by rw [Deep.nblk_setCell];omega⟩
theorem wt.MM.all (h:wt.MM w wr n1 n3 n4 n5 n6 W x A23 c23 A24 c24 A33 c33 A34 c34 b n cap) (hb:Below W.heap.size W W1):Below w.heap.size w W1:=below_then h.bel h.bel.size hb
end
end
end Go.Proofs.Ytnkbobblnhaclaa.X
namespace Go.Proofs.Ytnkbobblnhaclaa.X
open Go.RowKit Go.Proofs.YtnkbobblnhaclaaW.PrintWords Go.Proofs.YtnkbobblnhaclaaW.PrintLast Go.Proofs.YtnkbobblnhaclaaW.PrintMore Go.Proofs.YtnkbobblnhaclaaW
section
set_option maxHeartbeats 4000000
set_option maxRecDepth 100000
end
end Go.Proofs.Ytnkbobblnhaclaa.X
namespace Go.Proofs.Ytnkbobblnhaclaa.X
open Go.RowKit Go.Proofs.YtnkbobblnhaclaaW.PrintWords Go.Proofs.YtnkbobblnhaclaaW.PrintLast Go.Proofs.YtnkbobblnhaclaaW.PrintMore Go.Proofs.YtnkbobblnhaclaaW
section
set_option maxRecDepth 100000
open Go.Proofs.Ytnkbobblnhaclaa
theorem wt.en_few (x:S25) (hv:Val x) (hr:wt.Rt x):(en x).length≤24576:=by
 have:=(en_len x hv).1
 have:=hr.2
 omega
def wt.li (n:Int):S25:=⟨2,n,⟨#[]⟩,[],[]⟩
end
end Go.Proofs.Ytnkbobblnhaclaa.X
namespace Go.Proofs.Ytnkbobblnhaclaa.X
open Go.RowKit Go.Proofs.YtnkbobblnhaclaaW.PrintWords Go.Proofs.YtnkbobblnhaclaaW.PrintLast Go.Proofs.YtnkbobblnhaclaaW.PrintMore Go.Proofs.YtnkbobblnhaclaaW
section
set_option maxHeartbeats 4000000
set_option maxRecDepth 100000
open Go.Proofs.Ytnkbobblnhaclaa
theorem wt.put_told (x:S25) (hv:Val x):(wt.Rt x∧Ev (fun k=>scrupleref03_Right.f k x.f0 x.f1 x.f2 x.f3 x.f4) true∧Ev (fun k=>wire_Length.f k x.f0 x.f1 x.f2 x.f3 x.f4) ((en x).length:Int)∧∀ b:List Int,b.length≤140737488300000→Ev (fun k=>wire_Put.f k b x.f0 x.f1 x.f2 x.f3 x.f4) (b ++ en x,0)) ∨
  (¬ wt.Rt x∧Ev (fun k=>scrupleref03_Right.f k x.f0 x.f1 x.f2 x.f3 x.f4) false∧Ev (fun k=>wire_Length.f k x.f0 x.f1 x.f2 x.f3 x.f4) 0∧∀ b:List Int,Ev (fun k=>wire_Put.f k b x.f0 x.f1 x.f2 x.f3 x.f4) ([],40)):=by
 rcases wt.told3 x hv with ⟨hr,h1,h2,h3⟩ | ⟨hr,h1,h2,h3⟩
 ·have hL:Ev (fun k=>(wire_Encode.f k x.f0 x.f1 x.f2 x.f3 x.f4).bind fun r=>some (r.1.length:Int)) ((en x).length:Int):=Ev.bind (F:=fun _ (r:List Int × Int)=>some (r.1.length:Int)) h3 Ev.const
  refine Or.inl ⟨hr,h2,hL,fun b hb => ?_⟩
  have hl:=wt.en_few x hv hr
  have hp:=put_ev x hv (wt.okV_frm 8 x hr.1) b (by omega)
  refine Ev.bind (F:=fun k ok=>if ok=true then (slices_Clone_byte_byte.f b).bind fun b=>(wire_put.f k b x.f0 x.f1 x.f2 x.f3 x.f4).bind fun r=>some (r,0) else some ([],40)) h1 ?_
  refine Ev.congr (h:=fun k=>(wire_put.w k b x.f0 x.f1 x.f2 x.f3 x.f4).bind fun r=>some (r,0)) (Ev.bind (F:=fun k r=>some (r,0)) hp Ev.const) (fun k => ?_)
  rw [if_pos rfl]
  unfold slices_Clone_byte_byte.f
  rw [if_pos (by omega)]
  rfl
 ·have hL:Ev (fun k=>(wire_Encode.f k x.f0 x.f1 x.f2 x.f3 x.f4).bind fun r=>some (r.1.length:Int)) 0:=Ev.bind (F:=fun _ (r:List Int × Int)=>some (r.1.length:Int)) h3 Ev.const
  refine Or.inr ⟨hr,h2,hL,fun b => ?_⟩
  refine Ev.bind (F:=fun k ok=>if ok=true then (slices_Clone_byte_byte.f b).bind fun b=>(wire_put.f k b x.f0 x.f1 x.f2 x.f3 x.f4).bind fun r=>some (r,0) else some ([],40)) h1 ?_
  exact Ev.congr Ev.const (fun k=>by rw [if_neg (by simp)])
theorem wt.same_ok2 {x:S25} (hv:Val x) (hs:Siz x):∃ K,scruplelaw04_same.f K x.f0 x.f1 x.f2 x.f3 x.f4 x.f0 x.f1 x.f2 x.f3 x.f4=some true:=by
 obtain ⟨t,⟨K1,h1⟩,_⟩:=few_ev x hv hs
 obtain ⟨b,⟨K2,h2⟩,hb⟩:=alike_ev x hv hs x hv
 have hb1:b=true:=hb.2 rfl
 subst hb1
 refine ⟨max K1 K2, ?_⟩
 unfold scruplelaw04_same.f
 have e1:=h1 (max K1 K2) (Nat.le_max_left _ _)
 have e2:=h2 (max K1 K2) (Nat.le_max_right _ _)
 dsimp only at e1 e2
 rw [e1,Option.bind_some]
 cases t with
 | true=>rw [if_pos rfl,e2];rfl
 | false=>rw [if_neg (by decide)]
end
end Go.Proofs.Ytnkbobblnhaclaa.X
namespace Go.Proofs.Ytnkbobblnhaclaa.X
open Go.RowKit Go.Proofs.YtnkbobblnhaclaaW.PrintWords Go.Proofs.YtnkbobblnhaclaaW.PrintLast Go.Proofs.YtnkbobblnhaclaaW.PrintMore Go.Proofs.YtnkbobblnhaclaaW
section
set_option maxHeartbeats 16000000
set_option maxRecDepth 100000
open Go.Proofs.Ytnkbobblnhaclaa
theorem wt.copiedR (k:Nat) (f0 f1:Int) (f2:ByteArray) (A3:Option Addr) (c3:Nat) (f3:List S25) (A4:Option Addr) (c4:Nat) (f4:List ByteArray) (t:Bool) (w:World) (hr3:Kd.C k25 w A3 f3.length f3) (hc3:f3.length≤c3) (hr4:Kd.C Kd.string w A4 f4.length f4) (hc4:f4.length≤c4) (hf:scruplelaw04_few.f k f0 f1 f2 f3 f4=some t) (hd:t=true→scruplelaw04_deep.f k f0 f1 f2 f3 f4=some (f0,f1,f2,f3,f4)) :
  Calls Try.prog 11 #[.agg #[.int .i64 f0,.int .i64 f1,.string f2,.slice A3 f3.length c3,.slice A4 f4.length c4]] w fun e w'=>∃ (A5:Option Addr) (c5:Nat) (A6:Option Addr) (c6:Nat),e=.returned (.agg #[.int .i64 f0,.int .i64 f1,.string f2,.slice A5 f3.length c5,.slice A6 f4.length c6])∧Kd.C k25 w' A5 f3.length f3∧f3.length≤c5∧Kd.C Kd.string w' A6 f4.length f4∧f4.length≤c6∧Below w.heap.size w w'∧(t=true→Kd.R k25 25 w' w.heap.size (fun _=>True) (.slice A5 f3.length c5) f3∧Kd.R Kd.string 9 w' w.heap.size (fun _=>True) (.slice A6 f4.length c6) f4)∧(t=false→A5=A3∧c5=c3∧A6=A4∧c6=c4):=by
 have hu25:=Try.underlying25
 have HR3:=Aside0.mk hr3
 have HC3:=Aside0.mk hc3
 have HR4:=Aside0.mk hr4
 have HC4:=Aside0.mk hc4
 have HF:=Aside0.mk hf
 clear hr3 hc3 hr4 hc4 hf
 by_cases c:t=true
 ·subst c
  have HD:=Aside0.mk (hd rfl)
  clear hd
  go_enter Try.func11,Try.ntmps11
  go_wp2_with (first | ((with_reducible refine gate_dst (N:=1) rfl ?_);refine box_event ?hg (N:=1) ?hd (cs:=#[.int .i64 f0,.int .i64 f1,.string f2,.slice A3 f3.length c3,.slice A4 f4.length c4]) (t:=25) ?hr ?_;(case hd=>rfl);(case hg=>rfl);(case hr=>first | (go_simp;done) | (go_simp;rfl));intro g1 hg w1 hbox hb1;have BX1:=Aside0.mk hbox;have HB1:=Aside0.mk hb1;have GE1:=Aside0.mk (show w.heap.size≤g1 from by omega);clear hb1 hbox hg) | ((with_reducible refine gate_dst (N:=2) rfl ?_);refine box_event ?hg (N:=2) ?hd (cs:=#[.int .i64 0,.int .i64 0,.string (⟨#[]⟩:ByteArray),.slice none 0 0,.slice none 0 0]) (t:=25) ?hr ?_;(case hd=>rfl);(case hg=>rfl);(case hr=>first | (go_simp;done) | (go_simp;rfl));intro g2 hg w2 hbox hb1;have BY2:=Aside0.mk hbox;have BX2:=Aside0.mk (blk_below BX1.out hb1);have HB2:=Aside0.mk (below_step HB1.out hb1);have GE2:=Aside0.mk (show w.heap.size≤g2 from by rw [hg];exact HB1.out.size);have NE:=Aside0.mk (show g1 ≠ g2 from by have:=blk_lt BX1.out;omega);have GW:=Aside0.mk (show g2 < w2.heap.size from blk_lt hbox);clear hb1 hbox hg;have o0:w2.cell? ⟨g1,0,none⟩=some (.int .i64 f0):=(blk_cell BX2.out 0).trans rfl;have of0:=blk_frozen BX2.out 0;have o1:w2.cell? ⟨g1,1,none⟩=some (.int .i64 f1):=(blk_cell BX2.out 1).trans rfl;have of1:=blk_frozen BX2.out 1;have o2:w2.cell? ⟨g1,2,none⟩=some (.string f2):=(blk_cell BX2.out 2).trans rfl;have of2:=blk_frozen BX2.out 2;have o3:w2.cell? ⟨g1,3,none⟩=some (.slice A3 f3.length c3):=(blk_cell BX2.out 3).trans rfl;have of3:=blk_frozen BX2.out 3;have o4:w2.cell? ⟨g1,4,none⟩=some (.slice A4 f4.length c4):=(blk_cell BX2.out 4).trans rfl;have of4:=blk_frozen BX2.out 4) | (go_at_call 27;refine (scruplelaw04_few.calls k f0 f1 f2 A3 c3 f3 A4 c4 f4 true _ ?s1 HC3.out ?s2 HC4.out HF.out).mono ?_;(case s1=>exact Kd.C_below HR3.out HB2.out);(case s2=>exact Kd.C_below HR4.out HB2.out);rintro e w3 ⟨rfl,hb3⟩;have HB3:=Aside0.mk (below_step HB2.out hb3);have BX3:=Aside0.mk (blk_below BX2.out hb3);have BY3:=Aside0.mk (blk_below BY2.out hb3);clear hb3;have p0:w3.cell? ⟨g1,0,none⟩=some (.int .i64 f0):=(blk_cell BX3.out 0).trans rfl;have pf0:=blk_frozen BX3.out 0;have p1:w3.cell? ⟨g1,1,none⟩=some (.int .i64 f1):=(blk_cell BX3.out 1).trans rfl;have pf1:=blk_frozen BX3.out 1;have p2:w3.cell? ⟨g1,2,none⟩=some (.string f2):=(blk_cell BX3.out 2).trans rfl;have pf2:=blk_frozen BX3.out 2;have p3:w3.cell? ⟨g1,3,none⟩=some (.slice A3 f3.length c3):=(blk_cell BX3.out 3).trans rfl;have pf3:=blk_frozen BX3.out 3;have p4:w3.cell? ⟨g1,4,none⟩=some (.slice A4 f4.length c4):=(blk_cell BX3.out 4).trans rfl;have pf4:=blk_frozen BX3.out 4;have q0:w3.cell? ⟨g2,0,none⟩=some (.int .i64 0):=(blk_cell BY3.out 0).trans rfl;have qf0:=blk_frozen BY3.out 0;have q1:w3.cell? ⟨g2,1,none⟩=some (.int .i64 0):=(blk_cell BY3.out 1).trans rfl;have qf1:=blk_frozen BY3.out 1;have q2:w3.cell? ⟨g2,2,none⟩=some (.string (⟨#[]⟩:ByteArray)):=(blk_cell BY3.out 2).trans rfl;have qf2:=blk_frozen BY3.out 2;have q3:w3.cell? ⟨g2,3,none⟩=some (.slice none 0 0):=(blk_cell BY3.out 3).trans rfl;have qf3:=blk_frozen BY3.out 3;have q4:w3.cell? ⟨g2,4,none⟩=some (.slice none 0 0):=(blk_cell BY3.out 4).trans rfl;have qf4:=blk_frozen BY3.out 4) | (go_at_call 28;refine (scruplelaw04_deep.calls k f0 f1 f2 A3 c3 f3 A4 c4 f4 f0 f1 f2 f3 f4 _ ?t1 HC3.out ?t2 HC4.out HD.out).mono ?_;(case t1=>exact Kd.C_below HR3.out HB3.out);(case t2=>exact Kd.C_below HR4.out HB3.out);rintro e w4 ⟨v3,v4,rfl,ho3,ho4,hb4⟩;obtain ⟨Ad,cd,ed⟩:=Kd.R_slice ho3;subst ed;obtain ⟨Ae,ce,ee⟩:=Kd.R_slice ho4;subst ee;have HB4:=Aside0.mk (below_step HB3.out hb4);have BY4:=Aside0.mk (blk_below BY3.out hb4);have HO3:=Aside0.mk (Kd.R_mono (Kd.R_bound ho3) (fun k_ hk=>(show k_ ≠ g2 from fun e_=>by have:=hk.2.1;have:=blk_lt BY3.out;omega)));have HO4:=Aside0.mk (Kd.R_mono (Kd.R_bound ho4) (fun k_ hk=>(show k_ ≠ g2 from fun e_=>by have:=hk.2.1;have:=blk_lt BY3.out;omega)));clear hb4 ho3 ho4;have r0:w4.cell? ⟨g2,0,none⟩=some (.int .i64 0):=(blk_cell BY4.out 0).trans rfl;have rf0:=blk_frozen BY4.out 0;have r1:w4.cell? ⟨g2,1,none⟩=some (.int .i64 0):=(blk_cell BY4.out 1).trans rfl;have rf1:=blk_frozen BY4.out 1;have r2:w4.cell? ⟨g2,2,none⟩=some (.string (⟨#[]⟩:ByteArray)):=(blk_cell BY4.out 2).trans rfl;have rf2:=blk_frozen BY4.out 2;have r3:w4.cell? ⟨g2,3,none⟩=some (.slice none 0 0):=(blk_cell BY4.out 3).trans rfl;have rf3:=blk_frozen BY4.out 3;have r4:w4.cell? ⟨g2,4,none⟩=some (.slice none 0 0):=(blk_cell BY4.out 4).trans rfl;have rf4:=blk_frozen BY4.out 4))
  refine bodyPost_ret (results_cell_row rfl _ _ g2 25 #[.int .i64 f0,.int .i64 f1,.string f2,.slice Ad f3.length cd,.slice Ae f4.length ce] (0,0) _ rfl (by refine blk_put (cs:=#[.int .i64 f0,.int .i64 f1,.string f2,.slice Ad f3.length cd,.slice none 0 0]) ?_ 4 _ rfl;refine blk_put (cs:=#[.int .i64 f0,.int .i64 f1,.string f2,.slice none 0 0,.slice none 0 0]) ?_ 3 _ rfl;refine blk_put (cs:=#[.int .i64 f0,.int .i64 f1,.string (⟨#[]⟩:ByteArray),.slice none 0 0,.slice none 0 0]) ?_ 2 _ rfl;refine blk_put (cs:=#[.int .i64 f0,.int .i64 0,.string (⟨#[]⟩:ByteArray),.slice none 0 0,.slice none 0 0]) ?_ 1 _ rfl;refine blk_put (cs:=#[.int .i64 0,.int .i64 0,.string (⟨#[]⟩:ByteArray),.slice none 0 0,.slice none 0 0]) ?_ 0 _ rfl; exact BY4.out) Try.underlying25 rfl (by kernel_rfl)) rfl ?_
  exact ⟨Ad,cd,Ae,ce,rfl,(Kd.R_reads' (Kd.R_far (p:=⟨g2,4,none⟩) (Kd.R_far (p:=⟨g2,3,none⟩) (Kd.R_far (p:=⟨g2,2,none⟩) (Kd.R_far (p:=⟨g2,1,none⟩) (Kd.R_far (p:=⟨g2,0,none⟩) HO3.out (fun _ hk=>hk) _) (fun _ hk=>hk) _) (fun _ hk=>hk) _) (fun _ hk=>hk) _) (fun _ hk=>hk) _)).2.2,(Kd.R_reads' HO3.out).2.1,(Kd.R_reads' (Kd.R_far (p:=⟨g2,4,none⟩) (Kd.R_far (p:=⟨g2,3,none⟩) (Kd.R_far (p:=⟨g2,2,none⟩) (Kd.R_far (p:=⟨g2,1,none⟩) (Kd.R_far (p:=⟨g2,0,none⟩) HO4.out (fun _ hk=>hk) _) (fun _ hk=>hk) _) (fun _ hk=>hk) _) (fun _ hk=>hk) _) (fun _ hk=>hk) _)).2.2,(Kd.R_reads' HO4.out).2.1,below_set (below_set (below_set (below_set (below_set HB4.out GE2.out) GE2.out) GE2.out) GE2.out) GE2.out,fun _=>⟨Kd.R_lower (Kd.R_mono (Kd.R_far (p:=⟨g2,4,none⟩) (Kd.R_far (p:=⟨g2,3,none⟩) (Kd.R_far (p:=⟨g2,2,none⟩) (Kd.R_far (p:=⟨g2,1,none⟩) (Kd.R_far (p:=⟨g2,0,none⟩) HO3.out (fun _ hk=>hk) _) (fun _ hk=>hk) _) (fun _ hk=>hk) _) (fun _ hk=>hk) _) (fun _ hk=>hk) _) (fun _ _=>trivial)) HB3.out.size,Kd.R_lower (Kd.R_mono (Kd.R_far (p:=⟨g2,4,none⟩) (Kd.R_far (p:=⟨g2,3,none⟩) (Kd.R_far (p:=⟨g2,2,none⟩) (Kd.R_far (p:=⟨g2,1,none⟩) (Kd.R_far (p:=⟨g2,0,none⟩) HO4.out (fun _ hk=>hk) _) (fun _ hk=>hk) _) (fun _ hk=>hk) _) (fun _ hk=>hk) _) (fun _ hk=>hk) _) (fun _ _=>trivial)) HB3.out.size⟩,fun e_=>by cases e_⟩
 ·obtain rfl:t=false:=by simpa using c
  clear hd c
  go_enter Try.func11,Try.ntmps11
  go_wp2_with (first | ((with_reducible refine gate_dst (N:=1) rfl ?_);refine box_event ?hg (N:=1) ?hd (cs:=#[.int .i64 f0,.int .i64 f1,.string f2,.slice A3 f3.length c3,.slice A4 f4.length c4]) (t:=25) ?hr ?_;(case hd=>rfl);(case hg=>rfl);(case hr=>first | (go_simp;done) | (go_simp;rfl));intro g1 hg w1 hbox hb1;have BX1:=Aside0.mk hbox;have HB1:=Aside0.mk hb1;have GE1:=Aside0.mk (show w.heap.size≤g1 from by omega);clear hb1 hbox hg) | ((with_reducible refine gate_dst (N:=2) rfl ?_);refine box_event ?hg (N:=2) ?hd (cs:=#[.int .i64 0,.int .i64 0,.string (⟨#[]⟩:ByteArray),.slice none 0 0,.slice none 0 0]) (t:=25) ?hr ?_;(case hd=>rfl);(case hg=>rfl);(case hr=>first | (go_simp;done) | (go_simp;rfl));intro g2 hg w2 hbox hb1;have BY2:=Aside0.mk hbox;have BX2:=Aside0.mk (blk_below BX1.out hb1);have HB2:=Aside0.mk (below_step HB1.out hb1);have GE2:=Aside0.mk (show w.heap.size≤g2 from by rw [hg];exact HB1.out.size);have NE:=Aside0.mk (show g1 ≠ g2 from by have:=blk_lt BX1.out;omega);have GW:=Aside0.mk (show g2 < w2.heap.size from blk_lt hbox);clear hb1 hbox hg;have o0:w2.cell? ⟨g1,0,none⟩=some (.int .i64 f0):=(blk_cell BX2.out 0).trans rfl;have of0:=blk_frozen BX2.out 0;have o1:w2.cell? ⟨g1,1,none⟩=some (.int .i64 f1):=(blk_cell BX2.out 1).trans rfl;have of1:=blk_frozen BX2.out 1;have o2:w2.cell? ⟨g1,2,none⟩=some (.string f2):=(blk_cell BX2.out 2).trans rfl;have of2:=blk_frozen BX2.out 2;have o3:w2.cell? ⟨g1,3,none⟩=some (.slice A3 f3.length c3):=(blk_cell BX2.out 3).trans rfl;have of3:=blk_frozen BX2.out 3;have o4:w2.cell? ⟨g1,4,none⟩=some (.slice A4 f4.length c4):=(blk_cell BX2.out 4).trans rfl;have of4:=blk_frozen BX2.out 4) | (go_at_call 27;refine (scruplelaw04_few.calls k f0 f1 f2 A3 c3 f3 A4 c4 f4 false _ ?s1 HC3.out ?s2 HC4.out HF.out).mono ?_;(case s1=>exact Kd.C_below HR3.out HB2.out);(case s2=>exact Kd.C_below HR4.out HB2.out);rintro e w3 ⟨rfl,hb3⟩;have HB3:=Aside0.mk (below_step HB2.out hb3);have BX3:=Aside0.mk (blk_below BX2.out hb3);have BY3:=Aside0.mk (blk_below BY2.out hb3);clear hb3;have p0:w3.cell? ⟨g1,0,none⟩=some (.int .i64 f0):=(blk_cell BX3.out 0).trans rfl;have pf0:=blk_frozen BX3.out 0;have p1:w3.cell? ⟨g1,1,none⟩=some (.int .i64 f1):=(blk_cell BX3.out 1).trans rfl;have pf1:=blk_frozen BX3.out 1;have p2:w3.cell? ⟨g1,2,none⟩=some (.string f2):=(blk_cell BX3.out 2).trans rfl;have pf2:=blk_frozen BX3.out 2;have p3:w3.cell? ⟨g1,3,none⟩=some (.slice A3 f3.length c3):=(blk_cell BX3.out 3).trans rfl;have pf3:=blk_frozen BX3.out 3;have p4:w3.cell? ⟨g1,4,none⟩=some (.slice A4 f4.length c4):=(blk_cell BX3.out 4).trans rfl;have pf4:=blk_frozen BX3.out 4;have q0:w3.cell? ⟨g2,0,none⟩=some (.int .i64 0):=(blk_cell BY3.out 0).trans rfl;have qf0:=blk_frozen BY3.out 0;have q1:w3.cell? ⟨g2,1,none⟩=some (.int .i64 0):=(blk_cell BY3.out 1).trans rfl;have qf1:=blk_frozen BY3.out 1;have q2:w3.cell? ⟨g2,2,none⟩=some (.string (⟨#[]⟩:ByteArray)):=(blk_cell BY3.out 2).trans rfl;have qf2:=blk_frozen BY3.out 2;have q3:w3.cell? ⟨g2,3,none⟩=some (.slice none 0 0):=(blk_cell BY3.out 3).trans rfl;have qf3:=blk_frozen BY3.out 3;have q4:w3.cell? ⟨g2,4,none⟩=some (.slice none 0 0):=(blk_cell BY3.out 4).trans rfl;have qf4:=blk_frozen BY3.out 4))
  refine bodyPost_ret (results_cell_row rfl _ _ g2 25 #[.int .i64 f0,.int .i64 f1,.string f2,.slice A3 f3.length c3,.slice A4 f4.length c4] (0,0) _ rfl (by refine blk_put (cs:=#[.int .i64 f0,.int .i64 f1,.string f2,.slice A3 f3.length c3,.slice none 0 0]) ?_ 4 _ rfl;refine blk_put (cs:=#[.int .i64 f0,.int .i64 f1,.string f2,.slice none 0 0,.slice none 0 0]) ?_ 3 _ rfl;refine blk_put (cs:=#[.int .i64 f0,.int .i64 f1,.string (⟨#[]⟩:ByteArray),.slice none 0 0,.slice none 0 0]) ?_ 2 _ rfl;refine blk_put (cs:=#[.int .i64 f0,.int .i64 0,.string (⟨#[]⟩:ByteArray),.slice none 0 0,.slice none 0 0]) ?_ 1 _ rfl;refine blk_put (cs:=#[.int .i64 0,.int .i64 0,.string (⟨#[]⟩:ByteArray),.slice none 0 0,.slice none 0 0]) ?_ 0 _ rfl; exact BY3.out) Try.underlying25 rfl (by kernel_rfl)) rfl ?_
  exact ⟨A3,c3,A4,c4,rfl,Kd.C_below HR3.out (below_set (below_set (below_set (below_set (below_set HB3.out GE2.out) GE2.out) GE2.out) GE2.out) GE2.out),HC3.out,Kd.C_below HR4.out (below_set (below_set (below_set (below_set (below_set HB3.out GE2.out) GE2.out) GE2.out) GE2.out) GE2.out),HC4.out,below_set (below_set (below_set (below_set (below_set HB3.out GE2.out) GE2.out) GE2.out) GE2.out) GE2.out,fun e_=>(by cases e_),fun _=>⟨rfl,rfl,rfl,rfl⟩⟩
theorem wt.szL.up {B:Nat}:∀ (d e:Nat) {xs:List S25},d≤e→wt.szL B d xs→wt.szL B e xs
 | 0,e,xs,_,h=>h.elim
 | d+1,0,xs,h,_=>absurd h (by omega)
 | d+1,e+1,xs,h,hs=>⟨hs.1,fun x hx=>⟨wt.szL.up d e (by omega) (hs.2 x hx).1,(hs.2 x hx).2⟩⟩
theorem wt.szL.any {x:S25} (h:Siz x):(∃ d,wt.szL 1759218604390 d x.f3)∧x.f4.length≤5 * 1759218604390+2:=by
 induction h with
 | mk x h2 h3 h4 k4 _ ih =>
 refine ⟨?_,by omega⟩
 have key:∀ l:List S25,(∀ y ∈ l,y ∈ x.f3)→∃ d,∀ y ∈ l,wt.szL 1759218604390 d y.f3∧y.f4.length≤5 * 1759218604390+2:=by
  intro l
  induction l with
  | nil=>intro _;exact ⟨0,fun y hy=>by cases hy⟩
  | cons y l ihl =>
   intro hm
   obtain ⟨d1,q1⟩:=ihl (fun z hz=>hm z (List.mem_cons_of_mem _ hz))
   obtain ⟨⟨d2,q2⟩,q3⟩:=ih y (hm y List.mem_cons_self)
   refine ⟨max d1 d2,fun z hz => ?_⟩
   rcases List.mem_cons.1 hz with rfl | hz
   ·exact ⟨wt.szL.up d2 _ (Nat.le_max_right _ _) q2,q3⟩
   ·exact ⟨wt.szL.up d1 _ (Nat.le_max_left _ _) (q1 z hz).1,(q1 z hz).2⟩
 obtain ⟨d,hd⟩:=key x.f3 (fun y hy=>hy)
 exact ⟨d+1,by omega,hd⟩
theorem wt.copiedT {x:S25} (hv:Val x) (hs:Siz x) {t:Bool} (ht:Ev (fun k=>scruplelaw04_few.f k x.f0 x.f1 x.f2 x.f3 x.f4) t) {W:World} {A3:Option Addr} {c3:Nat} {A4:Option Addr} {c4:Nat} (h3:k25.C W A3 x.f3.length x.f3) (g3:x.f3.length≤c3) (h4:Kd.string.C W A4 x.f4.length x.f4) (g4:x.f4.length≤c4) {d:Nat} (hd:wt.szL 1759218604390 d x.f3) :
  Calls Try.prog 11 #[.agg #[.int .i64 x.f0,.int .i64 x.f1,.string x.f2,.slice A3 x.f3.length c3,.slice A4 x.f4.length c4]] W fun e w'=>∃ (A5:Option Addr) (c5:Nat) (A6:Option Addr) (c6:Nat),e=.returned (.agg #[.int .i64 x.f0,.int .i64 x.f1,.string x.f2,.slice A5 x.f3.length c5,.slice A6 x.f4.length c6])∧k25.C w' A5 x.f3.length x.f3∧x.f3.length≤c5∧Kd.string.C w' A6 x.f4.length x.f4∧x.f4.length≤c6∧Below W.heap.size W w' ∧
   (t=true→wt.VRow w' (fun k=>W.heap.size≤k∧k < w'.heap.size) d (.slice A5 x.f3.length c5) x.f3∧wt.KRow w' (fun k=>W.heap.size≤k∧k < w'.heap.size) (.slice A6 x.f4.length c6) x.f4)∧(t=false→A5=A3∧c5=c3∧A6=A4∧c6=c4):=by
 obtain ⟨K1,q1⟩:=ht
 obtain ⟨K2,q2⟩:=deep_ev x hs
 refine (wt.copiedR (max K1 K2) x.f0 x.f1 x.f2 A3 c3 x.f3 A4 c4 x.f4 t W h3 g3 h4 g4 (q1 _ (Nat.le_max_left _ _)) (fun _=>q2 _ (Nat.le_max_right _ _))).mono ?_
 rintro e w' ⟨A5,c5,A6,c6,rfl,r1,r2,r3,r4,r5,r6,r7⟩
 exact ⟨A5,c5,A6,c6,rfl,r1,r2,r3,r4,r5,fun ht=>⟨wt.VRow.of_R d (Kd.R_bound (r6 ht).1) (fun k hk=>⟨hk.2.1,hk.2.2.1⟩) (wt.szL.deep d hd),wt.KRow.of_R (Kd.R_bound (r6 ht).2) (fun k hk=>⟨hk.2.1,hk.2.2.1⟩)⟩,r7⟩
end
end Go.Proofs.Ytnkbobblnhaclaa.X
namespace Go.Proofs.Ytnkbobblnhaclaa.X
open Go.RowKit Go.Proofs.YtnkbobblnhaclaaW.PrintWords Go.Proofs.YtnkbobblnhaclaaW.PrintLast Go.Proofs.YtnkbobblnhaclaaW.PrintMore Go.Proofs.YtnkbobblnhaclaaW
section
set_option maxHeartbeats 4000000
set_option maxRecDepth 100000
structure wt.OneB (A:Option Addr) (w w':World):Prop where
 os:w'.os=w.os
 tape:w'.tape=w.tape
 output:w'.output=w.output
 size:w.heap.size≤w'.heap.size
 block:∀ k,k < w.heap.size→(∀ ad,A=some ad→ad.block ≠ k)→w'.heap[k]?=w.heap[k]?
theorem wt.OneB.refl (A:Option Addr) (w:World):wt.OneB A w w:=⟨rfl,rfl,rfl,Nat.le_refl _,fun _ _ _=>rfl⟩
theorem wt.OneB.grown {A:Option Addr} {w w1 w2:World} {row:Option Nat} (h:wt.OneB A w w1) (hg:w1.grownBy w2 row) (hr:∀ k,row=some k→k < w.heap.size→∃ ad,A=some ad∧ad.block=k):wt.OneB A w w2 :=
 ⟨hg.os.trans h.os,hg.tape.trans h.tape,hg.output.trans h.output,Nat.le_trans h.size hg.size,fun k hk hn=>(hg.block k (Nat.lt_of_lt_of_le hk h.size) (fun e=>by
  obtain ⟨ad,hA,hb⟩:=hr k e.symm hk
  exact hn ad hA hb)).trans (h.block k hk hn)⟩
theorem wt.OneB.below {A:Option Addr} {w w1 w2:World} (h:wt.OneB A w w1) (hb:Below w1.heap.size w1 w2):wt.OneB A w w2 :=
 ⟨hb.os.trans h.os,hb.tape.trans h.tape,hb.output.trans h.output,Nat.le_trans h.size hb.size,fun k hk hn=>(hb.block k (Nat.lt_of_lt_of_le hk h.size)).trans (h.block k hk hn)⟩
theorem wt.OneB.put {A:Option Addr} {w w1:World} {b:Nat} (h:wt.OneB A w w1) (hA:A=some ⟨b,0,none⟩) (k:Nat) (v:Value):wt.OneB A w (w1.setCell ⟨b,k,none⟩ v) :=
 have e:=(Below.refl 0 w1).setCell (p:=⟨b,k,none⟩) (Nat.zero_le _) v
 ⟨e.os.trans h.os,e.tape.trans h.tape,e.output.trans h.output,by rw [Deep.nblk_setCell];exact h.size,fun i hi hn=>(Below.heap_setCell w1 ⟨b,k,none⟩ v i (fun e=>hn _ hA e.symm)).trans (h.block i hi hn)⟩
section
variable {P:Program} {ops:Array Oper} {rest:List Oper} {o:Oper} {a:Act} {Q:Exit→Act→World→Prop}
theorem wt.append_one {W:World} (hgd:o.guard=none) (s x:Operand) (t e:TypeId) (ho:o.op=.call { callee:=.builtin .append,args:=#[s,x],argTypes:=#[t,t] })
  (ht:P.underlying t=some (.slice e)) (hinfo:(P.info? e).map (fun i=>(i.zero,i.size,i.bytes))=some (some (.int .u8 0),1,1)) {A:Option Addr} {xs:List Int} {n:Nat} {y:Int}
  (hs:a.eval s=.slice A n n) (hx:a.eval x=.slice (some ⟨W.heap.size,0,none⟩) 1 1) (HA:(Kd.int .u8).C W A xs.length xs) (hn:n=xs.length) (hl:xs.length+1≤140737488355328)
  (h:∀ v' w1,(Kd.int .u8).R e w1 W.heap.size (fun _=>True) v' (xs ++ [y])→Below W.heap.size W w1→wpList P ops Q rest (a.put o.dst v') w1):wpList P ops Q (o :: rest) a (W.alloc (.cells #[.int .u8 y] e)):=by
 subst hn
 obtain ⟨i0,hi,hzz⟩:=Option.map_eq_some_iff.1 hinfo
 simp only [Prod.mk.injEq] at hzz
 obtain ⟨hz0,hz1,hz2⟩:=hzz
 have HB0:Below W.heap.size W (W.alloc (.cells #[.int .u8 y] e)):=(Below.refl _ _).alloc (Nat.le_refl _) _
 have RA:ReadsOf (Value.int .u8) (0:Int) (W.alloc (.cells #[.int .u8 y] e)) A xs.length xs:=Kd.reads_of_C (enc:=Value.int .u8) (d:=(0:Int)) (h1:=fun _=>rfl) (Kd.C_below HA HB0)
 refine wpList_append_grows (W.alloc (.cells #[.int .u8 y] e)) hgd s x t ho e i0 (.int .u8 0) 1 1 ht hi hz0 hz1 hz2 rfl (by decide) A xs.length xs.length (encs (Value.int .u8) xs) hs ?_ (by simp [encs]) ?_ ⟨W.heap.size,0,none⟩ 1 1 [.int .u8 y] hx rfl ?_ ?_ (by omega) (by simp only [maxLen];omega) (by omega) ?_
 ·intro e0
  subst e0
  have:xs.length=0:=by
   rcases Nat.eq_zero_or_pos xs.length with h | h
   ·exact h
   ·obtain ⟨_,h',_⟩:=RA.2.2 h
    cases h'
  exact ⟨this,this⟩
 ·intro b hb j u hu
  subst hb
  have hj:j < xs.length:=by
   rcases Nat.lt_or_ge j xs.length with h | h
   ·exact h
   ·simp [encs,List.getElem?_eq_none h] at hu
  obtain ⟨ad',h',hc⟩:=RA.2.2 (by omega)
  injection h' with h'
  subst h'
  rw [encs_get (d:=(0:Int)) xs j hj] at hu
  rw [← hu]
  exact hc j (by omega)
 ·intro j u hu
  have hq:=heap_alloc_new W (.cells #[.int .u8 y] e)
  match j,hu with
  | 0,hu =>
   simp at hu
   subst hu
   exact (blk_cell hq 0).trans rfl
  | j+1,hu=>simp at hu
 ·intro u hu
  simp at hu
  subst hu
  rfl
 ·intro v' w' hown hg
  have hr:(Kd.int .u8).R e w' (W.alloc (.cells #[.int .u8 y] e)).heap.size (fun _=>True) v' (xs ++ [y]):=Kd.R_of_own (enc:=Value.int .u8) (h1:=fun _=>rfl) (by simpa [encs] using hown) (fun _ _=>trivial)
  exact h v' w' (Kd.R_lower hr HB0.size) (Below.grown HB0 hg HB0.size (fun k hk=>by cases hk))
end
def wt.Wd (w wr:World) (A:Option Addr) (n k:Nat) (v:Value):Prop:=(k=0∧v=.slice A n n) ∨ (0 < k∧∃ ys,ys.length=n+k∧(Kd.int .u8).R 5 wr w.heap.size (fun q=>w.heap.size≤q) v ys)
theorem wt.wd_wr {k n:Nat} (h:k < n) (hn:n≤140737488355328):wrap64 ((k:Int)+1)=(k:Int)+1:=by unfold wrap64;omega
theorem wt.C_own2 {W W1:World} {A:Option Addr} {bs:List Int} {v:Value} (h:(Kd.int .u8).C W A bs.length bs) (hg:W.grownBy W1 v.ownBlock) (hf:∀ ad,A=some ad→∀ g,v.ownBlock=some g→ad.block ≠ g):(Kd.int .u8).C W1 A bs.length bs:=by
 cases hv:v.ownBlock with
 | none =>
  rw [hv] at hg
  exact Kd.C_below h (Below.grown (Below.refl _ _) hg (Nat.le_refl _) (fun k hk=>by cases hk))
 | some g =>
  rw [hv] at hg
  exact Kd.C_keep (enc:=Value.int .u8) (h1:=fun _=>rfl) (0:Int) h ⟨hg.size,fun i hi hne _=>hg.block i hi (fun e=>hne (Option.some.inj e))⟩ (fun ad hA _=>hf ad hA g hv)
theorem wt.cellW {W:World} {A:Option Addr} {n cap base j:Nat} (h:∃ xs,(Kd.int .u8).R 5 W base (fun _=>True) (.slice A n cap) xs) (hj:j < n) :
  ∃ b old,A=some ⟨b,0,none⟩∧W.cell? ⟨b,j,none⟩=some (.int .u8 old)∧W.frozen? ⟨b,j,none⟩=false∧∃ xs,(Kd.int .u8).R 5 (W.setCell ⟨b,j,none⟩ (.int .u8 255)) base (fun _=>True) (.slice A n cap) xs:=by
 obtain ⟨xs,hr⟩:=h
 have hx:=Kd.R_reads' hr
 obtain ⟨b,cap',e1,_,_,cells,hcl⟩:=Kd.R_form hr (by omega)
 injection e1 with e1 e2 e3
 subst e1
 obtain ⟨ad,ea,hz⟩:=Kd.at_int hx.2.2 (j:Int) (by omega) (by omega)
 have ea:=Option.some.inj ea
 rw [← ea,Int.toNat_natCast,Addr.add_lit,Nat.zero_add] at hz
 exact ⟨b,_,rfl,hz,blk_frozen hcl j,_,(Kd.R_putn (enc:=Value.int .u8) (h1:=fun _=>rfl) hr (j:Int) 255)⟩
theorem wt.wiped20 {w:World} {A:Option Addr} {n cap base:Nat} {xs:List Int} (hR:(Kd.int .u8).R 5 w base (fun _=>True) (.slice A n cap) xs) (hn:n≤140737488300000) :
  Calls Try.prog 20 #[.slice A n n] w fun e w'=>e=.returned (.tuple #[])∧wt.OneB A w w':=by
 have info5:(Try.prog.info? 5).map (fun i=>(i.zero,i.size,i.bytes))=some (some (.int .u8 0),1,1):=by kernel_rfl
 have HR0:=Aside0.mk (show ∃ xs,(Kd.int .u8).R 5 w base (fun _=>True) (.slice A n cap) xs from ⟨xs,hR⟩)
 have HN:=Aside0.mk hn
 have HA:=Aside0.mk (show ∀ ad,A=some ad→ad.block < w.heap.size from fun ad e_=>Kd.R_lt hR ad.block (by rw [e_];rfl))
 clear hR hn
 go_enter Try.func20,Try.ntmps20
 go_wp2
 go_loopw [2] (fun v2 wr=>∃ j:Nat,v2=.int .i64 (j:Int)∧Aside0 (j≤n)∧Aside0 (∃ xs,(Kd.int .u8).R 5 wr base (fun _=>True) (.slice A n cap) xs)∧Aside0 (wt.OneB A w wr)) (fun v2 _=>n - (intOf v2).toNat)
 case atStart=>exact ⟨0,rfl,⟨Nat.zero_le _⟩,HR0,⟨wt.OneB.refl _ _⟩⟩
 case round =>
  clear HR0
  obtain ⟨j,rfl,HJ,HR,HO⟩:=hrel
  by_cases hlt:j < n
  ·have q1:decide ((j:Int) < (n:Int))=true:=decide_eq_true (by omega)
   have q3:decide (j < n)=true:=decide_eq_true hlt
   have q4:(j < n)=True:=eq_true hlt
   have t5:(j:Int) < (n:Int):=by omega
   have HWR:=Aside0.mk (wt.wd_wr hlt (by have:=HN.out;omega))
   have HM:=Aside0.mk (wt.meas j n hlt HWR.out)
   have HJ1:=Aside0.mk (show j+1≤n from hlt)
   obtain ⟨b,old,ea,hz,zf,hp⟩:=wt.cellW HR.out hlt
   subst ea
   have HP:=Aside0.mk hp
   have HO1:=Aside0.mk (HO.out.put rfl j (.int .u8 255))
   clear hlt hp HR
   go_wp2
   go_roundw
   case rel=>exact ⟨j+1,by rw [HWR.out];rfl,HJ1,HP,HO1⟩
   case measure=>exact HM.out
  ·have q1:decide ((j:Int) < (n:Int))=false:=decide_eq_false (by omega)
   have q3:decide (j < n)=false:=decide_eq_false hlt
   have q4:(j < n)=False:=eq_false hlt
   clear hlt
   go_wp2
   go_loopw [3,0] (fun v3 v0 wr2=>∃ (k:Nat) (v:Value),v3=.int .i64 (k:Int)∧v=v0∧Aside0 (k≤40)∧Aside0 (wt.Wd w wr2 A n k v)∧Aside0 (∃ xs,(Kd.int .u8).C wr2 A xs.length xs∧n=xs.length)∧Aside0 (wt.OneB A w wr2)) (fun v3 _ _=>40 - (intOf v3).toNat)
   case atStart=>exact ⟨0,_,rfl,rfl,⟨Nat.zero_le _⟩,⟨Or.inl ⟨rfl,rfl⟩⟩,⟨by
    obtain ⟨ys,hr⟩:=HR.out
    have hx:=Kd.R_reads' hr
    exact ⟨ys,hx.2.2,hx.1⟩⟩,HO⟩
   case round =>
    clear HR HO
    obtain ⟨k,v,rfl,rfl,HK,HW,HC,HO⟩:=hrel
    by_cases hk:k < 40
    ·have i1:decide ((k:Int) < 40)=true:=decide_eq_true (by omega)
     have i3:((k:Int) < 40)=True:=eq_true (by omega)
     have HWR:=Aside0.mk (wt.wd_wr hk (by omega))
     have HM:=Aside0.mk (wt.meas k 40 hk HWR.out)
     have HK1:=Aside0.mk (show k+1≤40 from hk)
     obtain ⟨zs,hzc,hzn⟩:=HC.out
     have HZ:=Aside0.mk hzc
     have HZN:=Aside0.mk hzn
     rcases HW.out with ⟨k0,hv⟩ | ⟨k0,ys,hyl,hr⟩
     ·subst hv
      subst k0
      clear HWR HM HK1 i1 i3
      have HL:=Aside0.mk (show zs.length+1≤140737488355328 by have:=HN.out;omega)
      clear hk hzc hzn HC
      go_wp2_with (first | ((with_reducible refine gate_builtin (b:=.append) (xs:=#[.tmp 17,.tmp 18]) rfl ?_);refine wt.append_one rfl (.tmp 17) (.tmp 18) 26 5 rfl Try.underlying26 info5 rfl rfl HZ.out HZN.out HL.out ?_;intro v1 w1 hr hb;have HR1:=Aside0.mk hr;have HB1:=Aside0.mk hb;clear hr hb))
      go_roundw
      case rel=>exact ⟨1,_,rfl,rfl,⟨by decide⟩,⟨Or.inr ⟨by decide,_,by rw [List.length_append,List.length_singleton,← HZN.out],Kd.R_lower (Kd.R_mono (Kd.R_tight rfl HR1.out) (fun q hq=>Nat.le_trans HO.out.size (Kd.R_base HR1.out q hq.symm))) HO.out.size⟩⟩,⟨zs,Kd.C_below HZ.out HB1.out,HZN.out⟩,⟨HO.out.below HB1.out⟩⟩
      case measure=>decide
     ·have HRR:=Aside0.mk hr
      have HL:=Aside0.mk (show (ys.length+1) * 1≤140737488355328 by have:=HN.out;omega)
      have HYL:=Aside0.mk hyl
      clear hk hzc hzn hr hyl HC
      go_wp2_with (first | ((with_reducible refine gate_builtin (b:=.append) (xs:=#[.tmp 17,.tmp 18]) rfl ?_);refine Kd.R_append (Kd.int .u8) w.heap.size rfl (.tmp 17) (.tmp 18) 26 5 (.int .u8 0) 1 rfl Try.underlying26 info5 rfl (show (0:Nat) < 1 by decide) (by decide) v ys 255 [.int .u8 255] (fun q=>w.heap.size≤q) (fun _=>False) rfl rfl rfl (fun _ h=>h.elim) (fun q hq=>Nat.le_trans HO.out.size hq) HRR.out (Below.refl _ _) HO.out.size HL.out ?_;intro v1 w1 hr hb hg hat;have HR1:=Aside0.mk hr;have HG1:=Aside0.mk hg;clear hr hb hg hat))
      go_roundw
      case rel=>exact ⟨k+1,_,by rw [HWR.out];rfl,rfl,HK1,⟨Or.inr ⟨Nat.succ_pos _,_,by rw [List.length_append,List.length_singleton,HYL.out];omega,HR1.out⟩⟩,⟨zs,wt.C_own2 HZ.out HG1.out (fun ad hA g hg=>by have:=HA.out ad hA;have:=HRR.out.1 g hg;omega),HZN.out⟩,⟨HO.out.grown HG1.out (fun q hq hl=>by have:=HRR.out.1 q hq;omega)⟩⟩
      case measure=>exact HM.out
    ·have i1:decide ((k:Int) < 40)=false:=decide_eq_false (by omega)
     have i3:((k:Int) < 40)=False:=eq_false (by omega)
     clear hk
     go_wp2
     go_end0
     exact ⟨rfl,HO.out⟩
end
end Go.Proofs.Ytnkbobblnhaclaa.X
namespace Go.Proofs.Ytnkbobblnhaclaa.X
open Go.RowKit Go.Proofs.YtnkbobblnhaclaaW.PrintWords Go.Proofs.YtnkbobblnhaclaaW.PrintLast Go.Proofs.YtnkbobblnhaclaaW.PrintMore Go.Proofs.YtnkbobblnhaclaaW
section
set_option maxHeartbeats 4000000
set_option maxRecDepth 100000
open Go.Proofs.Ytnkbobblnhaclaa
theorem wt.puts_told (x:S25) (hv:Val x) (bs:List Int) (hb:bs.length≤1048576):∃ (r:List Int) (e0 n:Int),Ev (fun k=>wire_Put.f k bs x.f0 x.f1 x.f2 x.f3 x.f4) (r,e0)∧Ev (fun k=>scrupleref04_Put.f k bs x.f0 x.f1 x.f2 x.f3 x.f4) (r,e0)∧Ev (fun k=>wire_Length.f k x.f0 x.f1 x.f2 x.f3 x.f4) n∧Ev (fun k=>scrupleref04_Length.f k x.f0 x.f1 x.f2 x.f3 x.f4) n∧r.length≤2000000:=by
 rcases wt.put_told x hv with ⟨hr,h1,h2,h3⟩ | ⟨hr,h1,h2,h3⟩
 ·have hF:=wt.okV_frm 8 x hr.1
  have hl:=wt.en_few x hv hr
  have hp:=rput_ev x hv hF bs (by omega)
  have hq:Ev (fun k=>scrupleref04_Put.f k bs x.f0 x.f1 x.f2 x.f3 x.f4) (bs ++ en x,0):=by
   refine Ev.bind (F:=fun k ok=>if ok=true then (if bs.length≤140737488355328 then (scrupleref04_put.f k bs x.f0 x.f1 x.f2 x.f3 x.f4).bind fun r=>some (r,0) else none) else some ([],40)) h1 ?_
   refine Ev.congr (Ev.bind (F:=fun k r=>some (r,0)) hp Ev.const) (fun k => ?_)
   rw [if_pos rfl,if_pos (by omega)]
   rfl
  have he:=rencode_ev x hv hF h1 (by omega)
  have hL:Ev (fun k=>(scrupleref04_Encode.f k x.f0 x.f1 x.f2 x.f3 x.f4).bind fun r=>some (r.1.length:Int)) ((en x).length:Int):=Ev.bind (F:=fun _ (r:List Int × Int)=>some (r.1.length:Int)) he Ev.const
  exact ⟨bs ++ en x,0,_,h3 bs (by omega),hq,h2,hL,by rw [List.length_append];omega⟩
 ·have hq:Ev (fun k=>scrupleref04_Put.f k bs x.f0 x.f1 x.f2 x.f3 x.f4) ([],40):=by
   refine Ev.bind (F:=fun k ok=>if ok=true then (if bs.length≤140737488355328 then (scrupleref04_put.f k bs x.f0 x.f1 x.f2 x.f3 x.f4).bind fun r=>some (r,0) else none) else some ([],40)) h1 ?_
   exact Ev.congr Ev.const (fun k=>by rw [if_neg (by simp)])
  have he:=rencode_no x h1
  have hL:Ev (fun k=>(scrupleref04_Encode.f k x.f0 x.f1 x.f2 x.f3 x.f4).bind fun r=>some (r.1.length:Int)) 0:=Ev.bind (F:=fun _ (r:List Int × Int)=>some (r.1.length:Int)) he Ev.const
  exact ⟨[],40,0,h3 bs,hq,h2,hL,by simp⟩
theorem wt.z_val:Val z25:=.mk z25 (by decide) (by decide) (by decide) (by decide) (by decide) (by decide) (by decide) (fun s hs=>by cases hs) (fun y hy=>by cases hy)
theorem wt.z_rt:wt.Rt z25:=by
 refine ⟨wt.okV.mk (d:=7) (f0:=0) (f1:=0) (f2:=⟨#[]⟩) (f3:=[]) (f4:=[]) (by unfold value_form.b;simp [wrap64]) (fun h=>absurd h (by decide)) (fun y hy=>by cases hy), ?_⟩
 rw [show wt z25=1+(⟨#[]⟩:ByteArray).size from wt.wt_leaf 0 0 ⟨#[]⟩]
 decide
theorem wt.put_unit (bs:List Int) (hb:bs.length≤1048576):Ev (fun k=>wire_Put.f k bs 0 0 (⟨#[]⟩:ByteArray) [] []) (bs ++ [0],0):=by
 rcases wt.put_told z25 wt.z_val with ⟨_,_,_,h3⟩ | ⟨hr,_⟩
 ·have:=h3 bs (by omega)
  rw [en0 (x:=z25) rfl] at this
  exact this
 ·exact absurd wt.z_rt hr
theorem wt.C_blk {W W1:World} {A:Option Addr} {bs:List Int} (h:(Kd.int .u8).C W A bs.length bs) (hs:∀ ad,A=some ad→ad.block < W.heap.size→W1.heap[ad.block]?=W.heap[ad.block]?):(Kd.int .u8).C W1 A bs.length bs:=by
 have hr:ReadsOf (Value.int .u8) (0:Int) W A bs.length bs:=Kd.reads_of_C (enc:=Value.int .u8) (d:=(0:Int)) (h1:=fun _=>rfl) h
 refine Kd.C_of_reads (enc:=Value.int .u8) (d:=(0:Int)) (h1:=fun _=>rfl) ⟨hr.1,hr.2.1,fun hp => ?_⟩
 obtain ⟨ad,e,hc⟩:=hr.2.2 hp
 refine ⟨ad,e,fun j hj => ?_⟩
 have hq:=hc j hj
 have e2:(ad.add j).block=ad.block:=by unfold Addr.add;split <;> rfl
 have hlt:ad.block < W.heap.size:=by rw [← e2];exact qs4 W (ad.add j) hq
 have h6:=hs ad e hlt
 rw [← hq]
 simp [World.cell?,e2,h6]
structure wt.Q3 (w W:World) (nb:Nat) (xs r:List Int) (ba capa:Nat) (Aq Aw:Option Addr):Prop where
 all:(Kd.int .u8).R 5 W w.heap.size (fun _=>True) (.slice (some ⟨ba,0,none⟩) (nb+40) capa) xs
 q:(Kd.int .u8).C W Aq r.length r
 wn:(Kd.int .u8).C W Aw r.length r
 b:Below w.heap.size w W
 oq:∀ ad,Aq=some ad→ba < ad.block
 ow:∀ ad,Aw=some ad→ba < ad.block
section
variable {w W W1:World} {nb:Nat} {xs r:List Int} {ba capa:Nat} {Aq Aw:Option Addr}
theorem wt.Q3.to (h:wt.Q3 w W nb xs r ba capa Aq Aw) (hb:Below w.heap.size w W1) (hs:∀ k,k < W.heap.size→k=ba ∨ (∃ ad,Aq=some ad∧ad.block=k) ∨ (∃ ad,Aw=some ad∧ad.block=k)→W1.heap[k]?=W.heap[k]?):wt.Q3 w W1 nb xs r ba capa Aq Aw :=
 ⟨Kd.R_mono (Kd.R_step (Kd.R_tight rfl h.all) (fun k hk hlt=>hs k hlt (Or.inl (Option.some.inj (hk.trans rfl))))) (fun _ _=>trivial),wt.C_blk h.q (fun ad e hl=>hs _ hl (Or.inr (Or.inl ⟨ad,e,rfl⟩))),wt.C_blk h.wn (fun ad e hl=>hs _ hl (Or.inr (Or.inr ⟨ad,e,rfl⟩))),hb,h.oq,h.ow⟩
theorem wt.Q3.below (h:wt.Q3 w W nb xs r ba capa Aq Aw) (hb:Below W.heap.size W W1):wt.Q3 w W1 nb xs r ba capa Aq Aw :=
 h.to (below_then h.b h.b.size hb) (fun k hk _=>hb.block k hk)
end
structure wt.Q2 (w W:World) (nb:Nat) (xs r:List Int) (ba capa:Nat) (Aq Aw:Option Addr) (lo b6 d:Nat) (t:Bool) (x:S25) (A3:Option Addr) (c3:Nat) (A4:Option Addr) (c4:Nat) (A5:Option Addr) (c5:Nat) (A6:Option Addr) (c6:Nat):Prop where
 bx:W.heap[b6]?=some (.cells #[.int .i64 x.f0,.int .i64 x.f1,.string x.f2,.slice A5 x.f3.length c5,.slice A6 x.f4.length c6] 25 (0,0))
 tr:t=true→wt.VRow W (fun k=>lo≤k∧k < b6) d (.slice A5 x.f3.length c5) x.f3∧wt.KRow W (fun k=>lo≤k∧k < b6) (.slice A6 x.f4.length c6) x.f4
 eq:t=false→A5=A3∧c5=c3∧A6=A4∧c6=c4
 r3:wt.Q3 w W nb xs r ba capa Aq Aw
 o1:w.heap.size≤lo
 o2:b6 < ba
section
variable {w W W1:World} {nb:Nat} {xs r:List Int} {ba capa:Nat} {Aq Aw:Option Addr} {lo b6 d:Nat} {t:Bool} {x:S25} {A3:Option Addr} {c3:Nat} {A4:Option Addr} {c4:Nat} {A5:Option Addr} {c5:Nat} {A6:Option Addr} {c6:Nat}
theorem wt.Q2.rows (h:wt.Q2 w W nb xs r ba capa Aq Aw lo b6 d t x A3 c3 A4 c4 A5 c5 A6 c6) (h3:k25.C w A3 x.f3.length x.f3) (g3:x.f3.length≤c3) (h4:Kd.string.C w A4 x.f4.length x.f4) (g4:x.f4.length≤c4):k25.C W A5 x.f3.length x.f3∧x.f3.length≤c5∧Kd.string.C W A6 x.f4.length x.f4∧x.f4.length≤c6:=by
 cases t with
 | true =>
  have q:=h.tr rfl
  exact ⟨q.1.CC.2.2,q.1.CC.2.1,q.2.CC.2.2,q.2.CC.2.1⟩
 | false =>
  obtain ⟨rfl,rfl,rfl,rfl⟩:=h.eq rfl
  exact ⟨Kd.C_below h3 h.r3.b,g3,Kd.C_below h4 h.r3.b,g4⟩
theorem wt.Q2.below (h:wt.Q2 w W nb xs r ba capa Aq Aw lo b6 d t x A3 c3 A4 c4 A5 c5 A6 c6) (hb:Below W.heap.size W W1):wt.Q2 w W1 nb xs r ba capa Aq Aw lo b6 d t x A3 c3 A4 c4 A5 c5 A6 c6 :=
 ⟨blk_below h.bx hb,fun ht=>⟨wt.VRow.move (fun _ q=>q) (fun k _ hl=>hb.block k hl) d (h.tr ht).1,(h.tr ht).2.move (fun _ q=>q) (fun k _ hl=>hb.block k hl)⟩,h.eq,h.r3.below hb,h.o1,h.o2⟩
theorem wt.Q2.over (h:wt.Q2 w W nb xs r ba capa Aq Aw lo b6 d t x A3 c3 A4 c4 A5 c5 A6 c6) {mark:ByteArray} (hs:wt.SimW (fun k=>lo≤k∧k < b6) mark W W1):wt.Q3 w W1 nb xs r ba capa Aq Aw:=by
 have hb:=h.r3.b
 refine h.r3.to ⟨hs.os.trans hb.os,hs.tape.trans hb.tape,hs.output.trans hb.output,Nat.le_trans hb.size hs.size,fun k hk=>(hs.out k (Nat.lt_of_lt_of_le hk hb.size) (fun y=>by have:=h.o1;omega)).trans (hb.block k hk)⟩ (fun k hk hc=>hs.out k hk (fun y => ?_))
 have:=h.o2
 rcases hc with rfl | ⟨ad,e,rfl⟩ | ⟨ad,e,rfl⟩
 ·omega
 ·have:=h.r3.oq ad e;omega
 ·have:=h.r3.ow ad e;omega
theorem wt.Q2.call21 (h:wt.Q2 w W nb xs r ba capa Aq Aw lo b6 d t x A3 c3 A4 c4 A5 c5 A6 c6) (h3:k25.C w A3 x.f3.length x.f3) (g3:x.f3.length≤c3) (h4:Kd.string.C w A4 x.f4.length x.f4) (g4:x.f4.length≤c4) (hS:wt.szL 1759218604390 d x.f3) (hk:x.f4.length≤5 * 1759218604390+2) {kf:Nat} (hf:scruplelaw04_few.f kf x.f0 x.f1 x.f2 x.f3 x.f4=some t) (mark:ByteArray) :
  Calls Try.prog 21 #[.agg #[.int .i64 x.f0,.int .i64 x.f1,.string x.f2,.slice A5 x.f3.length c5,.slice A6 x.f4.length c6],.string mark] W fun e w'=>e=.returned (.tuple #[])∧wt.Q3 w w' nb xs r ba capa Aq Aw:=by
 have hr:=h.rows h3 g3 h4 g4
 cases t with
 | true=>exact (wt.over1 (Y:=fun k=>lo≤k∧k < b6) (mark:=mark) (B:=1759218604390) (Nat.le_refl _) x _ _ W (fun k hk=>Nat.lt_trans hk.2 (blk_lt h.bx)) (h.tr rfl).1 (h.tr rfl).2 hS hk hf).mono (fun e w' q=>⟨q.1,h.over q.2⟩)
 | false=>exact (wt.over0 (Y:=fun k=>lo≤k∧k < b6) (mark:=mark) x A5 c5 A6 c6 W hr.1 hr.2.1 hr.2.2.1 hr.2.2.2 hf).mono (fun e w' q=>⟨q.1,h.over q.2⟩)
end
structure wt.Q1 (w W:World) (nb:Nat) (xs r:List Int) (ba capa:Nat) (Aq Aw:Option Addr) (lo b6 d:Nat) (t:Bool) (x:S25) (A3:Option Addr) (c3:Nat) (A4:Option Addr) (c4:Nat) (A5:Option Addr) (c5:Nat) (A6:Option Addr) (c6:Nat) (Ap:Option Addr) (cp:Nat):Prop where
 p:(Kd.int .u8).R 5 W w.heap.size (fun _=>True) (.slice Ap r.length cp) r
 r2:wt.Q2 w W nb xs r ba capa Aq Aw lo b6 d t x A3 c3 A4 c4 A5 c5 A6 c6
 p1:∀ ad,Ap=some ad→ba < ad.block
 p2:∀ ad ad',Ap=some ad→Aq=some ad'→ad.block < ad'.block
 p3:∀ ad ad',Ap=some ad→Aw=some ad'→ad.block < ad'.block
section
variable {w W W1:World} {nb:Nat} {xs r:List Int} {ba capa:Nat} {Aq Aw:Option Addr} {lo b6 d:Nat} {t:Bool} {x:S25} {A3:Option Addr} {c3:Nat} {A4:Option Addr} {c4:Nat} {A5:Option Addr} {c5:Nat} {A6:Option Addr} {c6:Nat} {Ap:Option Addr} {cp:Nat}
theorem wt.Q1.below (h:wt.Q1 w W nb xs r ba capa Aq Aw lo b6 d t x A3 c3 A4 c4 A5 c5 A6 c6 Ap cp) (hb:Below W.heap.size W W1):wt.Q1 w W1 nb xs r ba capa Aq Aw lo b6 d t x A3 c3 A4 c4 A5 c5 A6 c6 Ap cp :=
 ⟨Kd.R_below h.p hb,h.r2.below hb,h.p1,h.p2,h.p3⟩
theorem wt.Q1.wiped (h:wt.Q1 w W nb xs r ba capa Aq Aw lo b6 d t x A3 c3 A4 c4 A5 c5 A6 c6 Ap cp) (hO:wt.OneB Ap W W1):wt.Q2 w W1 nb xs r ba capa Aq Aw lo b6 d t x A3 c3 A4 c4 A5 c5 A6 c6:=by
 have hb:=h.r2.r3.b
 have o2:=h.r2.o2
 have same:∀ k,k < W.heap.size→k≤ba→W1.heap[k]?=W.heap[k]?:=fun k hk hle=>hO.block k hk (fun ad e=>by have:=h.p1 ad e;omega)
 refine ⟨(same _ (blk_lt h.r2.bx) (by omega)).trans h.r2.bx,fun ht=>⟨wt.VRow.move (fun _ q=>q) (fun k hk hl=>same k hl (by omega)) d (h.r2.tr ht).1,(h.r2.tr ht).2.move (fun _ q=>q) (fun k hk hl=>same k hl (by omega))⟩,h.r2.eq,h.r2.r3.to ⟨hO.os.trans hb.os,hO.tape.trans hb.tape,hO.output.trans hb.output,Nat.le_trans hb.size hO.size,fun k hk=>(hO.block k (Nat.lt_of_lt_of_le hk hb.size) (fun ad e=>by have:=Kd.R_base h.p ad.block (by rw [e];rfl);omega)).trans (hb.block k hk)⟩ (fun k hk hc=>hO.block k hk (fun ad e => ?_)),h.r2.o1,h.r2.o2⟩
 rcases hc with rfl | ⟨ad',e',rfl⟩ | ⟨ad',e',rfl⟩
 ·have:=h.p1 ad e;omega
 ·have:=h.p2 ad ad' e e';omega
 ·have:=h.p3 ad ad' e e';omega
end
end
end Go.Proofs.Ytnkbobblnhaclaa.X
namespace Go.Proofs.Ytnkbobblnhaclaa.X
open Go.RowKit Go.Proofs.YtnkbobblnhaclaaW.PrintWords Go.Proofs.YtnkbobblnhaclaaW.PrintLast Go.Proofs.YtnkbobblnhaclaaW.PrintMore Go.Proofs.YtnkbobblnhaclaaW
section
set_option maxHeartbeats 4000000
set_option maxRecDepth 100000
open Go.Proofs.Ytnkbobblnhaclaa
theorem wt.same13v {W:World} {x:S25} (hv:Val x) (hs:Siz x) {A3:Option Addr} {c3:Nat} {A4:Option Addr} {c4:Nat} {B3:Option Addr} {d3:Nat} {B4:Option Addr} {d4:Nat} (h3:k25.C W A3 x.f3.length x.f3) (g3:x.f3.length≤c3) (h4:Kd.string.C W A4 x.f4.length x.f4) (g4:x.f4.length≤c4) (j3:k25.C W B3 x.f3.length x.f3) (i3:x.f3.length≤d3) (j4:Kd.string.C W B4 x.f4.length x.f4) (i4:x.f4.length≤d4) :
  Calls Try.prog 13 #[wt.vl x A3 c3 A4 c4,wt.vl x B3 d3 B4 d4] W fun e w'=>e=.returned (.bool true)∧Below W.heap.size W w':=by
 obtain ⟨K,hK⟩:=wt.same_ok2 hv hs
 exact scruplelaw04_same.calls K x.f0 x.f1 x.f2 A3 c3 x.f3 A4 c4 x.f4 x.f0 x.f1 x.f2 B3 d3 x.f3 B4 d4 x.f4 true W h3 g3 h4 g4 j3 i3 j4 i4 hK
structure wt.Bx (W:World) (b lo:Nat) (x:S25) (A3:Option Addr) (c3:Nat) (A4:Option Addr) (c4:Nat):Prop where
 t:wt.Tr W lo b x A3 c3 A4 c4
 x:W.heap[b]?=some (.cells #[.int .i64 x.f0,.int .i64 x.f1,.string x.f2,.slice A3 x.f3.length c3,.slice A4 x.f4.length c4] 25 (0,0))
theorem wt.Bx.below {W W1:World} {b lo:Nat} {x:S25} {A3:Option Addr} {c3:Nat} {A4:Option Addr} {c4:Nat} (h:wt.Bx W b lo x A3 c3 A4 c4) (hb:Below W.heap.size W W1):wt.Bx W1 b lo x A3 c3 A4 c4 :=
 ⟨h.t.below hb (Nat.le_of_lt (blk_lt h.x)),blk_below h.x hb⟩
structure wt.Ce (W:World) (p:Addr) (x:S25) (A3:Option Addr) (c3:Nat) (A4:Option Addr) (c4:Nat):Prop where
 d0:W.cell? p=some (.int .i64 x.f0)
 d1:W.cell? ⟨p.block,p.off+1,none⟩=some (.int .i64 x.f1)
 d2:W.cell? ⟨p.block,p.off+2,none⟩=some (.string x.f2)
 d3:W.cell? ⟨p.block,p.off+3,none⟩=some (.slice A3 x.f3.length c3)
 d4:W.cell? ⟨p.block,p.off+4,none⟩=some (.slice A4 x.f4.length c4)
 l3:x.f3.length≤c3
 g3:k25.C W A3 x.f3.length x.f3
 l4:x.f4.length≤c4
 g4:Kd.string.C W A4 x.f4.length x.f4
theorem wt.Ce.below {W W1:World} {p:Addr} {x:S25} {A3:Option Addr} {c3:Nat} {A4:Option Addr} {c4:Nat} (h:wt.Ce W p x A3 c3 A4 c4) (hb:Below W.heap.size W W1):wt.Ce W1 p x A3 c3 A4 c4 :=
 ⟨(hb.cell (qs4 W _ h.d0)).trans h.d0,(hb.cell (qs4 W _ h.d1)).trans h.d1,(hb.cell (qs4 W _ h.d2)).trans h.d2,(hb.cell (qs4 W _ h.d3)).trans h.d3,(hb.cell (qs4 W _ h.d4)).trans h.d4,h.l3,Kd.C_below h.g3 hb,h.l4,Kd.C_below h.g4 hb⟩
theorem wt.Ce.of {W:World} {A:Option Addr} {xs:List S25} (h:k25.C W A xs.length xs) (j:Nat) (hj:j < xs.length):∃ ad A3 c3 A4 c4,A=some ad∧wt.Ce W (ad.add (j * 5)) (rd_T25 xs (j:Int)) A3 c3 A4 c4:=by
 obtain ⟨ad,A3,c3,A4,c4,e,h0,h1,h2,h3,h4,l3,g3,l4,g4⟩:=at_T25 h (j:Int) (by omega) (by omega)
 rw [Int.toNat_natCast] at h0 h1 h2 h3 h4
 exact ⟨ad,A3,c3,A4,c4,e,⟨h0,h1,h2,h3,h4,l3,g3,l4,g4⟩⟩
structure wt.Qa (w W:World) (lo b6 d:Nat) (t:Bool) (x:S25) (A5:Option Addr) (c5:Nat) (A6:Option Addr) (c6:Nat):Prop where
 bx:W.heap[b6]?=some (.cells #[.int .i64 x.f0,.int .i64 x.f1,.string x.f2,.slice A5 x.f3.length c5,.slice A6 x.f4.length c6] 25 (0,0))
 tr:t=true→wt.VRow W (fun k=>lo≤k∧k < b6) d (.slice A5 x.f3.length c5) x.f3∧wt.KRow W (fun k=>lo≤k∧k < b6) (.slice A6 x.f4.length c6) x.f4
 c3:k25.C W A5 x.f3.length x.f3
 l3:x.f3.length≤c5
 c4:Kd.string.C W A6 x.f4.length x.f4
 l4:x.f4.length≤c6
 b:Below w.heap.size w W
theorem wt.Qa.below {w W W1:World} {lo b6 d:Nat} {t:Bool} {x:S25} {A5:Option Addr} {c5:Nat} {A6:Option Addr} {c6:Nat} (h:wt.Qa w W lo b6 d t x A5 c5 A6 c6) (hb:Below W.heap.size W W1):wt.Qa w W1 lo b6 d t x A5 c5 A6 c6 :=
 ⟨blk_below h.bx hb,fun ht=>⟨wt.VRow.move (fun _ q=>q) (fun k _ hl=>hb.block k hl) d (h.tr ht).1,(h.tr ht).2.move (fun _ q=>q) (fun k _ hl=>hb.block k hl)⟩,Kd.C_below h.c3 hb,h.l3,Kd.C_below h.c4 hb,h.l4,below_then h.b h.b.size hb⟩
theorem wt.Qa.mk' {w W W1:World} {lo d:Nat} {t:Bool} {x:S25} {A5:Option Addr} {c5:Nat} {A6:Option Addr} {c6:Nat} (tr:t=true→wt.VRow W (fun k=>lo≤k∧k < W.heap.size) d (.slice A5 x.f3.length c5) x.f3∧wt.KRow W (fun k=>lo≤k∧k < W.heap.size) (.slice A6 x.f4.length c6) x.f4) (c3:k25.C W A5 x.f3.length x.f3) (l3:x.f3.length≤c5) (c4:Kd.string.C W A6 x.f4.length x.f4) (l4:x.f4.length≤c6) (b:Below w.heap.size w W) (bx:W1.heap[W.heap.size]?=some (.cells #[.int .i64 x.f0,.int .i64 x.f1,.string x.f2,.slice A5 x.f3.length c5,.slice A6 x.f4.length c6] 25 (0,0))) (hb:Below W.heap.size W W1):wt.Qa w W1 lo W.heap.size d t x A5 c5 A6 c6 :=
 ⟨bx,fun ht=>⟨wt.VRow.move (fun _ q=>q) (fun k _ hl=>hb.block k hl) d (tr ht).1,(tr ht).2.move (fun _ q=>q) (fun k _ hl=>hb.block k hl)⟩,Kd.C_below c3 hb,l3,Kd.C_below c4 hb,l4,below_then b b.size hb⟩
theorem wt.still17 {W:World} {bs xs:List Int} {ba capa:Nat} {A:Option Addr} {c base:Nat} (hr:(Kd.int .u8).R 5 W base (fun _=>True) (.slice (some ⟨ba,0,none⟩) (bs.length+40) capa) xs) (hle:wt.LentL bs xs) (hL:bs.length≤140737488351232) (hC:(Kd.int .u8).C W A bs.length bs) (hc:bs.length≤c) :
  Calls Try.prog 17 #[.slice (some ⟨ba,0,none⟩) (bs.length+40) capa,.slice A bs.length c] W fun e w'=>e=.returned (.bool true)∧Below W.heap.size W w':=by
 obtain ⟨K,hK⟩:=wt.still_ok hle hL
 have hx:=Kd.R_reads' hr
 have:=scruplelaw04_still.calls K (some ⟨ba,0,none⟩) capa xs A c bs true W hx.2.2 (by have:=hx.1;have:=hx.2.1;omega) hC hc hK
 rw [hle.len] at this
 exact this.mono (fun e w' q=>⟨q.1,q.2.below⟩)
theorem wt.row_wr {k n:Nat} (h:k < n) (hn:n≤1048576):wrap64 ((k:Int)+1)=(k:Int)+1:=X.w64 _ (by omega) (by omega)
theorem wt.mem_rd (xs:List S25) (j:Nat) (hj:j < xs.length):rd_T25 xs (j:Int) ∈ xs:=at_mem xs j hj
theorem wt.puts1 {vs:List S25} {A:Option Addr} {c:Nat} {bs:List Int} {Ab:Option Addr} {cb:Nat} (w:World) (hb:(Kd.int .u8).C w Ab bs.length bs) (hcb:bs.length≤cb) (hbl:bs.length≤1048576) (hA:k25.C w A vs.length vs) (hc:vs.length≤c) (hx:∀ x ∈ vs,Val x∧Siz x) (hn:vs.length≤1048576) :
  Calls Try.prog 4 #[.slice Ab bs.length cb,.slice A vs.length c] w fun e w'=>e=.returned (.bool true)∧Below w.heap.size w w':=by
 have hu25:=Try.underlying25
 have HB0:=Aside0.mk hb;have HCB:=Aside0.mk hcb;have HBL:=Aside0.mk hbl
 have HBL2:=Aside0.mk (show bs.length≤140737488351232 by omega)
 have HA:=Aside0.mk hA;have HCA:=Aside0.mk hc;have HX:=Aside0.mk hx;have HN:=Aside0.mk hn
 obtain ⟨Kz,hkz⟩:=wt.put_unit bs hbl
 have PUTZ:=Aside0.mk (fun (W:World) p0=>wire_Put.own Kz Ab cb bs 0 0 ⟨#[]⟩ none 0 [] none 0 [] (bs ++ [0]) 0 W p0 hcb (Kd.C_nil k25 W) (Nat.le_refl _) (Kd.C_nil Kd.string W) (Nat.le_refl _) (hkz Kz (Nat.le_refl _)))
 obtain ⟨bz,hbz⟩:∃ b2,bs ++ [(0:Int)]=b2:=⟨_,rfl⟩
 rw [hbz] at PUTZ
 have HZL:=Aside0.mk (show bz.length=bs.length+1 by rw [← hbz];simp)
 clear hb hcb hA hc hx hn hbl hkz hbz
 go_enter Try.func4,Try.ntmps4
 go_wp2
 go_loopw [5] (fun v5 wr=>∃ k:Nat,v5=.int .i64 (k:Int)∧Aside0 (k≤vs.length)∧Aside0 (Below w.heap.size w wr)) (fun v5 _=>vs.length - (intOf v5).toNat)
 case atStart=>exact ⟨0,rfl,⟨Nat.zero_le _⟩,⟨Below.refl _ _⟩⟩
 case round =>
  obtain ⟨k,rfl,HK,HB⟩:=hrel
  by_cases hlt:k < vs.length
  ·have i1:decide ((k:Int) < (vs.length:Int))=true:=decide_eq_true (by omega)
   have i2:decide (k < vs.length)=true:=decide_eq_true hlt
   have i3:(k < vs.length)=True:=eq_true hlt
   have i4:(k:Int) < (vs.length:Int):=by omega
   have HWR:=Aside0.mk (wt.row_wr hlt HN.out)
   have HM:=Aside0.mk (wt.meas k vs.length hlt HWR.out)
   have HK1:=Aside0.mk (show k+1≤vs.length from hlt)
   obtain ⟨hv,hs⟩:=HX.out _ (wt.mem_rd vs k hlt)
   obtain ⟨ad,A3,c3,A4,c4,ea,hce0⟩:=wt.Ce.of HA.out k hlt
   subst ea
   generalize rd_T25 vs (k:Int)=x at hv hs hce0
   have hce:=hce0.below HB.out
   have CE0:=Aside0.mk hce0
   have CE:=Aside0.mk hce
   obtain ⟨t,htf,_⟩:=few_ev x hv hs
   obtain ⟨⟨d,hd⟩,hk4⟩:=wt.szL.any hs
   obtain ⟨r,e0,n0,⟨K1,q1⟩,⟨K2,q2⟩,⟨K3,q3⟩,⟨K4,q4⟩,hrl⟩:=wt.puts_told x hv bs HBL.out
   have CPY:=Aside0.mk (fun (W:World) (B3:Option Addr) (d3:Nat) (B4:Option Addr) (d4:Nat) p1 p2 p3 p4=>wt.copiedT hv hs htf (W:=W) (A3:=B3) (c3:=d3) (A4:=B4) (c4:=d4) p1 p2 p3 p4 hd)
   have PUT:=Aside0.mk (fun (W:World) (B:Option Addr) (d0:Nat) (B3:Option Addr) (d3:Nat) (B4:Option Addr) (d4:Nat) p0 g0 p1 p2 p3 p4=>wire_Put.own K1 B d0 bs x.f0 x.f1 x.f2 B3 d3 x.f3 B4 d4 x.f4 r e0 W p0 g0 p1 p2 p3 p4 (q1 K1 (Nat.le_refl _)))
   have RPT:=Aside0.mk (fun (W:World) p0 p1 p3=>scrupleref04_Put.fresh K2 Ab cb bs x.f0 x.f1 x.f2 A3 c3 x.f3 A4 c4 x.f4 r e0 W p0 HCB.out p1 hce0.l3 p3 hce0.l4 (q2 K2 (Nat.le_refl _)))
   have LEN:=Aside0.mk (fun (W:World) (B3:Option Addr) (d3:Nat) (B4:Option Addr) (d4:Nat) p1 p2 p3 p4=>wire_Length.calls K3 x.f0 x.f1 x.f2 B3 d3 x.f3 B4 d4 x.f4 n0 W p1 p2 p3 p4 (q3 K3 (Nat.le_refl _)))
   have RLN:=Aside0.mk (fun (W:World) p1 p3=>scrupleref04_Length.calls K4 x.f0 x.f1 x.f2 A3 c3 x.f3 A4 c4 x.f4 n0 W p1 hce0.l3 p3 hce0.l4 (q4 K4 (Nat.le_refl _)))
   obtain ⟨kf,hkf⟩:=htf
   have HFW:=Aside0.mk (hkf kf (Nat.le_refl _))
   have HSZ:=Aside0.mk hd;have HK4:=Aside0.mk hk4
   have HRL:=Aside0.mk (show r.length≤140737488300000 by omega)
   have HV:=Aside0.mk hv;have HS:=Aside0.mk hs
   have SR:=Aside0.mk (fun (W:World) (B:Option Addr) (d:Nat) (hB:(Kd.int .u8).C W B r.length r)=>Kd.C_string (P:=Try.prog) (c:=d) Try.underlying26 Try.underlying5 Try.underlying9 hB)
   generalize hst:strOfNums r=st at SR
   have z0:=hce.d0;have z1:=hce.d1;have z2:=hce.d2;have z3:=hce.d3;have z4:=hce.d4
   have b0:(e0 != e0)=false:=bne_self_eq_false e0
   have b1:(n0 != n0)=false:=bne_self_eq_false n0
   clear hst hkf hd hk4 hrl q1 q2 q3 q4 hv hs hce hce0 hlt
   have tk3:=Aside0.mk True.intro
   go_wp2_with (first | (go_at_call 11;refine (CPY.out _ A3 c3 A4 c4 CE.out.g3 CE.out.l3 CE.out.g4 CE.out.l4).mono ?_;rintro e_ w1 ⟨A5,c5,A6,c6,rfl,p1,p2,p3,p4,hb,ht,he⟩;have P1:=Aside0.mk p1;have P2:=Aside0.mk p2;have P3:=Aside0.mk p3;have P4:=Aside0.mk p4;have TR:=Aside0.mk ht;have EQ:=Aside0.mk he;have HLO:=Aside0.mk HB.out.size;have O1:=Aside0.mk (below_then HB.out HB.out.size hb);clear p1 p2 p3 p4 ht he hb CE HB z0 z1 z2 z3 z4) | ((with_reducible refine gate_store (p:=6) rfl ?_);refine wt.store_res rfl rfl 6 _ rfl w1.heap.size rfl (.int .i64 x.f0) (.int .i64 x.f1) (.string x.f2) (.slice A5 x.f3.length c5) (.slice A6 x.f4.length c6) rfl (fun q hq=>by simp at hq;rcases hq with rfl | rfl | rfl | rfl | rfl <;> rfl) _ rfl (by simpa using heap_alloc_new w1 _) ?_;intro w2 hres hgr;have QA2:=Aside0.mk (wt.Qa.mk' TR.out P1.out P2.out P3.out P4.out O1.out hres (wt.own_res hgr));clear P1 P2 P3 P4 TR;clear hres hgr) | (go_at_call 14;refine (wt.lent1 w2 (Kd.C_below HB0.out QA2.out.b) HCB.out HBL2.out).mono ?_;rintro e_ w3 ⟨ba,capa,xs,rfl,hr,hle,hcap,hb⟩;have LE:=Aside0.mk hle;have AL3:=Aside0.mk (Kd.R_lower hr QA2.out.b.size);have RM3:=Aside0.mk (wt.room_ok hr hle);have HCP:=Aside0.mk (show bs.length≤capa by omega);have HB2:=Aside0.mk (show w1.heap.size < ba from Nat.lt_of_lt_of_le (blk_lt QA2.out.bx) (Kd.R_base hr ba rfl));have HB3:=Aside0.mk (Kd.R_lt hr ba rfl);have QA3:=Aside0.mk (QA2.out.below hb);clear hr hle hcap hb QA2;have u0:w3.cell? ⟨w1.heap.size,0,none⟩=some (.int .i64 x.f0):=(blk_cell QA3.out.bx 0).trans rfl;have u1:w3.cell? ⟨w1.heap.size,1,none⟩=some (.int .i64 x.f1):=(blk_cell QA3.out.bx 1).trans rfl;have u2:w3.cell? ⟨w1.heap.size,2,none⟩=some (.string x.f2):=(blk_cell QA3.out.bx 2).trans rfl;have u3:w3.cell? ⟨w1.heap.size,3,none⟩=some (.slice A5 x.f3.length c5):=(blk_cell QA3.out.bx 3).trans rfl;have u4:w3.cell? ⟨w1.heap.size,4,none⟩=some (.slice A6 x.f4.length c6):=(blk_cell QA3.out.bx 4).trans rfl) | (go_at_call 15;clear tk3;refine (PUT.out _ (some ⟨ba,0,none⟩) capa A5 c5 A6 c6 RM3.out HCP.out QA3.out.c3 QA3.out.l3 QA3.out.c4 QA3.out.l4).mono ?_;rintro e_ w4 ⟨Ap,cp,rfl,hr,hb⟩;have PR4:=Aside0.mk hr;have HW3:=Aside0.mk QA3.out.b.size;have AL4:=Aside0.mk (Kd.R_below AL3.out hb);have RM4:=Aside0.mk (Kd.C_below RM3.out hb);have QA4:=Aside0.mk (QA3.out.below hb);clear hr hb QA3 AL3 RM3 u0 u1 u2 u3 u4;have u0:w4.cell? ⟨w1.heap.size,0,none⟩=some (.int .i64 x.f0):=(blk_cell QA4.out.bx 0).trans rfl;have u1:w4.cell? ⟨w1.heap.size,1,none⟩=some (.int .i64 x.f1):=(blk_cell QA4.out.bx 1).trans rfl;have u2:w4.cell? ⟨w1.heap.size,2,none⟩=some (.string x.f2):=(blk_cell QA4.out.bx 2).trans rfl;have u3:w4.cell? ⟨w1.heap.size,3,none⟩=some (.slice A5 x.f3.length c5):=(blk_cell QA4.out.bx 3).trans rfl;have u4:w4.cell? ⟨w1.heap.size,4,none⟩=some (.slice A6 x.f4.length c6):=(blk_cell QA4.out.bx 4).trans rfl) | (go_at_call 15;refine (PUT.out _ (some ⟨ba,0,none⟩) capa A5 c5 A6 c6 RM4.out HCP.out QA4.out.c3 QA4.out.l3 QA4.out.c4 QA4.out.l4).mono ?_;rintro e_ w5 ⟨Aq,cq,rfl,hr,hb⟩;have QR5:=Aside0.mk hr;have PR5:=Aside0.mk (Kd.R_below PR4.out hb);have AL5:=Aside0.mk (Kd.R_below AL4.out hb);have QA5:=Aside0.mk (QA4.out.below hb);have HP1:=Aside0.mk (show ∀ ad,Ap=some ad→ba < ad.block from fun ad e_=>Nat.lt_of_lt_of_le HB3.out (Kd.R_base PR4.out ad.block (by rw [e_];rfl)));have HP2:=Aside0.mk (show ∀ a1 a2,Ap=some a1→Aq=some a2→a1.block < a2.block from fun a1 a2 e1 e2=>Nat.lt_of_lt_of_le (Kd.R_lt PR4.out a1.block (by rw [e1];rfl)) (Kd.R_base hr a2.block (by rw [e2];rfl)));have HQ1:=Aside0.mk (show ∀ ad,Aq=some ad→ba < ad.block from fun ad e_=>Nat.lt_of_lt_of_le (Kd.R_lt AL4.out ba rfl) (Kd.R_base hr ad.block (by rw [e_];rfl)));clear hr hb PR4 QA4 AL4 RM4 u0 u1 u2 u3 u4;have CE5:=Aside0.mk (CE0.out.below QA5.out.b);have z0:=CE5.out.d0;have z1:=CE5.out.d1;have z2:=CE5.out.d2;have z3:=CE5.out.d3;have z4:=CE5.out.d4) | (go_at_call 16;refine (RPT.out _ (Kd.C_below HB0.out QA5.out.b) CE5.out.g3 CE5.out.g4).mono ?_;rintro e_ w6 ⟨Aw,cw,rfl,hr,hcw,hb,hfr⟩;have QA6:=Aside0.mk (QA5.out.below hb);have Q6:=Aside0.mk (wt.Q1.mk (xs:=xs) (cp:=cp) (d:=d) (t:=t) (A3:=A3) (c3:=c3) (A4:=A4) (c4:=c4) (Kd.R_lower (Kd.R_below PR5.out hb) HW3.out) (wt.Q2.mk QA6.out.bx QA6.out.tr EQ.out (wt.Q3.mk (Kd.R_below AL5.out hb) (Kd.C_below (Kd.R_reads' QR5.out).2.2 hb) hr QA6.out.b HQ1.out (fun ad e_=>Nat.lt_of_lt_of_le (Kd.R_lt AL5.out ba rfl) (hfr ad e_))) HLO.out HB2.out) HP1.out HP2.out (fun a1 a2 e1 e2=>Nat.lt_of_lt_of_le (Kd.R_lt PR5.out a1.block (by rw [e1];rfl)) (hfr a2 e2)));clear hr hcw hb hfr QA5 QA6 PR5 AL5 QR5 CE5 z0 z1 z2 z3 z4))
   refine start_ (n:=40) (S:=fun w'=>w'.cell? ⟨w1.heap.size,0,none⟩=some (.int .i64 x.f0)∧w'.cell? ⟨w1.heap.size,1,none⟩=some (.int .i64 x.f1)∧w'.cell? ⟨w1.heap.size,2,none⟩=some (.string x.f2)∧w'.cell? ⟨w1.heap.size,3,none⟩=some (.slice A5 x.f3.length c5)∧w'.cell? ⟨w1.heap.size,4,none⟩=some (.slice A6 x.f4.length c6)∧w'.cell? (ad.add (k * 5))=some (.int .i64 x.f0)∧w'.cell? ⟨(ad.add (k * 5)).block,(ad.add (k * 5)).off+1,none⟩=some (.int .i64 x.f1)∧w'.cell? ⟨(ad.add (k * 5)).block,(ad.add (k * 5)).off+2,none⟩=some (.string x.f2)∧w'.cell? ⟨(ad.add (k * 5)).block,(ad.add (k * 5)).off+3,none⟩=some (.slice A3 x.f3.length c3)∧w'.cell? ⟨(ad.add (k * 5)).block,(ad.add (k * 5)).off+4,none⟩=some (.slice A4 x.f4.length c4)∧(convert 26 9 (.slice Ap r.length r.length)).run Try.prog w'=.ok (.string st) w'∧(convert 26 9 (.slice Aw r.length cw)).run Try.prog w'=.ok (.string st) w') (ds:=[]) #[qF,qF,qF,qF,qF,qF,qF,qF,qF,qF,qF,qF,qF,qF,qF,qF,qF,qF,qF,qF,qF,qF,qF,qF,qF,qF,qF,qF,qF,qF,qF,qF,qF,qF,qF,qF,qF,qF,qF,qF] (by kernel_rfl) rfl rfl ⟨(blk_cell (Q6.out.below (below_drew (Below.refl _ _))).r2.bx 0).trans rfl,(blk_cell (Q6.out.below (below_drew (Below.refl _ _))).r2.bx 1).trans rfl,(blk_cell (Q6.out.below (below_drew (Below.refl _ _))).r2.bx 2).trans rfl,(blk_cell (Q6.out.below (below_drew (Below.refl _ _))).r2.bx 3).trans rfl,(blk_cell (Q6.out.below (below_drew (Below.refl _ _))).r2.bx 4).trans rfl,(CE0.out.below (Q6.out.below (below_drew (Below.refl _ _))).r2.r3.b).d0,(CE0.out.below (Q6.out.below (below_drew (Below.refl _ _))).r2.r3.b).d1,(CE0.out.below (Q6.out.below (below_drew (Below.refl _ _))).r2.r3.b).d2,(CE0.out.below (Q6.out.below (below_drew (Below.refl _ _))).r2.r3.b).d3,(CE0.out.below (Q6.out.below (below_drew (Below.refl _ _))).r2.r3.b).d4,SR.out _ Ap r.length (Kd.R_reads' (Q6.out.below (below_drew (Below.refl _ _))).p).2.2,SR.out _ Aw cw (Q6.out.below (below_drew (Below.refl _ _))).r2.r3.wn⟩ (fun hHeld => ?_)
   generalize hwd:w6.drew=wd at hHeld ⊢
   have Qd:=Aside0.mk (hwd▸Q6.out.below (below_drew (Below.refl _ _)))
   clear hwd Q6
   refine pure_ (i:=0) (N:=some 54) (v := ?_) (a' := ?_) #[qT,qF,qF,qF,qF,qF,qF,qF,qF,qF,qF,qF,qF,qF,qF,qF,qF,qF,qF,qF,qF,qF,qF,qF,qF,qF,qF,qF,qF,qF,qF,qF,qF,qF,qF,qF,qF,qF,qF,qF] rfl rfl (by kernel_rfl) (fun _ _ _ h=>h) (Or.inl ⟨by rfl, ?_⟩) ?_ ?_
   rotate_left
   ·intro w'
    go_simp
    with_reducible rfl
   rotate_left
   ·simp only [Act.put,qs1,qs2,qs3,i64_w,i32_w]
    rfl
   refine pure_ (i:=1) (N:=some 55) (v := ?_) (a' := ?_) #[qT,qT,qF,qF,qF,qF,qF,qF,qF,qF,qF,qF,qF,qF,qF,qF,qF,qF,qF,qF,qF,qF,qF,qF,qF,qF,qF,qF,qF,qF,qF,qF,qF,qF,qF,qF,qF,qF,qF,qF] rfl rfl (by kernel_rfl) (fun _ _ _ h=>h) (Or.inl ⟨by rfl, ?_⟩) ?_ ?_
   rotate_left
   ·intro w'
    go_simp
    with_reducible rfl
   rotate_left
   ·simp only [Act.put,qs1,qs2,qs3,i64_w,i32_w]
    rfl
   refine pure_ (i:=2) (N:=some 56) (v := ?_) (a' := ?_) #[qT,qT,qT,qF,qF,qF,qF,qF,qF,qF,qF,qF,qF,qF,qF,qF,qF,qF,qF,qF,qF,qF,qF,qF,qF,qF,qF,qF,qF,qF,qF,qF,qF,qF,qF,qF,qF,qF,qF,qF] rfl rfl (by kernel_rfl) (fun _ _ _ h=>h) (Or.inl ⟨by rfl, ?_⟩) ?_ ?_
   rotate_left
   ·intro w'
    go_simp
    with_reducible rfl
   rotate_left
   ·simp only [Act.put,qs1,qs2,qs3,i64_w,i32_w]
    rfl
   refine pure_ (i:=3) (N:=some 57) (v := ?_) (a' := ?_) #[qT,qT,qT,qT,qF,qF,qF,qF,qF,qF,qF,qF,qF,qF,qF,qF,qF,qF,qF,qF,qF,qF,qF,qF,qF,qF,qF,qF,qF,qF,qF,qF,qF,qF,qF,qF,qF,qF,qF,qF] rfl rfl (by kernel_rfl) (fun _ _ _ h=>h) (Or.inl ⟨by rfl, ?_⟩) ?_ ?_
   rotate_left
   ·intro w'
    go_simp
    with_reducible rfl
   rotate_left
   ·simp only [Act.put,qs1,qs2,qs3,i64_w,i32_w]
    rfl
   refine pure_ (i:=4) (N:=some 58) (v := ?_) (a' := ?_) #[qT,qT,qT,qT,qT,qF,qF,qF,qF,qF,qF,qF,qF,qF,qF,qF,qF,qF,qF,qF,qF,qF,qF,qF,qF,qF,qF,qF,qF,qF,qF,qF,qF,qF,qF,qF,qF,qF,qF,qF] rfl rfl (by kernel_rfl) (fun _ _ _ h=>h) (Or.inl ⟨by rfl, ?_⟩) ?_ ?_
   rotate_left
   ·intro w'
    go_simp
    with_reducible rfl
   rotate_left
   ·simp only [Act.put,qs1,qs2,qs3,i64_w,i32_w]
    rfl
   refine pure_ (i:=5) (N:=some 59) (v := ?_) (a' := ?_) #[qT,qT,qT,qT,qT,qT,qF,qF,qF,qF,qF,qF,qF,qF,qF,qF,qF,qF,qF,qF,qF,qF,qF,qF,qF,qF,qF,qF,qF,qF,qF,qF,qF,qF,qF,qF,qF,qF,qF,qF] rfl rfl (by kernel_rfl) (fun _ _ _ h=>h) (Or.inl ⟨by rfl, ?_⟩) ?_ ?_
   rotate_left
   ·intro w'
    go_simp
    with_reducible rfl
   rotate_left
   ·simp only [Act.put,qs1,qs2,qs3,i64_w,i32_w]
    rfl
   refine pure_ (i:=6) (N:=some 60) (v := ?_) (a' := ?_) #[qT,qT,qT,qT,qT,qT,qT,qF,qF,qF,qF,qF,qF,qF,qF,qF,qF,qF,qF,qF,qF,qF,qF,qF,qF,qF,qF,qF,qF,qF,qF,qF,qF,qF,qF,qF,qF,qF,qF,qF] rfl rfl (by kernel_rfl) (fun _ _ _ h=>h) (Or.inl ⟨by rfl, ?_⟩) ?_ ?_
   rotate_left
   ·intro w'
    go_simp
    with_reducible rfl
   rotate_left
   ·simp only [Act.put,qs1,qs2,qs3,i64_w,i32_w]
    rfl
   refine pure_ (i:=7) (N:=some 61) (v := ?_) (a' := ?_) #[qT,qT,qT,qT,qT,qT,qT,qT,qF,qF,qF,qF,qF,qF,qF,qF,qF,qF,qF,qF,qF,qF,qF,qF,qF,qF,qF,qF,qF,qF,qF,qF,qF,qF,qF,qF,qF,qF,qF,qF] rfl rfl (by kernel_rfl) (fun _ _ _ h=>h) (Or.inl ⟨by rfl, ?_⟩) ?_ ?_
   rotate_left
   ·intro w'
    go_simp
    with_reducible rfl
   rotate_left
   ·simp only [Act.put,qs1,qs2,qs3,i64_w,i32_w]
    rfl
   refine pure_ (i:=8) (N:=some 62) (v := ?_) (a' := ?_) #[qT,qT,qT,qT,qT,qT,qT,qT,qT,qF,qF,qF,qF,qF,qF,qF,qF,qF,qF,qF,qF,qF,qF,qF,qF,qF,qF,qF,qF,qF,qF,qF,qF,qF,qF,qF,qF,qF,qF,qF] rfl rfl (by kernel_rfl) (fun _ _ _ h=>h) (Or.inl ⟨by rfl, ?_⟩) ?_ ?_
   rotate_left
   ·intro w'
    go_simp
    with_reducible rfl
   rotate_left
   ·simp only [Act.put,qs1,qs2,qs3,i64_w,i32_w]
    rfl
   refine pure_ (i:=9) (N:=some 63) (v := ?_) (a' := ?_) #[qT,qT,qT,qT,qT,qT,qT,qT,qT,qT,qF,qF,qF,qF,qF,qF,qF,qF,qF,qF,qF,qF,qF,qF,qF,qF,qF,qF,qF,qF,qF,qF,qF,qF,qF,qF,qF,qF,qF,qF] rfl rfl (by kernel_rfl) (fun _ _ _ h=>h) (Or.inl ⟨by rfl, ?_⟩) ?_ ?_
   rotate_left
   ·intro w'
    go_simp
    with_reducible rfl
   rotate_left
   ·simp only [Act.put,qs1,qs2,qs3,i64_w,i32_w]
    rfl
   refine pure_ (i:=11) (N:=some 65) (v := ?_) (a' := ?_) #[qT,qT,qT,qT,qT,qT,qT,qT,qT,qT,qF,qT,qF,qF,qF,qF,qF,qF,qF,qF,qF,qF,qF,qF,qF,qF,qF,qF,qF,qF,qF,qF,qF,qF,qF,qF,qF,qF,qF,qF] rfl rfl (by kernel_rfl) (fun _ _ _ h=>h) (Or.inl ⟨by rfl, ?_⟩) ?_ ?_
   rotate_left
   ·intro w'
    go_simp
    with_reducible rfl
   rotate_left
   ·simp only [Act.put,qs1,qs2,qs3,i64_w,i32_w]
    rfl
   refine take_ (i:=10) (N:=some 64) (v := ?_) (a' := ?_) #[qT,qT,qT,qT,qT,qT,qT,qT,qT,qT,qT,qT,qF,qF,qF,qF,qF,qF,qF,qF,qF,qF,qF,qF,qF,qF,qF,qF,qF,qF,qF,qF,qF,qF,qF,qF,qF,qF,qF,qF] rfl rfl (by kernel_rfl) (fun _ _ _ h=>h) (Or.inl ⟨by rfl, ?_⟩) hHeld ?_ ?_
   rotate_left
   ·rintro w' ⟨s0,s1,s2,s3,s4,s5,s6,s7,s8,s9,s10,s11⟩
    go_simp
    with_reducible rfl
   rotate_left
   ·simp only [Act.put,qs1,qs2,qs3,i64_w,i32_w]
    rfl
   refine take_ (i:=12) (N:=some 66) (v := ?_) (a' := ?_) #[qT,qT,qT,qT,qT,qT,qT,qT,qT,qT,qT,qT,qT,qF,qF,qF,qF,qF,qF,qF,qF,qF,qF,qF,qF,qF,qF,qF,qF,qF,qF,qF,qF,qF,qF,qF,qF,qF,qF,qF] rfl rfl (by kernel_rfl) (fun _ _ _ h=>h) (Or.inl ⟨by rfl, ?_⟩) hHeld ?_ ?_
   rotate_left
   ·rintro w' ⟨s0,s1,s2,s3,s4,s5,s6,s7,s8,s9,s10,s11⟩
    go_simp
    with_reducible rfl
   rotate_left
   ·simp only [Act.put,qs1,qs2,qs3,i64_w,i32_w]
    rfl
   refine pure_ (i:=13) (N:=some 67) (v := ?_) (a' := ?_) #[qT,qT,qT,qT,qT,qT,qT,qT,qT,qT,qT,qT,qT,qT,qF,qF,qF,qF,qF,qF,qF,qF,qF,qF,qF,qF,qF,qF,qF,qF,qF,qF,qF,qF,qF,qF,qF,qF,qF,qF] rfl rfl (by kernel_rfl) (fun _ _ _ h=>h) (Or.inl ⟨by rfl, ?_⟩) ?_ ?_
   rotate_left
   ·intro w'
    go_simp
    with_reducible rfl
   rotate_left
   ·simp only [Act.put,qs1,qs2,qs3,i64_w,i32_w]
    rfl
   refine pure_ (i:=14) (N:=some 68) (v := ?_) (a' := ?_) #[qT,qT,qT,qT,qT,qT,qT,qT,qT,qT,qT,qT,qT,qT,qT,qF,qF,qF,qF,qF,qF,qF,qF,qF,qF,qF,qF,qF,qF,qF,qF,qF,qF,qF,qF,qF,qF,qF,qF,qF] rfl rfl (by kernel_rfl) (fun _ _ _ h=>h) (Or.inl ⟨by rfl, ?_⟩) ?_ ?_
   rotate_left
   ·intro w'
    go_simp
    with_reducible rfl
   rotate_left
   ·simp only [Act.put,qs1,qs2,qs3,i64_w,i32_w]
    rfl
   refine pure_ (i:=15) (N:=some 69) (v := ?_) (a' := ?_) #[qT,qT,qT,qT,qT,qT,qT,qT,qT,qT,qT,qT,qT,qT,qT,qT,qF,qF,qF,qF,qF,qF,qF,qF,qF,qF,qF,qF,qF,qF,qF,qF,qF,qF,qF,qF,qF,qF,qF,qF] rfl rfl (by kernel_rfl) (fun _ _ _ h=>h) (Or.inl ⟨by rfl, ?_⟩) ?_ ?_
   rotate_left
   ·intro w'
    go_simp
    with_reducible rfl
   rotate_left
   ·simp only [Act.put,qs1,qs2,qs3,i64_w,i32_w]
    rfl
   refine pure_ (i:=17) (N:=some 71) (v := ?_) (a' := ?_) #[qT,qT,qT,qT,qT,qT,qT,qT,qT,qT,qT,qT,qT,qT,qT,qT,qF,qT,qF,qF,qF,qF,qF,qF,qF,qF,qF,qF,qF,qF,qF,qF,qF,qF,qF,qF,qF,qF,qF,qF] rfl rfl (by kernel_rfl) (fun _ _ _ h=>h) (Or.inl ⟨by rfl, ?_⟩) ?_ ?_
   rotate_left
   ·intro w'
    go_simp
    with_reducible rfl
   rotate_left
   ·simp only [Act.put,qs1,qs2,qs3,i64_w,i32_w]
    rfl
   refine pure_ (i:=18) (N:=some 72) (v := ?_) (a' := ?_) #[qT,qT,qT,qT,qT,qT,qT,qT,qT,qT,qT,qT,qT,qT,qT,qT,qF,qT,qT,qF,qF,qF,qF,qF,qF,qF,qF,qF,qF,qF,qF,qF,qF,qF,qF,qF,qF,qF,qF,qF] rfl rfl (by kernel_rfl) (fun _ _ _ h=>h) (Or.inl ⟨by rfl, ?_⟩) ?_ ?_
   rotate_left
   ·intro w'
    go_simp
    with_reducible rfl
   rotate_left
   ·simp only [Act.put,qs1,qs2,qs3,i64_w,i32_w]
    rfl
   refine pure_ (i:=19) (N:=some 73) (v := ?_) (a' := ?_) #[qT,qT,qT,qT,qT,qT,qT,qT,qT,qT,qT,qT,qT,qT,qT,qT,qF,qT,qT,qT,qF,qF,qF,qF,qF,qF,qF,qF,qF,qF,qF,qF,qF,qF,qF,qF,qF,qF,qF,qF] rfl rfl (by kernel_rfl) (fun _ _ _ h=>h) (Or.inl ⟨by rfl, ?_⟩) ?_ ?_
   rotate_left
   ·intro w'
    go_simp
    with_reducible rfl
   rotate_left
   ·simp only [Act.put,qs1,qs2,qs3,i64_w,i32_w]
    rfl
   refine take_ (i:=16) (N:=some 70) (v := ?_) (a' := ?_) #[qT,qT,qT,qT,qT,qT,qT,qT,qT,qT,qT,qT,qT,qT,qT,qT,qT,qT,qT,qT,qF,qF,qF,qF,qF,qF,qF,qF,qF,qF,qF,qF,qF,qF,qF,qF,qF,qF,qF,qF] rfl rfl (by kernel_rfl) (fun _ _ _ h=>h) (Or.inl ⟨by rfl, ?_⟩) hHeld ?_ ?_
   rotate_left
   ·rintro w' ⟨s0,s1,s2,s3,s4,s5,s6,s7,s8,s9,s10,s11⟩
    go_simp
    with_reducible rfl
   rotate_left
   ·simp only [Act.put,qs1,qs2,qs3,i64_w,i32_w]
    rfl
   refine take_ (i:=20) (N:=some 74) (v := ?_) (a' := ?_) #[qT,qT,qT,qT,qT,qT,qT,qT,qT,qT,qT,qT,qT,qT,qT,qT,qT,qT,qT,qT,qT,qF,qF,qF,qF,qF,qF,qF,qF,qF,qF,qF,qF,qF,qF,qF,qF,qF,qF,qF] rfl rfl (by kernel_rfl) (fun _ _ _ h=>h) (Or.inl ⟨by rfl, ?_⟩) hHeld ?_ ?_
   rotate_left
   ·rintro w' ⟨s0,s1,s2,s3,s4,s5,s6,s7,s8,s9,s10,s11⟩
    go_simp
    with_reducible rfl
   rotate_left
   ·simp only [Act.put,qs1,qs2,qs3,i64_w,i32_w]
    rfl
   refine one_ (i:=21) (N:=some 75) #[qT,qT,qT,qT,qT,qT,qT,qT,qT,qT,qT,qT,qT,qT,qT,qT,qT,qT,qT,qT,qT,qT,qF,qF,qF,qF,qF,qF,qF,qF,qF,qF,qF,qF,qF,qF,qF,qF,qF,qF] rfl rfl (by kernel_rfl) (by decide) (fun K hK => ?_)
   refine goes_ Try.func13 (by kernel_rfl) rfl #[.agg #[.int .i64 x.f0,.int .i64 x.f1,.string x.f2,.slice A5 x.f3.length c5,.slice A6 x.f4.length c6],.agg #[.int .i64 x.f0,.int .i64 x.f1,.string x.f2,.slice A3 x.f3.length c3,.slice A4 x.f4.length c4]] (by rfl) rfl rfl (by (try simp only [List.map_toArray,List.map_cons,List.map_nil]);first | done | rfl) ?_
   refine (wt.same13v HV.out HS.out (Qd.out.r2.rows CE0.out.g3 CE0.out.l3 CE0.out.g4 CE0.out.l4).1 (Qd.out.r2.rows CE0.out.g3 CE0.out.l3 CE0.out.g4 CE0.out.l4).2.1 (Qd.out.r2.rows CE0.out.g3 CE0.out.l3 CE0.out.g4 CE0.out.l4).2.2.1 (Qd.out.r2.rows CE0.out.g3 CE0.out.l3 CE0.out.g4 CE0.out.l4).2.2.2 (CE0.out.below Qd.out.r2.r3.b).g3 (CE0.out.below Qd.out.r2.r3.b).l3 (CE0.out.below Qd.out.r2.r3.b).g4 (CE0.out.below Qd.out.r2.r3.b).l4).mono ?_
   rintro e w7 ⟨rfl,hb⟩
   refine ⟨_,rfl, ?_⟩
   have Q7:=Aside0.mk (Qd.out.below hb)
   clear hb Qd
   refine hK.out _ _ ⟨(blk_cell Q7.out.r2.bx 0).trans rfl,(blk_cell Q7.out.r2.bx 1).trans rfl,(blk_cell Q7.out.r2.bx 2).trans rfl,(blk_cell Q7.out.r2.bx 3).trans rfl,(blk_cell Q7.out.r2.bx 4).trans rfl,(CE0.out.below Q7.out.r2.r3.b).d0,(CE0.out.below Q7.out.r2.r3.b).d1,(CE0.out.below Q7.out.r2.r3.b).d2,(CE0.out.below Q7.out.r2.r3.b).d3,(CE0.out.below Q7.out.r2.r3.b).d4,SR.out _ Ap r.length (Kd.R_reads' Q7.out.p).2.2,SR.out _ Aw cw Q7.out.r2.r3.wn⟩ (fun hHeld => ?_)
   clear hK K
   refine norm_ (a' := ?_) ?_ ?_
   rotate_left
   ·show Act.put _ (some 75) _=_
    simp only [Act.put,qs1,qs2,qs3,i64_w,i32_w]
    rfl
   refine pure_ (i:=22) (N:=some 76) (v := ?_) (a' := ?_) #[qT,qT,qT,qT,qT,qT,qT,qT,qT,qT,qT,qT,qT,qT,qT,qT,qT,qT,qT,qT,qT,qT,qT,qF,qF,qF,qF,qF,qF,qF,qF,qF,qF,qF,qF,qF,qF,qF,qF,qF] rfl rfl (by kernel_rfl) (fun _ _ _ h=>h) (Or.inl ⟨by rfl, ?_⟩) ?_ ?_
   rotate_left
   ·intro w'
    go_simp
    with_reducible rfl
   rotate_left
   ·simp only [Act.put,qs1,qs2,qs3,i64_w,i32_w]
    rfl
   refine pure_ (i:=23) (N:=some 77) (v := ?_) (a' := ?_) #[qT,qT,qT,qT,qT,qT,qT,qT,qT,qT,qT,qT,qT,qT,qT,qT,qT,qT,qT,qT,qT,qT,qT,qT,qF,qF,qF,qF,qF,qF,qF,qF,qF,qF,qF,qF,qF,qF,qF,qF] rfl rfl (by kernel_rfl) (fun _ _ _ h=>h) (Or.inl ⟨by rfl, ?_⟩) ?_ ?_
   rotate_left
   ·intro w'
    go_simp
    with_reducible rfl
   rotate_left
   ·simp only [Act.put,qs1,qs2,qs3,i64_w,i32_w]
    rfl
   refine pure_ (i:=24) (N:=some 78) (v := ?_) (a' := ?_) #[qT,qT,qT,qT,qT,qT,qT,qT,qT,qT,qT,qT,qT,qT,qT,qT,qT,qT,qT,qT,qT,qT,qT,qT,qT,qF,qF,qF,qF,qF,qF,qF,qF,qF,qF,qF,qF,qF,qF,qF] rfl rfl (by kernel_rfl) (fun _ _ _ h=>h) (Or.inl ⟨by rfl, ?_⟩) ?_ ?_
   rotate_left
   ·intro w'
    go_simp
    with_reducible rfl
   rotate_left
   ·simp only [Act.put,qs1,qs2,qs3,i64_w,i32_w]
    rfl
   refine pure_ (i:=25) (N:=some 79) (v := ?_) (a' := ?_) #[qT,qT,qT,qT,qT,qT,qT,qT,qT,qT,qT,qT,qT,qT,qT,qT,qT,qT,qT,qT,qT,qT,qT,qT,qT,qT,qF,qF,qF,qF,qF,qF,qF,qF,qF,qF,qF,qF,qF,qF] rfl rfl (by kernel_rfl) (fun _ _ _ h=>h) (Or.inl ⟨by rfl, ?_⟩) ?_ ?_
   rotate_left
   ·intro w'
    go_simp
    with_reducible rfl
   rotate_left
   ·simp only [Act.put,qs1,qs2,qs3,i64_w,i32_w]
    rfl
   refine pure_ (i:=26) (N:=some 80) (v := ?_) (a' := ?_) #[qT,qT,qT,qT,qT,qT,qT,qT,qT,qT,qT,qT,qT,qT,qT,qT,qT,qT,qT,qT,qT,qT,qT,qT,qT,qT,qT,qF,qF,qF,qF,qF,qF,qF,qF,qF,qF,qF,qF,qF] rfl rfl (by kernel_rfl) (fun _ _ _ h=>h) (Or.inl ⟨by rfl, ?_⟩) ?_ ?_
   rotate_left
   ·intro w'
    go_simp
    with_reducible rfl
   rotate_left
   ·simp only [Act.put,qs1,qs2,qs3,i64_w,i32_w]
    rfl
   refine one_ (i:=27) (N:=some 81) #[qT,qT,qT,qT,qT,qT,qT,qT,qT,qT,qT,qT,qT,qT,qT,qT,qT,qT,qT,qT,qT,qT,qT,qT,qT,qT,qT,qT,qF,qF,qF,qF,qF,qF,qF,qF,qF,qF,qF,qF] rfl rfl (by kernel_rfl) (by decide) (fun K hK => ?_)
   refine goes_ Try.func17 (by kernel_rfl) rfl #[.slice (some ⟨ba,0,none⟩) (bs.length+40) capa,.slice Ab bs.length cb] (by rfl) rfl rfl (by (try simp only [List.map_toArray,List.map_cons,List.map_nil]);first | done | rfl) ?_
   refine (wt.still17 Q7.out.r2.r3.all LE.out HBL2.out (Kd.C_below HB0.out Q7.out.r2.r3.b) HCB.out).mono ?_
   rintro e w8 ⟨rfl,hb⟩
   refine ⟨_,rfl, ?_⟩
   have Q8:=Aside0.mk (Q7.out.below hb)
   clear hb Q7
   refine hK.out _ _ ⟨(blk_cell Q8.out.r2.bx 0).trans rfl,(blk_cell Q8.out.r2.bx 1).trans rfl,(blk_cell Q8.out.r2.bx 2).trans rfl,(blk_cell Q8.out.r2.bx 3).trans rfl,(blk_cell Q8.out.r2.bx 4).trans rfl,(CE0.out.below Q8.out.r2.r3.b).d0,(CE0.out.below Q8.out.r2.r3.b).d1,(CE0.out.below Q8.out.r2.r3.b).d2,(CE0.out.below Q8.out.r2.r3.b).d3,(CE0.out.below Q8.out.r2.r3.b).d4,SR.out _ Ap r.length (Kd.R_reads' Q8.out.p).2.2,SR.out _ Aw cw Q8.out.r2.r3.wn⟩ (fun hHeld => ?_)
   clear hK K
   refine norm_ (a' := ?_) ?_ ?_
   rotate_left
   ·show Act.put _ (some 81) _=_
    simp only [Act.put,qs1,qs2,qs3,i64_w,i32_w]
    rfl
   refine pure_ (i:=28) (N:=some 82) (v := ?_) (a' := ?_) #[qT,qT,qT,qT,qT,qT,qT,qT,qT,qT,qT,qT,qT,qT,qT,qT,qT,qT,qT,qT,qT,qT,qT,qT,qT,qT,qT,qT,qT,qF,qF,qF,qF,qF,qF,qF,qF,qF,qF,qF] rfl rfl (by kernel_rfl) (fun _ _ _ h=>h) (Or.inl ⟨by rfl, ?_⟩) ?_ ?_
   rotate_left
   ·intro w'
    go_simp
    with_reducible rfl
   rotate_left
   ·simp only [Act.put,qs1,qs2,qs3,i64_w,i32_w]
    rfl
   refine pure_ (i:=29) (N:=some 83) (v := ?_) (a' := ?_) #[qT,qT,qT,qT,qT,qT,qT,qT,qT,qT,qT,qT,qT,qT,qT,qT,qT,qT,qT,qT,qT,qT,qT,qT,qT,qT,qT,qT,qT,qT,qF,qF,qF,qF,qF,qF,qF,qF,qF,qF] rfl rfl (by kernel_rfl) (fun _ _ _ h=>h) (Or.inl ⟨by rfl, ?_⟩) ?_ ?_
   rotate_left
   ·intro w'
    go_simp
    with_reducible rfl
   rotate_left
   ·simp only [Act.put,qs1,qs2,qs3,i64_w,i32_w]
    rfl
   refine pure_ (i:=30) (N:=some 84) (v := ?_) (a' := ?_) #[qT,qT,qT,qT,qT,qT,qT,qT,qT,qT,qT,qT,qT,qT,qT,qT,qT,qT,qT,qT,qT,qT,qT,qT,qT,qT,qT,qT,qT,qT,qT,qF,qF,qF,qF,qF,qF,qF,qF,qF] rfl rfl (by kernel_rfl) (fun _ _ _ h=>h) (Or.inl ⟨by rfl, ?_⟩) ?_ ?_
   rotate_left
   ·intro w'
    go_simp
    with_reducible rfl
   rotate_left
   ·simp only [Act.put,qs1,qs2,qs3,i64_w,i32_w]
    rfl
   refine pure_ (i:=33) (N:=some 87) (v := ?_) (a' := ?_) #[qT,qT,qT,qT,qT,qT,qT,qT,qT,qT,qT,qT,qT,qT,qT,qT,qT,qT,qT,qT,qT,qT,qT,qT,qT,qT,qT,qT,qT,qT,qT,qF,qF,qT,qF,qF,qF,qF,qF,qF] rfl rfl (by kernel_rfl) (fun _ _ _ h=>h) (Or.inl ⟨by rfl, ?_⟩) ?_ ?_
   rotate_left
   ·intro w'
    go_simp
    with_reducible rfl
   rotate_left
   ·simp only [Act.put,qs1,qs2,qs3,i64_w,i32_w]
    rfl
   refine pure_ (i:=34) (N:=some 88) (v := ?_) (a' := ?_) #[qT,qT,qT,qT,qT,qT,qT,qT,qT,qT,qT,qT,qT,qT,qT,qT,qT,qT,qT,qT,qT,qT,qT,qT,qT,qT,qT,qT,qT,qT,qT,qF,qF,qT,qT,qF,qF,qF,qF,qF] rfl rfl (by kernel_rfl) (fun _ _ _ h=>h) (Or.inl ⟨by rfl, ?_⟩) ?_ ?_
   rotate_left
   ·intro w'
    go_simp
    with_reducible rfl
   rotate_left
   ·simp only [Act.put,qs1,qs2,qs3,i64_w,i32_w]
    rfl
   refine pure_ (i:=35) (N:=some 89) (v := ?_) (a' := ?_) #[qT,qT,qT,qT,qT,qT,qT,qT,qT,qT,qT,qT,qT,qT,qT,qT,qT,qT,qT,qT,qT,qT,qT,qT,qT,qT,qT,qT,qT,qT,qT,qF,qF,qT,qT,qT,qF,qF,qF,qF] rfl rfl (by kernel_rfl) (fun _ _ _ h=>h) (Or.inl ⟨by rfl, ?_⟩) ?_ ?_
   rotate_left
   ·intro w'
    go_simp
    with_reducible rfl
   rotate_left
   ·simp only [Act.put,qs1,qs2,qs3,i64_w,i32_w]
    rfl
   refine take_ (i:=31) (N:=some 85) (v := ?_) (a' := ?_) #[qT,qT,qT,qT,qT,qT,qT,qT,qT,qT,qT,qT,qT,qT,qT,qT,qT,qT,qT,qT,qT,qT,qT,qT,qT,qT,qT,qT,qT,qT,qT,qT,qF,qT,qT,qT,qF,qF,qF,qF] rfl rfl (by kernel_rfl) (fun _ _ _ h=>h) (Or.inl ⟨by rfl, ?_⟩) hHeld ?_ ?_
   rotate_left
   ·rintro w' ⟨s0,s1,s2,s3,s4,s5,s6,s7,s8,s9,s10,s11⟩
    go_simp
    with_reducible rfl
   rotate_left
   ·simp only [Act.put,qs1,qs2,qs3,i64_w,i32_w]
    rfl
   refine take_ (i:=36) (N:=some 90) (v := ?_) (a' := ?_) #[qT,qT,qT,qT,qT,qT,qT,qT,qT,qT,qT,qT,qT,qT,qT,qT,qT,qT,qT,qT,qT,qT,qT,qT,qT,qT,qT,qT,qT,qT,qT,qT,qF,qT,qT,qT,qT,qF,qF,qF] rfl rfl (by kernel_rfl) (fun _ _ _ h=>h) (Or.inl ⟨by rfl, ?_⟩) hHeld ?_ ?_
   rotate_left
   ·rintro w' ⟨s0,s1,s2,s3,s4,s5,s6,s7,s8,s9,s10,s11⟩
    go_simp
    with_reducible rfl
   rotate_left
   ·simp only [Act.put,qs1,qs2,qs3,i64_w,i32_w]
    rfl
   refine one_ (i:=32) (N:=some 86) #[qT,qT,qT,qT,qT,qT,qT,qT,qT,qT,qT,qT,qT,qT,qT,qT,qT,qT,qT,qT,qT,qT,qT,qT,qT,qT,qT,qT,qT,qT,qT,qT,qT,qT,qT,qT,qT,qF,qF,qF] rfl rfl (by kernel_rfl) (by decide) (fun K hK => ?_)
   refine goes_ Try.func18 (by kernel_rfl) rfl #[.agg #[.int .i64 x.f0,.int .i64 x.f1,.string x.f2,.slice A5 x.f3.length c5,.slice A6 x.f4.length c6]] (by rfl) rfl rfl (by (try simp only [List.map_toArray,List.map_cons,List.map_nil]);first | done | rfl) ?_
   refine (LEN.out _ A5 c5 A6 c6 (Q8.out.r2.rows CE0.out.g3 CE0.out.l3 CE0.out.g4 CE0.out.l4).1 (Q8.out.r2.rows CE0.out.g3 CE0.out.l3 CE0.out.g4 CE0.out.l4).2.1 (Q8.out.r2.rows CE0.out.g3 CE0.out.l3 CE0.out.g4 CE0.out.l4).2.2.1 (Q8.out.r2.rows CE0.out.g3 CE0.out.l3 CE0.out.g4 CE0.out.l4).2.2.2).mono ?_
   rintro e w9 ⟨rfl,hb⟩
   refine ⟨_,rfl, ?_⟩
   have Q9:=Aside0.mk (Q8.out.below hb)
   clear hb Q8
   refine hK.out _ _ ⟨(blk_cell Q9.out.r2.bx 0).trans rfl,(blk_cell Q9.out.r2.bx 1).trans rfl,(blk_cell Q9.out.r2.bx 2).trans rfl,(blk_cell Q9.out.r2.bx 3).trans rfl,(blk_cell Q9.out.r2.bx 4).trans rfl,(CE0.out.below Q9.out.r2.r3.b).d0,(CE0.out.below Q9.out.r2.r3.b).d1,(CE0.out.below Q9.out.r2.r3.b).d2,(CE0.out.below Q9.out.r2.r3.b).d3,(CE0.out.below Q9.out.r2.r3.b).d4,SR.out _ Ap r.length (Kd.R_reads' Q9.out.p).2.2,SR.out _ Aw cw Q9.out.r2.r3.wn⟩ (fun hHeld => ?_)
   clear hK K
   refine norm_ (a' := ?_) ?_ ?_
   rotate_left
   ·show Act.put _ (some 86) _=_
    simp only [Act.put,qs1,qs2,qs3,i64_w,i32_w]
    rfl
   refine one_ (i:=37) (N:=some 91) #[qT,qT,qT,qT,qT,qT,qT,qT,qT,qT,qT,qT,qT,qT,qT,qT,qT,qT,qT,qT,qT,qT,qT,qT,qT,qT,qT,qT,qT,qT,qT,qT,qT,qT,qT,qT,qT,qT,qF,qF] rfl rfl (by kernel_rfl) (by decide) (fun K hK => ?_)
   refine goes_ Try.func19 (by kernel_rfl) rfl #[.agg #[.int .i64 x.f0,.int .i64 x.f1,.string x.f2,.slice A3 x.f3.length c3,.slice A4 x.f4.length c4]] (by rfl) rfl rfl (by (try simp only [List.map_toArray,List.map_cons,List.map_nil]);first | done | rfl) ?_
   refine (RLN.out _ (CE0.out.below Q9.out.r2.r3.b).g3 (CE0.out.below Q9.out.r2.r3.b).g4).mono ?_
   rintro e w10 ⟨rfl,hb⟩
   refine ⟨_,rfl, ?_⟩
   have Q10:=Aside0.mk (Q9.out.below hb)
   clear hb Q9
   refine hK.out _ _ ⟨(blk_cell Q10.out.r2.bx 0).trans rfl,(blk_cell Q10.out.r2.bx 1).trans rfl,(blk_cell Q10.out.r2.bx 2).trans rfl,(blk_cell Q10.out.r2.bx 3).trans rfl,(blk_cell Q10.out.r2.bx 4).trans rfl,(CE0.out.below Q10.out.r2.r3.b).d0,(CE0.out.below Q10.out.r2.r3.b).d1,(CE0.out.below Q10.out.r2.r3.b).d2,(CE0.out.below Q10.out.r2.r3.b).d3,(CE0.out.below Q10.out.r2.r3.b).d4,SR.out _ Ap r.length (Kd.R_reads' Q10.out.p).2.2,SR.out _ Aw cw Q10.out.r2.r3.wn⟩ (fun hHeld => ?_)
   clear hK K
   refine norm_ (a' := ?_) ?_ ?_
   rotate_left
   ·show Act.put _ (some 91) _=_
    simp only [Act.put,qs1,qs2,qs3,i64_w,i32_w]
    rfl
   refine pure_ (i:=38) (N:=some 92) (v := ?_) (a' := ?_) #[qT,qT,qT,qT,qT,qT,qT,qT,qT,qT,qT,qT,qT,qT,qT,qT,qT,qT,qT,qT,qT,qT,qT,qT,qT,qT,qT,qT,qT,qT,qT,qT,qT,qT,qT,qT,qT,qT,qT,qF] rfl rfl (by kernel_rfl) (fun _ _ _ h=>h) (Or.inl ⟨by rfl, ?_⟩) ?_ ?_
   rotate_left
   ·intro w'
    go_simp
    with_reducible rfl
   rotate_left
   ·simp only [Act.put,qs1,qs2,qs3,i64_w,i32_w]
    rfl
   refine pure_ (i:=39) (N:=some 93) (v := ?_) (a' := ?_) #[qT,qT,qT,qT,qT,qT,qT,qT,qT,qT,qT,qT,qT,qT,qT,qT,qT,qT,qT,qT,qT,qT,qT,qT,qT,qT,qT,qT,qT,qT,qT,qT,qT,qT,qT,qT,qT,qT,qT,qT] rfl rfl (by kernel_rfl) (fun _ _ _ h=>h) (Or.inl ⟨by rfl, ?_⟩) ?_ ?_
   rotate_left
   ·intro w'
    go_simp
    with_reducible rfl
   rotate_left
   ·simp only [Act.put,qs1,qs2,qs3,i64_w,i32_w]
    rfl
   refine done_ (by kernel_rfl) ?_
   go_wp2_with (first | (go_at_call 20;refine (wt.wiped20 Q10.out.p HRL.out).mono ?_;rintro e_ w11 ⟨rfl,ho⟩;have Q11:=Aside0.mk (Q10.out.wiped ho);clear ho Q10;have u0:w11.cell? ⟨w1.heap.size,0,none⟩=some (.int .i64 x.f0):=(blk_cell Q11.out.bx 0).trans rfl;have u1:w11.cell? ⟨w1.heap.size,1,none⟩=some (.int .i64 x.f1):=(blk_cell Q11.out.bx 1).trans rfl;have u2:w11.cell? ⟨w1.heap.size,2,none⟩=some (.string x.f2):=(blk_cell Q11.out.bx 2).trans rfl;have u3:w11.cell? ⟨w1.heap.size,3,none⟩=some (.slice A5 x.f3.length c5):=(blk_cell Q11.out.bx 3).trans rfl;have u4:w11.cell? ⟨w1.heap.size,4,none⟩=some (.slice A6 x.f4.length c6):=(blk_cell Q11.out.bx 4).trans rfl) | (go_at_call 21;refine (Q11.out.call21 CE0.out.g3 CE0.out.l3 CE0.out.g4 CE0.out.l4 HSZ.out HK4.out HFW.out ⟨#[120]⟩).mono ?_;rintro e_ w12 ⟨rfl,ho⟩;have Q12:=Aside0.mk ho;have sq:=SR.out w12 Aq r.length ho.q;have sw:=SR.out w12 Aw cw ho.wn;clear ho Q11 u0 u1 u2 u3 u4) | (go_at_call 17;refine (wt.still17 Q12.out.all LE.out HBL2.out (Kd.C_below HB0.out Q12.out.b) HCB.out).mono ?_;rintro e_ w13 ⟨rfl,hb⟩;have O13:=Aside0.mk (below_then Q12.out.b Q12.out.b.size hb);clear hb Q12 sq sw))
   go_roundw
   case rel=>exact ⟨k+1,by rw [HWR.out];rfl,HK1,O13⟩
   case measure=>exact HM.out
  ·have i1:decide ((k:Int) < (vs.length:Int))=false:=decide_eq_false (by omega)
   have i2:decide (k < vs.length)=false:=decide_eq_false hlt
   have i3:(k < vs.length)=False:=eq_false hlt
   have e1:wrap64 ((bs.length:Int)+1)=(bz.length:Int):=by
    have h1:=HZL.out
    have h2:=HBL.out
    clear PUTZ HA HB0
    rw [X.w64 _ (by omega) (by omega)];omega
   have e2:((bz.length:Int) == (bz.length:Int))=true:=beq_self_eq_true _
   clear hlt
   go_wp2_with (first | (go_at_call 15;refine (PUTZ.out _ (Kd.C_below HB0.out HB.out)).mono ?_;rintro e_ w1 ⟨Az,cz,rfl,hr,hb⟩;have O1:=Aside0.mk (below_then HB.out HB.out.size hb);clear hr hb))
   go_ret
   exact ⟨rfl,O1.out⟩
end
end Go.Proofs.Ytnkbobblnhaclaa.X
namespace Go.Proofs.Ytnkbobblnhaclaa.X
open Go.RowKit Go.Proofs.YtnkbobblnhaclaaW.PrintWords Go.Proofs.YtnkbobblnhaclaaW.PrintLast Go.Proofs.YtnkbobblnhaclaaW.PrintMore Go.Proofs.YtnkbobblnhaclaaW
section
set_option maxHeartbeats 4000000
set_option maxRecDepth 100000
open Go.Proofs.Ytnkbobblnhaclaa
open Go.ChangeShapes Go.WideShapes Go.ChangeAt Go.RowKit in
theorem wt.rowV_open {H:Type} {enc:TypeId × Value→H} {w:World} {held:Bool} {spare:Nat→Bool} {A:Option Addr} {len c:Nat} {y:DataW H} {ps:List MemPlace} (h0:DataW.Trod enc Try.prog w 0 spare held 22 (.slice A len c) y ps) :
  ∃ xs:List S25,xs.length=len∧xs.length≤c∧k25.C w A xs.length xs∧(∀ x ∈ xs,Val x)∧(Fits Try.prog 22 y→∀ x ∈ xs,Siz x)∧xs.length≤Rows.uptoBulk y:=by
 obtain ⟨fuel,h⟩:=h0
 obtain ⟨A',xs,c',e,l,m,hC,hg,_⟩:=row_size k25 (fun x z=>Val x∧(Fits Try.prog 25 z→Siz x)) Try.underlying22 (by kernel_rfl) fuel (fun n _ cs y hy=>val_size n cs y hy) h
 simp only [Value.cells] at e
 have e:Value.slice A len c=.slice A' xs.length c':=by simpa using e
 injection e with e1 e2 e3
 subst e1;subst e2;subst e3
 refine ⟨xs,rfl,l,hC,fun x hx => ?_,fun hf x hx => ?_, ?_⟩
 ·obtain ⟨_,h,_⟩:=hg x hx
  exact h.1
 ·obtain ⟨_,h,hz⟩:=hg x hx
  exact h.2 (hz hf)
 ·rcases DataW.trod_slice Try.underlying22 h with ⟨h1,_⟩ | ⟨a,len,cap,elems,rest,n,_,hcs,hy,_,hlc,hcm,hlen,hel0,_,_⟩
  ·simp [Value.cells] at h1
   rw [h1.2.1]
   exact Nat.zero_le _
  ·simp [Value.cells] at hcs
   obtain ⟨_,hl,_⟩:=hcs
   obtain ⟨hy,_⟩:=Prod.mk.inj hy
   subst hy
   have hbulk:=XUp.slice_le (elems.map (·.1)) (rest.map (·.1))
   rw [List.length_map] at hbulk
   omega
end
end Go.Proofs.Ytnkbobblnhaclaa.X
