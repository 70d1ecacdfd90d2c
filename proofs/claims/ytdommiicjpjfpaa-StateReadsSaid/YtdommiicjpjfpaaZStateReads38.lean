import Derived.Test.YtdommiicjpjfpaaZStateReads3
import Derived.Test.YtdommiicjpjfpaaZStateReads2
import Derived.Test.YtdommiicjpjfpaaZStateReads4
import Derived.WalkLawsBesides
import Derived.Laws.Pointers
import Derived.Shelf.Abstract
import Derived.Deep.DeepMust
import Derived.Deep.QuietTactic
import Derived.BigQuiet
import Derived.Test.YtdommiicjpjfpaaZStateReads37
set_option linter.unusedVariables false
set_option linter.unusedSimpArgs false
namespace Go.Proofs.Ytdommiicjpjfpaa.X
open Go.RowKit Go.Proofs.YtdommiicjpjfpaaW.PrintWords Go.Proofs.YtdommiicjpjfpaaW.PrintLast Go.Proofs.YtdommiicjpjfpaaW.PrintMore Go.Proofs.YtdommiicjpjfpaaW
section
set_option maxHeartbeats 4000000
set_option maxRecDepth 100000
structure sa.LR (w0 w W:World) (g:Nat) (A:Option Addr) (m c:Nat) (vb:Nat) (a wq f p kd:Int) (v3 v4:Value) (acc:List S34) (ks:List ByteArray):Prop where
 blk:sa.RB W g A m c a wq f p
 fr:sa.Fr g w W
 bel:Below w0.heap.size w0 W
 box:W.heap[vb]?=some (.cells #[.int .i64 kd,.int .i64 0,.string ⟨#[]⟩,v3,v4] 34 (0,0))
 res:W.heap[w.heap.size]?=some (.cells #[.int .i64 0,.int .i64 0,.string ⟨#[]⟩,.slice none 0 0,.slice none 0 0] 34 (0,0))
 row:k34.R 34 W w0.heap.size (fun k=>vb < k∧some k ≠ v4.ownBlock) v3 acc
 keys:Kd.string.R 9 W w0.heap.size (fun k=>vb < k) v4 ks
 hvb:w.heap.size < vb
 hgl:g < w.heap.size
 hg:w0.heap.size≤g
section
variable {w0 w W W1:World} {g:Nat} {A:Option Addr} {m c:Nat} {vb:Nat} {a wq f p a1 wq1 f1 p1 kd:Int} {v3 v4:Value} {acc:List S34} {ks:List ByteArray}
theorem sa.LR.lt (h:sa.LR w0 w W g A m c vb a wq f p kd v3 v4 acc ks):vb < W.heap.size:=qAe h.box
theorem sa.LR.below (h:sa.LR w0 w W g A m c vb a wq f p kd v3 v4 acc ks) (hb:Below W.heap.size W W1):sa.LR w0 w W1 g A m c vb a wq f p kd v3 v4 acc ks :=
 ⟨h.blk.below hb,h.fr.trans (sa.Fr.of_below hb),qAY h.bel h.bel.size hb,qAX h.box hb,qAX h.res hb,Kd.qAp h.row hb,Kd.qAp h.keys hb,h.hvb,h.hgl,h.hg⟩
theorem sa.LR.step (h:sa.LR w0 w W g A m c vb a wq f p kd v3 v4 acc ks) (hn:sa.RNx w0 W W1 g A m c a1 wq1 f1 p1):sa.LR w0 w W1 g A m c vb a1 wq1 f1 p1 kd v3 v4 acc ks :=
 have h1:=h.hgl
 have h2:=h.hvb
 ⟨hn.blk,h.fr.trans hn.fr,hn.bel,(hn.fr.2 vb h.lt (by omega)).trans h.box,(hn.fr.2 _ (qAe h.res) (by omega)).trans h.res,Kd.R_step h.row (fun k hk hlt=>hn.fr.2 k hlt (by have:=hk.1;omega)),Kd.R_step h.keys (fun k hk hlt=>hn.fr.2 k hlt (by omega)),h2,h1,h.hg⟩
theorem sa.LR.app3 {v5:Value} {acc2:List S34} (h:sa.LR w0 w W g A m c vb a wq f p kd v3 v4 acc ks) (ho:k34.R 34 W1 w0.heap.size (fun k=>vb < k∧some k ≠ v4.ownBlock) v5 acc2) (hb:Below w0.heap.size w0 W1) (hg:W.grownBy W1 v3.ownBlock):sa.LR w0 w (W1.setCell ⟨vb,3,none⟩ v5) g A m c vb a wq f p kd v5 v4 acc2 ks:=by
 have h1:=h.hgl
 have h2:=h.hvb
 have h3:=h.hg
 have hne:∀ b,b≤vb→some b ≠ v3.ownBlock:=fun b hb2 e=>by have:=(h.row.1 b e.symm).1;omega
 have hsz:w.heap.size≤W.heap.size:=h.fr.1
 have fr1:sa.Fr g w W1:=⟨Nat.le_trans hsz hg.size,fun k hk hkg=>(hg.block k (by omega) (hne k (by omega))).trans (h.fr.2 k hk hkg)⟩
 have box1:=qA1 h.box hg (hne vb (Nat.le_refl _))
 exact ⟨(Below.heap_setCell W1 ⟨vb,3,none⟩ v5 g (show g ≠ vb by omega)).trans (qA1 h.blk hg (hne g (by omega))),
  ⟨Nat.le_trans fr1.1 (by simp [World.setCell]),fun k hk hkg=>(Below.heap_setCell W1 ⟨vb,3,none⟩ v5 k (show k ≠ vb by omega)).trans (fr1.2 k hk hkg)⟩,
  hb.setCell (show w0.heap.size≤vb by omega) v5,
  qAy box1 3 v5 rfl,
  (Below.heap_setCell W1 ⟨vb,3,none⟩ v5 _ (show w.heap.size ≠ vb by omega)).trans (qA1 h.res hg (hne _ (by omega))),
  Kd.R_far ho (fun k hk=>by show k ≠ vb;have:=hk.1;omega) v5,
  Kd.R_far (Kd.R_over' h.keys (Kd.R_typed h.row) (by decide) hg) (fun k hk=>by show k ≠ vb;omega) v5,h2,h1,h3⟩
theorem sa.LR.app4 {v5:Value} {ks2:List ByteArray} (h:sa.LR w0 w W g A m c vb a wq f p kd v3 v4 acc ks) (ho:Kd.string.R 9 W1 w0.heap.size (fun k=>vb < k) v5 ks2) (hb:Below w0.heap.size w0 W1) (hg:W.grownBy W1 v4.ownBlock) (hat:v5.ownBlock=v4.ownBlock ∨ ∃ b,v5.ownBlock=some b∧W.heap.size≤b):sa.LR w0 w (W1.setCell ⟨vb,4,none⟩ v5) g A m c vb a wq f p kd v3 v5 acc ks2:=by
 have h1:=h.hgl
 have h2:=h.hvb
 have h3:=h.hg
 have hne:∀ b,b≤vb→some b ≠ v4.ownBlock:=fun b hb2 e=>by have:=h.keys.1 b e.symm;omega
 have hsz:w.heap.size≤W.heap.size:=h.fr.1
 have fr1:sa.Fr g w W1:=⟨Nat.le_trans hsz hg.size,fun k hk hkg=>(hg.block k (by omega) (hne k (by omega))).trans (h.fr.2 k hk hkg)⟩
 have box1:=qA1 h.box hg (hne vb (Nat.le_refl _))
 exact ⟨(Below.heap_setCell W1 ⟨vb,4,none⟩ v5 g (show g ≠ vb by omega)).trans (qA1 h.blk hg (hne g (by omega))),
  ⟨Nat.le_trans fr1.1 (by simp [World.setCell]),fun k hk hkg=>(Below.heap_setCell W1 ⟨vb,4,none⟩ v5 k (show k ≠ vb by omega)).trans (fr1.2 k hk hkg)⟩,
  hb.setCell (show w0.heap.size≤vb by omega) v5,
  qAy box1 4 v5 rfl,
  (Below.heap_setCell W1 ⟨vb,4,none⟩ v5 _ (show w.heap.size ≠ vb by omega)).trans (qA1 h.res hg (hne _ (by omega))),
  Kd.R_far (Kd.R_after h.row hg hat) (fun k hk=>by show k ≠ vb;have:=hk.1;omega) v5,
  Kd.R_far ho (fun k hk=>by show k ≠ vb;omega) v5,h2,h1,h3⟩
end
theorem sa.qCK.open {r:sa.R3 S34} {w0 w w':World} {g:Nat} {A:Option Addr} {m c:Nat} {p:Int} {e:Ending} (h:sa.qCK r w0 w g A m c p e w'):∃ (x:S34) (v3 v4:Value) (a2 wq2 f2 p2:Int),e=.returned (.agg #[.int .i64 x.f0,.int .i64 x.f1,.string x.f2,v3,v4])∧k34.R 34 w' w0.heap.size (fun k=>w.heap.size≤k) v3 x.f3∧Kd.string.R 9 w' w0.heap.size (fun k=>w.heap.size≤k) v4 x.f4∧sa.RNx w0 w w' g A m c a2 wq2 f2 p2∧((f2=0∧p2=p∧r=.ok x a2 (2048 - wq2)) ∨ (f2 ≠ 0∧r=.bad f2 p2)):=by
 cases r with
 | ok x a2 l2 =>
  obtain ⟨⟨v3,v4,h1,h2,h3⟩,h4⟩:=h
  exact ⟨x,v3,v4,_,_,_,_,h1,h2,h3,h4,Or.inl ⟨rfl,rfl,by rw [show 2048 - (2048 - l2)=l2 by omega]⟩⟩
 | bad f q =>
  obtain ⟨⟨x,v3,v4,h1,h2,h3⟩,hf,a2,wq2,h4⟩:=h
  exact ⟨x,v3,v4,_,_,_,_,h1,h2,h3,h4,Or.inr ⟨hf,rfl⟩⟩
theorem sa.arr_step {f:Int→Int→sa.R3 S34} {n j:Nat} {acc:List S34} {a' l':Int} {T:sa.R3 (List S34)} {x:S34} {a2 wq2 f2 p2 p:Int} (hj:j < n) (hrem:sa.arrL f (n - j) acc a' l'=T) (hout:(f2=0∧p2=p∧f a' l'=.ok x a2 (2048 - wq2)) ∨ (f2 ≠ 0∧f a' l'=.bad f2 p2)):(f2=0∧p2=p∧sa.arrL f (n - (j+1)) (acc ++ [x]) a2 (2048 - wq2)=T∧f a' l'=.ok x a2 (2048 - wq2)) ∨ (f2 ≠ 0∧T=.bad f2 p2):=by
 rw [show n - j=(n - (j+1))+1 by omega] at hrem
 unfold sa.arrL at hrem
 rcases hout with ⟨h1,h2,h3⟩ | ⟨h1,h2⟩
 ·rw [h3] at hrem
  exact Or.inl ⟨h1,h2,hrem,h3⟩
 ·rw [h2] at hrem
  exact Or.inr ⟨h1,hrem.symm⟩
theorem sa.rec_step {bs:List Int} {u:Int→Int × Int × Int} {f:Int→Int→sa.R3 S34} {n j:Nat} {acc:List S34} {ks:List ByteArray} {kk:ByteArray} {a' l' ak lk:Int} {T:sa.R3 (List ByteArray × List S34)} {x:S34} {a2 wq2 f2 p2 p:Int} (hj:j < n) (hrem:sa.recL bs u f (n - j) ks acc a' l'=T) (hk:sa.keyS bs u ks a' l'=.ok kk ak lk) (hout:(f2=0∧p2=p∧f ak lk=.ok x a2 (2048 - wq2)) ∨ (f2 ≠ 0∧f ak lk=.bad f2 p2)):(f2=0∧p2=p∧sa.recL bs u f (n - (j+1)) (ks ++ [kk]) (acc ++ [x]) a2 (2048 - wq2)=T∧f ak lk=.ok x a2 (2048 - wq2)) ∨ (f2 ≠ 0∧T=.bad f2 p2):=by
 rw [show n - j=(n - (j+1))+1 by omega] at hrem
 unfold sa.recL at hrem
 rw [hk] at hrem
 dsimp only at hrem
 rcases hout with ⟨h1,h2,h3⟩ | ⟨h1,h2⟩
 ·rw [h3] at hrem
  exact Or.inl ⟨h1,h2,hrem,h3⟩
 ·rw [h2] at hrem
  exact Or.inr ⟨h1,hrem.symm⟩
theorem sa.rec_bad {bs:List Int} {u:Int→Int × Int × Int} {f:Int→Int→sa.R3 S34} {n j:Nat} {acc:List S34} {ks:List ByteArray} {a' l' ee pp:Int} {T:sa.R3 (List ByteArray × List S34)} (hj:j < n) (hrem:sa.recL bs u f (n - j) ks acc a' l'=T) (hk:sa.keyS bs u ks a' l'=.bad ee pp):T=.bad ee pp:=by
 rw [show n - j=(n - (j+1))+1 by omega] at hrem
 unfold sa.recL at hrem
 rw [hk] at hrem
 exact hrem.symm
theorem sa.rd_last (ks:List ByteArray) (k:ByteArray) (j:Nat) (h:ks.length=j):k=rdOf ByteArray.empty (ks ++ [k]) (((j+1:Nat):Int) - 1):=by
 have e:(((j+1:Nat):Int) - 1).toNat=j:=by omega
 unfold rdOf
 rw [e,List.getD_eq_getElem?_getD,List.getElem?_append_right (by omega),h,Nat.sub_self]
 rfl
theorem sa.rv_t5E {bs:List Int} {u i:Int→Int × Int × Int} (hU:sa.Uin bs u i) (hR:sa.Rin bs u i) {w0 w:World} {g:Nat} {A:Option Addr} {c:Nat} {a wq p:Int} (hb:Below w0.heap.size w0 w) (hg:w0.heap.size≤g) (hB:sa.RB w g A bs.length c a wq 0 p) (hC:(Kd.int .u8).C w A bs.length bs) (hc:bs.length≤c) (within:Int) (hw:within < 8) (ha0:0≤a) (ha1:a < (bs.length:Int)) (hwq:0≤wq∧wq+1≤2048) (ht:rd bs a=5) {f q:Int} (hf:f ≠ 0) (hcb:sa.qBe u a 1 (a+1) (2048 - (wq+1))=.bad f q) :
  Calls Try.prog 62 #[.pointer (some ⟨g,0,none⟩),.int .i64 within] w (sa.qCK (.bad f q) w0 w g A bs.length c p):=by
 have HB:=zA hB
 have HC:=zA hC
 have HCC:=zA hc
 have HBB:=zA hb
 have HGG:=zA hg
 have HLL:=zA hU.L
 have HUU:=zA hU
 have HRR:=zA hR
 have HGL:=zA (show g < w.heap.size from qAe hB)
 have hu25:=Try.underlying34
 have HBW:=zA ((Below.refl w.heap.size w).alloc (Nat.le_refl _) (.cells #[.int .i64 0,.int .i64 0,.string ⟨#[]⟩,.slice none 0 0,.slice none 0 0] 34))
 have BL1:=zA (hb.alloc hb.size (.cells #[.int .i64 0,.int .i64 0,.string ⟨#[]⟩,.slice none 0 0,.slice none 0 0] 34))
 obtain ⟨a,rfl⟩:=Int.eq_ofNat_of_zero_le ha0
 have t0:decide ((a:Int) ≥ (bs.length:Int))=false:=zF (by omega)
 have t1:decide ((bs.length:Int)≤(a:Int))=false:=zF (by omega)
 have t2:decide (bs.length≤a)=false:=zF (by omega)
 have t3:(a:Int) < (bs.length:Int):=ha1
 have t4:a < bs.length:=by omega
 have t5:decide (a < bs.length)=true:=zT t4
 obtain ⟨ad,hA,hx0_⟩:=Kd.qBQ hC (a:Int) (by omega) ha1
 subst hA
 rw [Int.toNat_natCast] at hx0_
 obtain ⟨x,hxd⟩:∃ x,rd bs (a:Int)=x:=⟨_,rfl⟩
 rw [hxd] at hx0_ ht
 have L1:=zA (show sa.RLy (w.alloc (.cells #[.int .i64 0,.int .i64 0,.string ⟨#[]⟩,.slice none 0 0,.slice none 0 0] 34)) g (some ad) bs.length c (a:Int) wq 0 p (ad.add a) x w.heap.size #[.int .i64 0,.int .i64 0,.string ⟨#[]⟩,.slice none 0 0,.slice none 0 0] from ⟨HB.out.below HBW.out,(HBW.out.cell (qs4 w _ hx0_)).trans hx0_,by simpa using heap_alloc_new w _⟩)
 clear hx0_ hxd
 subst ht
 have w1:decide (within ≥ 8)=false:=zF (by omega)
 have w2:decide (8≤within)=false:=zF (by omega)
 have HWQ:=zA hwq
 have hwr:wrap64 ((a:Int)+1)=(a:Int)+1:=by have:=HLL.out;unfold wrap64;omega
 have HCB:=zA hcb
 have HFN:=zA hf
 have g1:(f == 0)=false:=beq_eq_false_iff_ne.2 hf
 have g2:decide (f=0)=false:=zF hf
 have h0:=L1.out.blk.c0;have h1:=L1.out.blk.c1;have h2:=L1.out.blk.c2;have h3:=L1.out.blk.c3;have f1:=L1.out.blk.fz 1;have f2:=L1.out.blk.fz 2;have hx0:=L1.out.byt;have fr_:=qAC L1.out.res 0
 clear ha1 ha0 hwq hw hf hcb
 clear hU hR hb hg hB hC hc
 go_enter Try.func62,Try.ntmps62
 go_wp2_with (first | (go_at_call 76;refine (sa.heavY BL1.out HGG.out L1.out.blk 1 (a:Int) HWQ.out.1 (by omega) HWQ.out.2).mono ?_;rintro e_ w3 ⟨rfl,hx⟩;have L3:=zA (L1.out.fr hx.fr hx.blk);have FR3:=zA ((sa.Fr.of_below HBW.out).trans hx.fr);have BL3:=zA hx.bel;clear hx;clear h0 h1 h2 h3 f1 f2 hx0 fr_;have h0:=L3.out.blk.c0;have h1:=L3.out.blk.c1;have h2:=L3.out.blk.c2;have h3:=L3.out.blk.c3;have f1:=L3.out.blk.fz 1;have f2:=L3.out.blk.fz 2;have hx0:=L3.out.byt;have fr_:=qAC L3.out.res 0) | ((with_reducible refine qAW (p:=62) rfl ?_);go_must (refine qAn ?hg (t:=3) (p:=62) (v:=.tmp 60) (w1:=w3.setCell ⟨g,1,none⟩ (.int .i64 ((a:Int)+1))) ?ho ?hN ?hr ?_);(case ho=>rfl);(case hN=>rfl);(case hg=>rfl);(case hr=>first | (go_simp;done) | (go_simp;rfl));intro w4 ex;have L4:=zA (L3.out.fr (ex▸sa.Fr.set _ _ _ _) (ex▸L3.out.blk.set1 _));have FR4:=zA (show sa.Fr g w w4 from ex▸FR3.out.trans (sa.Fr.set _ _ _ _));have BL4:=zA (show Below w0.heap.size w0 w4 from ex▸BL3.out.setCell HGG.out _);have HV4:=zA (show w.heap.size < w4.heap.size from by { rw [ex,Deep.nblk_setCell];have:=qAe L3.out.res;exact this });clear ex;clear h0 h1 h2 h3 f1 f2 hx0 fr_;have h0:=L4.out.blk.c0;have h1:=L4.out.blk.c1;have h2:=L4.out.blk.c2;have h3:=L4.out.blk.c3;have f1:=L4.out.blk.fz 1;have f2:=L4.out.blk.fz 2;have hx0:=L4.out.byt;have fr_:=qAC L4.out.res 0) | ((with_reducible refine qAW (p:=11) rfl ?_);refine sa.qAo rfl rfl 11 _ rfl w4.heap.size rfl (.int .i64 4) (.int .i64 0) (.string ⟨#[]⟩) (.slice none 0 0) (.slice none 0 0) rfl (fun q hq=>by simp at hq;rcases hq with rfl | rfl | rfl | rfl | rfl <;> rfl) _ rfl (by simpa using heap_alloc_new w4 _) ?_;intro w5 hres hgr;have HB5:=zA (sa.qCA hgr);have L5:=zA (L4.out.below HB5.out);have Q5:=zA (show sa.LR w0 w w5 g (some ad) bs.length c w4.heap.size ((a:Int)+1) (wq+1) 0 p 4 (.slice none 0 0) (.slice none 0 0) [] [] from ⟨L5.out.blk,FR4.out.trans (sa.Fr.of_below HB5.out),qAY BL4.out BL4.out.size HB5.out,hres,L5.out.res,Kd.qA7 _ _ _ _ _,Kd.qA7 _ _ _ _ _,HV4.out,HGL.out,HGG.out⟩);clear hres hgr;clear h0 h1 h2 h3 f1 f2 hx0 fr_;have h0:=L5.out.blk.c0;have h1:=L5.out.blk.c1;have h2:=L5.out.blk.c2;have h3:=L5.out.blk.c3;have f1:=L5.out.blk.fz 1;have f2:=L5.out.blk.fz 2;have hx0:=L5.out.byt;have fr_:=qAC L5.out.res 0) | (go_at_call 78;refine (sa.rnum1 HUU.out HRR.out Q5.out.bel HGG.out Q5.out.blk (sa.qB3 HC.out HB.out Q5.out.fr) HCC.out (a:Int) 1 (by omega) (by have:=HWQ.out;omega)).mono ?_;rw [HCB.out];rintro e_ w6 ⟨⟨y,rfl⟩,b1,b2,hx⟩;have Q6:=zA (Q5.out.step hx);clear hx;clear h0 h1 h2 h3 f1 f2 hx0 fr_))
 generalize w4.heap.size=vb at *
 go_loopw [13] (fun v13 wr=>(v13=.int .i64 0)∧qAA (sa.LR w0 w wr g (some ad) bs.length c vb b1 b2 f q 4 (.slice none 0 0) (.slice none 0 0) [] [])) (fun v13 _=>0)
 case atStart=>exact ⟨rfl,Q6⟩
 case round =>
  clear Q6 Q5 HB5 L5
  obtain ⟨rfl,HL⟩:=hrel
  have h3:=HL.out.blk.c3
  obtain ⟨v3,hv3⟩:∃ v3,v3=(Value.slice none 0 0):=⟨_,rfl⟩
  by_cases hlt:0 < y
  ·have i1:decide (0 < y)=true:=zT hlt
   have hz0:wr.cell? ⟨vb,0,none⟩=some (.int .i64 4):=(qAB HL.out.box 0).trans rfl
   have hz1:wr.cell? ⟨vb,1,none⟩=some (.int .i64 0):=(qAB HL.out.box 1).trans rfl
   have hz2:wr.cell? ⟨vb,2,none⟩=some (.string ⟨#[]⟩):=(qAB HL.out.box 2).trans rfl
   have hz3:wr.cell? ⟨vb,3,none⟩=some (.slice none 0 0):=(qAB HL.out.box 3).trans rfl
   have hz4:wr.cell? ⟨vb,4,none⟩=some (.slice none 0 0):=(qAB HL.out.box 4).trans rfl
   go_wp2_with (first | ((with_reducible refine qAW (p:=4) rfl ?_);refine sa.qAo rfl rfl 4 _ rfl w.heap.size rfl (.int .i64 4) (.int .i64 0) (.string ⟨#[]⟩) (.slice none 0 0) (.slice none 0 0) rfl (fun q hq=>by simp at hq;rcases hq with rfl | rfl | rfl | rfl | rfl <;> rfl) _ rfl HL.out.res ?_;intro w5_ hres hgr;have HRES:=zA hres;have HGR:=zA hgr;clear hgr hres))
   go_wp2
   refine bodyPost_ret (results_cell_row rfl _ _ w.heap.size 34 _ (0,0) _ rfl HRES.out Try.underlying34 rfl (by kernel_rfl)) rfl ?_
   have e1:=HL.out.hgl;have e2:=HL.out.hvb
   exact ⟨⟨⟨4,0,⟨#[]⟩,[],[]⟩,_,_,rfl,Kd.qA7 _ _ _ _ _,Kd.qA7 _ _ _ _ _⟩,HFN.out,_,_,sa.qBa HL.out.fr HL.out.blk (by omega) HGR.out (Nat.le_refl _) HBB.out.size HL.out.bel⟩
  ·have i1:decide (0 < y)=false:=zF hlt
   have hz0:wr.cell? ⟨vb,0,none⟩=some (.int .i64 4):=(qAB HL.out.box 0).trans rfl
   have hz1:wr.cell? ⟨vb,1,none⟩=some (.int .i64 0):=(qAB HL.out.box 1).trans rfl
   have hz2:wr.cell? ⟨vb,2,none⟩=some (.string ⟨#[]⟩):=(qAB HL.out.box 2).trans rfl
   have hz3:wr.cell? ⟨vb,3,none⟩=some (.slice none 0 0):=(qAB HL.out.box 3).trans rfl
   have hz4:wr.cell? ⟨vb,4,none⟩=some (.slice none 0 0):=(qAB HL.out.box 4).trans rfl
   go_wp2_with (first | ((with_reducible refine qAW (p:=4) rfl ?_);refine sa.qAo rfl rfl 4 _ rfl w.heap.size rfl (.int .i64 4) (.int .i64 0) (.string ⟨#[]⟩) (.slice none 0 0) (.slice none 0 0) rfl (fun q hq=>by simp at hq;rcases hq with rfl | rfl | rfl | rfl | rfl <;> rfl) _ rfl HL.out.res ?_;intro w5_ hres hgr;have HRES:=zA hres;have HGR:=zA hgr;clear hgr hres))
   go_wp2
   refine bodyPost_ret (results_cell_row rfl _ _ w.heap.size 34 _ (0,0) _ rfl HRES.out Try.underlying34 rfl (by kernel_rfl)) rfl ?_
   have e1:=HL.out.hgl;have e2:=HL.out.hvb
   exact ⟨⟨⟨4,0,⟨#[]⟩,[],[]⟩,_,_,rfl,Kd.qA7 _ _ _ _ _,Kd.qA7 _ _ _ _ _⟩,HFN.out,_,_,sa.qBa HL.out.fr HL.out.blk (by omega) HGR.out (Nat.le_refl _) HBB.out.size HL.out.bel⟩
theorem sa.rv_t6E {bs:List Int} {u i:Int→Int × Int × Int} (hU:sa.Uin bs u i) (hR:sa.Rin bs u i) {w0 w:World} {g:Nat} {A:Option Addr} {c:Nat} {a wq p:Int} (hb:Below w0.heap.size w0 w) (hg:w0.heap.size≤g) (hB:sa.RB w g A bs.length c a wq 0 p) (hC:(Kd.int .u8).C w A bs.length bs) (hc:bs.length≤c) (within:Int) (hw:within < 8) (ha0:0≤a) (ha1:a < (bs.length:Int)) (hwq:0≤wq∧wq+1≤2048) (ht:rd bs a=6) {f q:Int} (hf:f ≠ 0) (hcb:sa.qBe u a 2 (a+1) (2048 - (wq+1))=.bad f q) :
  Calls Try.prog 62 #[.pointer (some ⟨g,0,none⟩),.int .i64 within] w (sa.qCK (.bad f q) w0 w g A bs.length c p):=by
 have HB:=zA hB
 have HC:=zA hC
 have HCC:=zA hc
 have HBB:=zA hb
 have HGG:=zA hg
 have HLL:=zA hU.L
 have HUU:=zA hU
 have HRR:=zA hR
 have HGL:=zA (show g < w.heap.size from qAe hB)
 have hu25:=Try.underlying34
 have HBW:=zA ((Below.refl w.heap.size w).alloc (Nat.le_refl _) (.cells #[.int .i64 0,.int .i64 0,.string ⟨#[]⟩,.slice none 0 0,.slice none 0 0] 34))
 have BL1:=zA (hb.alloc hb.size (.cells #[.int .i64 0,.int .i64 0,.string ⟨#[]⟩,.slice none 0 0,.slice none 0 0] 34))
 obtain ⟨a,rfl⟩:=Int.eq_ofNat_of_zero_le ha0
 have t0:decide ((a:Int) ≥ (bs.length:Int))=false:=zF (by omega)
 have t1:decide ((bs.length:Int)≤(a:Int))=false:=zF (by omega)
 have t2:decide (bs.length≤a)=false:=zF (by omega)
 have t3:(a:Int) < (bs.length:Int):=ha1
 have t4:a < bs.length:=by omega
 have t5:decide (a < bs.length)=true:=zT t4
 obtain ⟨ad,hA,hx0_⟩:=Kd.qBQ hC (a:Int) (by omega) ha1
 subst hA
 rw [Int.toNat_natCast] at hx0_
 obtain ⟨x,hxd⟩:∃ x,rd bs (a:Int)=x:=⟨_,rfl⟩
 rw [hxd] at hx0_ ht
 have L1:=zA (show sa.RLy (w.alloc (.cells #[.int .i64 0,.int .i64 0,.string ⟨#[]⟩,.slice none 0 0,.slice none 0 0] 34)) g (some ad) bs.length c (a:Int) wq 0 p (ad.add a) x w.heap.size #[.int .i64 0,.int .i64 0,.string ⟨#[]⟩,.slice none 0 0,.slice none 0 0] from ⟨HB.out.below HBW.out,(HBW.out.cell (qs4 w _ hx0_)).trans hx0_,by simpa using heap_alloc_new w _⟩)
 clear hx0_ hxd
 subst ht
 have w1:decide (within ≥ 8)=false:=zF (by omega)
 have w2:decide (8≤within)=false:=zF (by omega)
 have HWQ:=zA hwq
 have hwr:wrap64 ((a:Int)+1)=(a:Int)+1:=by have:=HLL.out;unfold wrap64;omega
 have HCB:=zA hcb
 have HFN:=zA hf
 have g1:(f == 0)=false:=beq_eq_false_iff_ne.2 hf
 have g2:decide (f=0)=false:=zF hf
 have h0:=L1.out.blk.c0;have h1:=L1.out.blk.c1;have h2:=L1.out.blk.c2;have h3:=L1.out.blk.c3;have f1:=L1.out.blk.fz 1;have f2:=L1.out.blk.fz 2;have hx0:=L1.out.byt;have fr_:=qAC L1.out.res 0
 clear ha1 ha0 hwq hw hf hcb
 clear hU hR hb hg hB hC hc
 go_enter Try.func62,Try.ntmps62
 go_wp2_with (first | (go_at_call 76;refine (sa.heavY BL1.out HGG.out L1.out.blk 1 (a:Int) HWQ.out.1 (by omega) HWQ.out.2).mono ?_;rintro e_ w3 ⟨rfl,hx⟩;have L3:=zA (L1.out.fr hx.fr hx.blk);have FR3:=zA ((sa.Fr.of_below HBW.out).trans hx.fr);have BL3:=zA hx.bel;clear hx;clear h0 h1 h2 h3 f1 f2 hx0 fr_;have h0:=L3.out.blk.c0;have h1:=L3.out.blk.c1;have h2:=L3.out.blk.c2;have h3:=L3.out.blk.c3;have f1:=L3.out.blk.fz 1;have f2:=L3.out.blk.fz 2;have hx0:=L3.out.byt;have fr_:=qAC L3.out.res 0) | ((with_reducible refine qAW (p:=62) rfl ?_);go_must (refine qAn ?hg (t:=3) (p:=62) (v:=.tmp 60) (w1:=w3.setCell ⟨g,1,none⟩ (.int .i64 ((a:Int)+1))) ?ho ?hN ?hr ?_);(case ho=>rfl);(case hN=>rfl);(case hg=>rfl);(case hr=>first | (go_simp;done) | (go_simp;rfl));intro w4 ex;have L4:=zA (L3.out.fr (ex▸sa.Fr.set _ _ _ _) (ex▸L3.out.blk.set1 _));have FR4:=zA (show sa.Fr g w w4 from ex▸FR3.out.trans (sa.Fr.set _ _ _ _));have BL4:=zA (show Below w0.heap.size w0 w4 from ex▸BL3.out.setCell HGG.out _);have HV4:=zA (show w.heap.size < w4.heap.size from by { rw [ex,Deep.nblk_setCell];have:=qAe L3.out.res;exact this });clear ex;clear h0 h1 h2 h3 f1 f2 hx0 fr_;have h0:=L4.out.blk.c0;have h1:=L4.out.blk.c1;have h2:=L4.out.blk.c2;have h3:=L4.out.blk.c3;have f1:=L4.out.blk.fz 1;have f2:=L4.out.blk.fz 2;have hx0:=L4.out.byt;have fr_:=qAC L4.out.res 0) | ((with_reducible refine qAW (p:=14) rfl ?_);refine sa.qAo rfl rfl 14 _ rfl w4.heap.size rfl (.int .i64 5) (.int .i64 0) (.string ⟨#[]⟩) (.slice none 0 0) (.slice none 0 0) rfl (fun q hq=>by simp at hq;rcases hq with rfl | rfl | rfl | rfl | rfl <;> rfl) _ rfl (by simpa using heap_alloc_new w4 _) ?_;intro w5 hres hgr;have HB5:=zA (sa.qCA hgr);have L5:=zA (L4.out.below HB5.out);have Q5:=zA (show sa.LR w0 w w5 g (some ad) bs.length c w4.heap.size ((a:Int)+1) (wq+1) 0 p 5 (.slice none 0 0) (.slice none 0 0) [] [] from ⟨L5.out.blk,FR4.out.trans (sa.Fr.of_below HB5.out),qAY BL4.out BL4.out.size HB5.out,hres,L5.out.res,Kd.qA7 _ _ _ _ _,Kd.qA7 _ _ _ _ _,HV4.out,HGL.out,HGG.out⟩);clear hres hgr;clear h0 h1 h2 h3 f1 f2 hx0 fr_;have h0:=L5.out.blk.c0;have h1:=L5.out.blk.c1;have h2:=L5.out.blk.c2;have h3:=L5.out.blk.c3;have f1:=L5.out.blk.fz 1;have f2:=L5.out.blk.fz 2;have hx0:=L5.out.byt;have fr_:=qAC L5.out.res 0) | (go_at_call 78;refine (sa.rnum1 HUU.out HRR.out Q5.out.bel HGG.out Q5.out.blk (sa.qB3 HC.out HB.out Q5.out.fr) HCC.out (a:Int) 2 (by omega) (by have:=HWQ.out;omega)).mono ?_;rw [HCB.out];rintro e_ w6 ⟨⟨y,rfl⟩,b1,b2,hx⟩;have Q6:=zA (Q5.out.step hx);clear hx;clear h0 h1 h2 h3 f1 f2 hx0 fr_))
 generalize w4.heap.size=vb at *
 go_loopw [16,17] (fun v16 v17 wr=>(∃ last:ByteArray,v16=.string last∧v17=.int .i64 0)∧qAA (sa.LR w0 w wr g (some ad) bs.length c vb b1 b2 f q 5 (.slice none 0 0) (.slice none 0 0) [] [])) (fun v16 v17 _=>0)
 case atStart=>exact ⟨⟨_,rfl,rfl⟩,Q6⟩
 case round =>
  clear Q6 Q5 HB5 L5
  obtain ⟨⟨last,rfl,rfl⟩,HL⟩:=hrel
  have h3:=HL.out.blk.c3
  obtain ⟨v3,hv3⟩:∃ v3,v3=(Value.slice none 0 0):=⟨_,rfl⟩
  by_cases hlt:0 < y
  ·have i1:decide (0 < y)=true:=zT hlt
   have hz0:wr.cell? ⟨vb,0,none⟩=some (.int .i64 5):=(qAB HL.out.box 0).trans rfl
   have hz1:wr.cell? ⟨vb,1,none⟩=some (.int .i64 0):=(qAB HL.out.box 1).trans rfl
   have hz2:wr.cell? ⟨vb,2,none⟩=some (.string ⟨#[]⟩):=(qAB HL.out.box 2).trans rfl
   have hz3:wr.cell? ⟨vb,3,none⟩=some (.slice none 0 0):=(qAB HL.out.box 3).trans rfl
   have hz4:wr.cell? ⟨vb,4,none⟩=some (.slice none 0 0):=(qAB HL.out.box 4).trans rfl
   go_wp2_with (first | ((with_reducible refine qAW (p:=4) rfl ?_);refine sa.qAo rfl rfl 4 _ rfl w.heap.size rfl (.int .i64 5) (.int .i64 0) (.string ⟨#[]⟩) (.slice none 0 0) (.slice none 0 0) rfl (fun q hq=>by simp at hq;rcases hq with rfl | rfl | rfl | rfl | rfl <;> rfl) _ rfl HL.out.res ?_;intro w5_ hres hgr;have HRES:=zA hres;have HGR:=zA hgr;clear hgr hres))
   go_wp2
   refine bodyPost_ret (results_cell_row rfl _ _ w.heap.size 34 _ (0,0) _ rfl HRES.out Try.underlying34 rfl (by kernel_rfl)) rfl ?_
   have e1:=HL.out.hgl;have e2:=HL.out.hvb
   exact ⟨⟨⟨5,0,⟨#[]⟩,[],[]⟩,_,_,rfl,Kd.qA7 _ _ _ _ _,Kd.qA7 _ _ _ _ _⟩,HFN.out,_,_,sa.qBa HL.out.fr HL.out.blk (by omega) HGR.out (Nat.le_refl _) HBB.out.size HL.out.bel⟩
  ·have i1:decide (0 < y)=false:=zF hlt
   have hz0:wr.cell? ⟨vb,0,none⟩=some (.int .i64 5):=(qAB HL.out.box 0).trans rfl
   have hz1:wr.cell? ⟨vb,1,none⟩=some (.int .i64 0):=(qAB HL.out.box 1).trans rfl
   have hz2:wr.cell? ⟨vb,2,none⟩=some (.string ⟨#[]⟩):=(qAB HL.out.box 2).trans rfl
   have hz3:wr.cell? ⟨vb,3,none⟩=some (.slice none 0 0):=(qAB HL.out.box 3).trans rfl
   have hz4:wr.cell? ⟨vb,4,none⟩=some (.slice none 0 0):=(qAB HL.out.box 4).trans rfl
   go_wp2_with (first | ((with_reducible refine qAW (p:=4) rfl ?_);refine sa.qAo rfl rfl 4 _ rfl w.heap.size rfl (.int .i64 5) (.int .i64 0) (.string ⟨#[]⟩) (.slice none 0 0) (.slice none 0 0) rfl (fun q hq=>by simp at hq;rcases hq with rfl | rfl | rfl | rfl | rfl <;> rfl) _ rfl HL.out.res ?_;intro w5_ hres hgr;have HRES:=zA hres;have HGR:=zA hgr;clear hgr hres))
   go_wp2
   refine bodyPost_ret (results_cell_row rfl _ _ w.heap.size 34 _ (0,0) _ rfl HRES.out Try.underlying34 rfl (by kernel_rfl)) rfl ?_
   have e1:=HL.out.hgl;have e2:=HL.out.hvb
   exact ⟨⟨⟨5,0,⟨#[]⟩,[],[]⟩,_,_,rfl,Kd.qA7 _ _ _ _ _,Kd.qA7 _ _ _ _ _⟩,HFN.out,_,_,sa.qBa HL.out.fr HL.out.blk (by omega) HGR.out (Nat.le_refl _) HBB.out.size HL.out.bel⟩
theorem sa.rv_t5 {bs:List Int} {u i:Int→Int × Int × Int} (hU:sa.Uin bs u i) (hR:sa.Rin bs u i) {w0 w:World} {g:Nat} {A:Option Addr} {c:Nat} {a wq p:Int} (hb:Below w0.heap.size w0 w) (hg:w0.heap.size≤g) (hB:sa.RB w g A bs.length c a wq 0 p) (hC:(Kd.int .u8).C w A bs.length bs) (hc:bs.length≤c) (within:Int) (hw:within < 8) (ha0:0≤a) (ha1:a < (bs.length:Int)) (hwq:0≤wq∧wq+1≤2048) (ht:rd bs a=5) {n:Nat} {a1:Int} (hcb:sa.qBe u a 1 (a+1) (2048 - (wq+1))=.ok (n:Int) a1 (2048 - (wq+1))) (hn2:n≤2048) (hbd:0≤a1∧a1≤(bs.length:Int)) (hwi:0≤within) (f:Int→Int→sa.R3 S34) (hfb:∀ (a l:Int) (x:S34) (a2 l2:Int),0≤a→a≤(bs.length:Int)→0≤l→l≤2048→f a l=.ok x a2 l2→0≤a2∧a2≤(bs.length:Int)∧0≤l2∧l2≤2048) (IH:∀ (W:World) (a wq:Int),Below w0.heap.size w0 W→sa.RB W g A bs.length c a wq 0 p→(Kd.int .u8).C W A bs.length bs→0≤a→a≤(bs.length:Int)→0≤wq→wq≤2048→Calls Try.prog 62 #[.pointer (some ⟨g,0,none⟩),.int .i64 (within+1)] W (sa.qCK (f a (2048 - wq)) w0 W g A bs.length c p)) :
  Calls Try.prog 62 #[.pointer (some ⟨g,0,none⟩),.int .i64 within] w (sa.qCK (sa.arrV (sa.arrL f n [] a1 (2048 - (wq+1)))) w0 w g A bs.length c p):=by
 have HB:=zA hB
 have HC:=zA hC
 have HCC:=zA hc
 have HBB:=zA hb
 have HGG:=zA hg
 have HLL:=zA hU.L
 have HUU:=zA hU
 have HRR:=zA hR
 have HGL:=zA (show g < w.heap.size from qAe hB)
 have hu25:=Try.underlying34
 have HBW:=zA ((Below.refl w.heap.size w).alloc (Nat.le_refl _) (.cells #[.int .i64 0,.int .i64 0,.string ⟨#[]⟩,.slice none 0 0,.slice none 0 0] 34))
 have BL1:=zA (hb.alloc hb.size (.cells #[.int .i64 0,.int .i64 0,.string ⟨#[]⟩,.slice none 0 0,.slice none 0 0] 34))
 obtain ⟨a,rfl⟩:=Int.eq_ofNat_of_zero_le ha0
 have t0:decide ((a:Int) ≥ (bs.length:Int))=false:=zF (by omega)
 have t1:decide ((bs.length:Int)≤(a:Int))=false:=zF (by omega)
 have t2:decide (bs.length≤a)=false:=zF (by omega)
 have t3:(a:Int) < (bs.length:Int):=ha1
 have t4:a < bs.length:=by omega
 have t5:decide (a < bs.length)=true:=zT t4
 obtain ⟨ad,hA,hx0_⟩:=Kd.qBQ hC (a:Int) (by omega) ha1
 subst hA
 rw [Int.toNat_natCast] at hx0_
 obtain ⟨x,hxd⟩:∃ x,rd bs (a:Int)=x:=⟨_,rfl⟩
 rw [hxd] at hx0_ ht
 have L1:=zA (show sa.RLy (w.alloc (.cells #[.int .i64 0,.int .i64 0,.string ⟨#[]⟩,.slice none 0 0,.slice none 0 0] 34)) g (some ad) bs.length c (a:Int) wq 0 p (ad.add a) x w.heap.size #[.int .i64 0,.int .i64 0,.string ⟨#[]⟩,.slice none 0 0,.slice none 0 0] from ⟨HB.out.below HBW.out,(HBW.out.cell (qs4 w _ hx0_)).trans hx0_,by simpa using heap_alloc_new w _⟩)
 clear hx0_ hxd
 subst ht
 have w1:decide (within ≥ 8)=false:=zF (by omega)
 have w2:decide (8≤within)=false:=zF (by omega)
 have HWQ:=zA hwq
 have hwr:wrap64 ((a:Int)+1)=(a:Int)+1:=by have:=HLL.out;unfold wrap64;omega
 have HCB:=zA hcb
 have hwi2:wrap64 (within+1)=within+1:=by unfold wrap64;omega
 rw [← hwi2] at IH
 clear hwi2
 have HIH:=zA IH
 have HFB:=zA hfb
 have HN2:=zA hn2
 obtain ⟨T,hT⟩:∃ T,sa.arrL f n [] a1 (2048 - (wq+1))=T:=⟨_,rfl⟩
 rw [hT]
 have HP0:=zA (And.intro hT (And.intro hbd.1 (And.intro hbd.2 (show 0≤wq+1∧wq+1≤2048 by omega))))
 have h0:=L1.out.blk.c0;have h1:=L1.out.blk.c1;have h2:=L1.out.blk.c2;have h3:=L1.out.blk.c3;have f1:=L1.out.blk.fz 1;have f2:=L1.out.blk.fz 2;have hx0:=L1.out.byt;have fr_:=qAC L1.out.res 0
 clear hT hn2 IH hfb hwi ha1 ha0 hwq hw hbd hcb
 clear hU hR hb hg hB hC hc
 go_enter Try.func62,Try.ntmps62
 go_wp2_with (first | (go_at_call 76;refine (sa.heavY BL1.out HGG.out L1.out.blk 1 (a:Int) HWQ.out.1 (by omega) HWQ.out.2).mono ?_;rintro e_ w3 ⟨rfl,hx⟩;have L3:=zA (L1.out.fr hx.fr hx.blk);have FR3:=zA ((sa.Fr.of_below HBW.out).trans hx.fr);have BL3:=zA hx.bel;clear hx;clear h0 h1 h2 h3 f1 f2 hx0 fr_;have h0:=L3.out.blk.c0;have h1:=L3.out.blk.c1;have h2:=L3.out.blk.c2;have h3:=L3.out.blk.c3;have f1:=L3.out.blk.fz 1;have f2:=L3.out.blk.fz 2;have hx0:=L3.out.byt;have fr_:=qAC L3.out.res 0) | ((with_reducible refine qAW (p:=62) rfl ?_);go_must (refine qAn ?hg (t:=3) (p:=62) (v:=.tmp 60) (w1:=w3.setCell ⟨g,1,none⟩ (.int .i64 ((a:Int)+1))) ?ho ?hN ?hr ?_);(case ho=>rfl);(case hN=>rfl);(case hg=>rfl);(case hr=>first | (go_simp;done) | (go_simp;rfl));intro w4 ex;have L4:=zA (L3.out.fr (ex▸sa.Fr.set _ _ _ _) (ex▸L3.out.blk.set1 _));have FR4:=zA (show sa.Fr g w w4 from ex▸FR3.out.trans (sa.Fr.set _ _ _ _));have BL4:=zA (show Below w0.heap.size w0 w4 from ex▸BL3.out.setCell HGG.out _);have HV4:=zA (show w.heap.size < w4.heap.size from by { rw [ex,Deep.nblk_setCell];have:=qAe L3.out.res;exact this });clear ex;clear h0 h1 h2 h3 f1 f2 hx0 fr_;have h0:=L4.out.blk.c0;have h1:=L4.out.blk.c1;have h2:=L4.out.blk.c2;have h3:=L4.out.blk.c3;have f1:=L4.out.blk.fz 1;have f2:=L4.out.blk.fz 2;have hx0:=L4.out.byt;have fr_:=qAC L4.out.res 0) | ((with_reducible refine qAW (p:=11) rfl ?_);refine sa.qAo rfl rfl 11 _ rfl w4.heap.size rfl (.int .i64 4) (.int .i64 0) (.string ⟨#[]⟩) (.slice none 0 0) (.slice none 0 0) rfl (fun q hq=>by simp at hq;rcases hq with rfl | rfl | rfl | rfl | rfl <;> rfl) _ rfl (by simpa using heap_alloc_new w4 _) ?_;intro w5 hres hgr;have HB5:=zA (sa.qCA hgr);have L5:=zA (L4.out.below HB5.out);have Q5:=zA (show sa.LR w0 w w5 g (some ad) bs.length c w4.heap.size ((a:Int)+1) (wq+1) 0 p 4 (.slice none 0 0) (.slice none 0 0) [] [] from ⟨L5.out.blk,FR4.out.trans (sa.Fr.of_below HB5.out),qAY BL4.out BL4.out.size HB5.out,hres,L5.out.res,Kd.qA7 _ _ _ _ _,Kd.qA7 _ _ _ _ _,HV4.out,HGL.out,HGG.out⟩);clear hres hgr;clear h0 h1 h2 h3 f1 f2 hx0 fr_;have h0:=L5.out.blk.c0;have h1:=L5.out.blk.c1;have h2:=L5.out.blk.c2;have h3:=L5.out.blk.c3;have f1:=L5.out.blk.fz 1;have f2:=L5.out.blk.fz 2;have hx0:=L5.out.byt;have fr_:=qAC L5.out.res 0) | (go_at_call 78;refine (sa.rnum1 HUU.out HRR.out Q5.out.bel HGG.out Q5.out.blk (sa.qB3 HC.out HB.out Q5.out.fr) HCC.out (a:Int) 1 (by omega) (by have:=HWQ.out;omega)).mono ?_;rw [HCB.out];rintro e_ w6 ⟨rfl,hx⟩;rw [show (2048 - (2048 - (wq+1)):Int)=wq+1 by omega] at hx;have Q6:=zA (Q5.out.step hx);clear hx;clear h0 h1 h2 h3 f1 f2 hx0 fr_))
 generalize w4.heap.size=vb at *
 go_loopw [13] (fun v13 wr=>∃ (j:Nat) (acc:List S34) (v3:Value) (a' wq' f' p':Int),v13=.int .i64 (j:Int)∧qAA ((f'=0∧p'=p∧sa.arrL f (n - j) acc a' (2048 - wq')=T∧acc.length=j∧j≤n∧(0≤a'∧a'≤(bs.length:Int)∧0≤wq'∧wq'≤2048)) ∨ (f' ≠ 0∧T=.bad f' p'))∧qAA (sa.LR w0 w wr g (some ad) bs.length c vb a' wq' f' p' 4 v3 (.slice none 0 0) acc [])) (fun v13 _=>n - (intOf v13).toNat)
 case atStart=>exact ⟨0,[],_,a1,wq+1,0,p,rfl,⟨Or.inl ⟨rfl,rfl,HP0.out.1,rfl,Nat.zero_le _,HP0.out.2.1,HP0.out.2.2.1,HP0.out.2.2.2.1,HP0.out.2.2.2.2⟩⟩,Q6⟩
 case round =>
  clear Q6 Q5 HP0 HB5 L5
  obtain ⟨j,acc,v3,a',wq',f',p',rfl,HS,HL⟩:=hrel
  have h3:=HL.out.blk.c3
  rcases HS.out with ⟨rfl,rfl,hrem,hlen,hjn,hbd⟩ | ⟨hf,rfl⟩
  ·clear HS
   have HP:=zA (And.intro hrem (And.intro hlen (And.intro hjn hbd)))
   by_cases hlt:j < n
   ·have i1:decide ((j:Int) < (n:Int))=true:=zT (by omega)
    have i2:decide (j < n)=true:=zT hlt
    have i3:(j < n)=True:=eq_true hlt
    have HWR:=zA (show wrap64 ((j:Int)+1)=(j:Int)+1 by have:=HN2.out;unfold wrap64;omega)
    have HM:=zA (sa.meas j n hlt HWR.out)
    have HJ:=zA hlt
    clear hlt hrem hlen hjn hbd
    go_wp2
    refine qAz (n:=10) (S:=fun w'=>w'.cell? ⟨vb,3,none⟩=some v3) (ds:=[9]) #[qF,qF,qF,qF,qF,qF,qF,qF,qF,qF] (by kernel_rfl) rfl rfl ((qAB (HL.out.below (qAK (Below.refl _ _))).box 3).trans rfl) (fun hHeld => ?_)
    generalize hwd:wr.drew=wd at hHeld ⊢
    have QD:=zA (hwd▸HL.out.below (qAK (Below.refl _ _)))
    clear hwd
    refine pU 0 194 ?_
    refine pU 2 196 ?_
    refine pU 3 197 ?_
    refine pU 4 198 ?_
    refine tK 1 195 hHeld ?_
    refine one_ (i:=5) (N:=some 199) #[qT,qT,qT,qT,qT,qT,qF,qF,qF,qF] rfl rfl (by kernel_rfl) (by decide) (fun K hK => ?_)
    refine qBZ Try.func62 (by kernel_rfl) rfl #[.pointer (some ⟨g,0,none⟩),.int .i64 (wrap64 (within+1))] (by rfl) rfl rfl (by (try simp only [List.map_toArray,List.map_cons,List.map_nil]);first | done | rfl) ?_
    refine (HIH.out _ _ _ QD.out.bel QD.out.blk (sa.qB3 HC.out HB.out QD.out.fr) HP.out.2.2.2.1 HP.out.2.2.2.2.1 HP.out.2.2.2.2.2.1 HP.out.2.2.2.2.2.2).mono ?_
    rintro e w7_ hgot
    obtain ⟨x,u3,u4,a2,wq2,f2,p2,rfl,hr3,hr4,hnx,hout⟩:=hgot.open
    refine ⟨_,rfl, ?_⟩
    have HOUT:=zA hout
    have Q7_:=zA (QD.out.step hnx)
    have R3_:=zA hr3
    have R4_:=zA hr4
    have HSZ:=zA (show wd.heap.size≤w7_.heap.size from hnx.fr.1)
    clear hgot hnx hr3 hr4 hout
    refine hK.out _ _ ((qAB Q7_.out.box 3).trans rfl) (fun hHeld => ?_)
    clear hK K
    refine qA3 (a' := ?_) ?_ ?_
    rotate_left
    ·show Act.put _ (some 199) _=_
     simp only [Act.put,qs1,qs2,qs3,qAZ,qAb]
     rfl
    refine one_ (i:=6) (N:=some 200) #[qT,qT,qT,qT,qT,qT,qT,qF,qF,qF] rfl rfl (by kernel_rfl) (by decide) (fun K hK => ?_)
    refine qCL (w1 := ?_) (v := ?_) (by rfl) rfl ?_ ?_
    rotate_left 2
    ·go_simp
     constructor
     ·rfl
     ·rfl
    refine hK.out _ _ ((qAB (qAP Q7_.out.box _) 3).trans rfl) (fun hHeld => ?_)
    clear hK K
    refine qA3 (a' := ?_) ?_ ?_
    rotate_left
    ·show Act.put _ (some 200) _=_
     simp only [Act.put,qs1,qs2,qs3,qAZ,qAb]
     rfl
    refine one_ (i:=7) (N:=some 201) #[qT,qT,qT,qT,qT,qT,qT,qT,qF,qF] rfl rfl (by kernel_rfl) (by decide) (fun K hK => ?_)
    refine Kd.qBO k34 (w0:=w0) w0.heap.size (by rfl) (.tmp 195) (.tmp 200) 31 34 (.agg #[(.int .i64 0),(.int .i64 0),(.string ⟨#[]⟩),(.slice none 0 0),(.slice none 0 0)]) 80 rfl Try.underlying31 info34 rfl (by decide) (by omega) v3 acc x [.int .i64 x.f0,.int .i64 x.f1,.string x.f2,u3,u4] (fun k=>vb < k∧some k ≠ (.slice none 0 0:Value).ownBlock) (fun k=>wd.heap.size≤k) rfl rfl ?aP ?aK ?aF ?aO ?aB ?aS ?aL ?_
    (case aP=>exact k34_mkM _ _ _ x R3_.out R4_.out)
    (case aK=>exact fun k hk=>⟨⟨Nat.lt_of_lt_of_le QD.out.lt hk,fun e=>absurd (Kd.R_lt QD.out.keys k e.symm) (by omega)⟩,fun e=>absurd (Kd.R_lt QD.out.row k e.symm) (by omega)⟩)
    (case aF=>exact fun k hk=>⟨Nat.lt_of_lt_of_le Q7_.out.lt hk,fun e=>absurd (Kd.R_lt Q7_.out.keys k e.symm) (by omega)⟩)
    (case aO=>exact Q7_.out.row)
    (case aB=>exact Q7_.out.bel)
    (case aS=>exact Q7_.out.bel.size)
    (case aL=>have e1:=HP.out.2.1;have e2:=HJ.out;have e3:=HN2.out;omega)
    intro v5 w8_ ho hb hg2 hat
    obtain ⟨A5,c5,e5⟩:=Kd.qA0 ho
    subst e5
    have Q9:=zA (Q7_.out.app3 ho hb hg2)
    have B8_:=zA (qA1 Q7_.out.box hg2 (fun e=>absurd (Q7_.out.row.1 vb e.symm).1 (Nat.lt_irrefl _)))
    have fv8_:=qAC B8_.out 3
    clear ho hb hg2 hat
    refine hK.out _ _ ((qAB B8_.out 3).trans rfl) (fun hHeld => ?_)
    clear hK K
    refine qA3 (a' := ?_) ?_ ?_
    rotate_left
    ·show Act.put _ (some 201) _=_
     simp only [Act.put,qs1,qs2,qs3,qAZ,qAb]
     rfl
    refine pU 8 202 ?_
    refine last_ (i:=9) (N:=none) #[qT,qT,qT,qT,qT,qT,qT,qT,qT,qT] rfl rfl (by kernel_rfl) (by decide) (fun K hK => ?_)
    refine skip_ (w1 := ?_) (by rfl) rfl ?_ ?_
    rotate_left
    ·go_simp
     rfl
    refine hK.out _ _ ?_
    clear hK K
    refine qBL (by kernel_rfl) ?_
    go_wp2
    rw [show (acc ++ [x]).length=acc.length+1 from by simp] at Q9
    go_roundw
    case rel =>
     refine ⟨j+1,acc ++ [x],_,a2,wq2,f2,p2,by rw [HWR.out];rfl,⟨?_⟩,Q9⟩
     rcases sa.arr_step HJ.out HP.out.1 HOUT.out with ⟨q1,q2,q3,q4⟩ | ⟨q1,q2⟩
     ·have hb2:=HFB.out _ _ _ _ _ HP.out.2.2.2.1 HP.out.2.2.2.2.1 (by have:=HP.out.2.2.2.2.2;omega) (by have:=HP.out.2.2.2.2.2;omega) q4
      exact Or.inl ⟨q1,q2,q3,by rw [List.length_append,HP.out.2.1];rfl,HJ.out,hb2.1,hb2.2.1,by omega,by omega⟩
     ·exact Or.inr ⟨q1,q2⟩
    case measure=>exact HM.out
   ·have i1:decide ((j:Int) < (n:Int))=false:=zF (by omega)
    have i2:decide (j < n)=false:=zF hlt
    have i3:(j < n)=False:=eq_false hlt
    have hjn2:n - j=0:=by omega
    rw [hjn2] at hrem
    have hT2:T=.ok acc a' (2048 - wq'):=hrem.symm
    subst hT2
    clear hrem hjn2 hlt hlen hjn hbd HP
    have hz0:wr.cell? ⟨vb,0,none⟩=some (.int .i64 4):=(qAB HL.out.box 0).trans rfl
    have hz1:wr.cell? ⟨vb,1,none⟩=some (.int .i64 0):=(qAB HL.out.box 1).trans rfl
    have hz2:wr.cell? ⟨vb,2,none⟩=some (.string ⟨#[]⟩):=(qAB HL.out.box 2).trans rfl
    have hz3:wr.cell? ⟨vb,3,none⟩=some v3:=(qAB HL.out.box 3).trans rfl
    have hz4:wr.cell? ⟨vb,4,none⟩=some (.slice none 0 0):=(qAB HL.out.box 4).trans rfl
    have hv1:v3.oneCell'=true:=by obtain ⟨A_,c_,e_⟩:=Kd.qA0 HL.out.row;subst e_;rfl
    go_wp2_with (first | ((with_reducible refine qAW (p:=4) rfl ?_);refine sa.qAo rfl rfl 4 _ rfl w.heap.size rfl (.int .i64 4) (.int .i64 0) (.string ⟨#[]⟩) v3 (.slice none 0 0) rfl (fun q hq=>by simp at hq;rcases hq with rfl | rfl | rfl | rfl | rfl <;> first | rfl | exact hv1) _ rfl HL.out.res ?_;intro w5_ hres hgr;have HRES:=zA hres;have HGR:=zA hgr;clear hgr hres))
    go_wp2
    refine bodyPost_ret (results_cell_row rfl _ _ w.heap.size 34 _ (0,0) _ rfl HRES.out Try.underlying34 rfl (by kernel_rfl)) rfl ?_
    have e1:=HL.out.hgl;have e2:=HL.out.hvb
    refine ⟨⟨_,_,rfl,Kd.qBi (Kd.qB2 HL.out.row HGR.out (fun k hk e=>by have:=Option.some.inj e;have:=hk.1;omega)) (fun k hk=>by have:=hk.1;omega),Kd.qA7 _ _ _ _ _⟩, ?_⟩
    rw [show 2048 - (2048 - wq')=wq' by omega]
    exact sa.qBa HL.out.fr HL.out.blk (by omega) HGR.out (Nat.le_refl _) HBB.out.size HL.out.bel
  ·have g1:(f' == 0)=false:=beq_eq_false_iff_ne.2 hf
   have g2:decide (f'=0)=false:=zF hf
   have HNE:=zA hf
   clear hf HS
   by_cases hlt:j < n
   ·have i1:decide ((j:Int) < (n:Int))=true:=zT (by omega)
    have i2:decide (j < n)=true:=zT hlt
    have i3:(j < n)=True:=eq_true hlt
    clear hlt
    have hz0:wr.cell? ⟨vb,0,none⟩=some (.int .i64 4):=(qAB HL.out.box 0).trans rfl
    have hz1:wr.cell? ⟨vb,1,none⟩=some (.int .i64 0):=(qAB HL.out.box 1).trans rfl
    have hz2:wr.cell? ⟨vb,2,none⟩=some (.string ⟨#[]⟩):=(qAB HL.out.box 2).trans rfl
    have hz3:wr.cell? ⟨vb,3,none⟩=some v3:=(qAB HL.out.box 3).trans rfl
    have hz4:wr.cell? ⟨vb,4,none⟩=some (.slice none 0 0):=(qAB HL.out.box 4).trans rfl
    have hv1:v3.oneCell'=true:=by obtain ⟨A_,c_,e_⟩:=Kd.qA0 HL.out.row;subst e_;rfl
    go_wp2_with (first | ((with_reducible refine qAW (p:=4) rfl ?_);refine sa.qAo rfl rfl 4 _ rfl w.heap.size rfl (.int .i64 4) (.int .i64 0) (.string ⟨#[]⟩) v3 (.slice none 0 0) rfl (fun q hq=>by simp at hq;rcases hq with rfl | rfl | rfl | rfl | rfl <;> first | rfl | exact hv1) _ rfl HL.out.res ?_;intro w5_ hres hgr;have HRES:=zA hres;have HGR:=zA hgr;clear hgr hres))
    go_wp2
    refine bodyPost_ret (results_cell_row rfl _ _ w.heap.size 34 _ (0,0) _ rfl HRES.out Try.underlying34 rfl (by kernel_rfl)) rfl ?_
    have e1:=HL.out.hgl;have e2:=HL.out.hvb
    exact ⟨⟨⟨4,0,⟨#[]⟩,acc,[]⟩,_,_,rfl,Kd.qBi (Kd.qB2 HL.out.row HGR.out (fun k hk e=>by have:=Option.some.inj e;have:=hk.1;omega)) (fun k hk=>by have:=hk.1;omega),Kd.qA7 _ _ _ _ _⟩,HNE.out,_,_,sa.qBa HL.out.fr HL.out.blk (by omega) HGR.out (Nat.le_refl _) HBB.out.size HL.out.bel⟩
   ·have i1:decide ((j:Int) < (n:Int))=false:=zF (by omega)
    have i2:decide (j < n)=false:=zF hlt
    have i3:(j < n)=False:=eq_false hlt
    clear hlt
    have hz0:wr.cell? ⟨vb,0,none⟩=some (.int .i64 4):=(qAB HL.out.box 0).trans rfl
    have hz1:wr.cell? ⟨vb,1,none⟩=some (.int .i64 0):=(qAB HL.out.box 1).trans rfl
    have hz2:wr.cell? ⟨vb,2,none⟩=some (.string ⟨#[]⟩):=(qAB HL.out.box 2).trans rfl
    have hz3:wr.cell? ⟨vb,3,none⟩=some v3:=(qAB HL.out.box 3).trans rfl
    have hz4:wr.cell? ⟨vb,4,none⟩=some (.slice none 0 0):=(qAB HL.out.box 4).trans rfl
    have hv1:v3.oneCell'=true:=by obtain ⟨A_,c_,e_⟩:=Kd.qA0 HL.out.row;subst e_;rfl
    go_wp2_with (first | ((with_reducible refine qAW (p:=4) rfl ?_);refine sa.qAo rfl rfl 4 _ rfl w.heap.size rfl (.int .i64 4) (.int .i64 0) (.string ⟨#[]⟩) v3 (.slice none 0 0) rfl (fun q hq=>by simp at hq;rcases hq with rfl | rfl | rfl | rfl | rfl <;> first | rfl | exact hv1) _ rfl HL.out.res ?_;intro w5_ hres hgr;have HRES:=zA hres;have HGR:=zA hgr;clear hgr hres))
    go_wp2
    refine bodyPost_ret (results_cell_row rfl _ _ w.heap.size 34 _ (0,0) _ rfl HRES.out Try.underlying34 rfl (by kernel_rfl)) rfl ?_
    have e1:=HL.out.hgl;have e2:=HL.out.hvb
    exact ⟨⟨⟨4,0,⟨#[]⟩,acc,[]⟩,_,_,rfl,Kd.qBi (Kd.qB2 HL.out.row HGR.out (fun k hk e=>by have:=Option.some.inj e;have:=hk.1;omega)) (fun k hk=>by have:=hk.1;omega),Kd.qA7 _ _ _ _ _⟩,HNE.out,_,_,sa.qBa HL.out.fr HL.out.blk (by omega) HGR.out (Nat.le_refl _) HBB.out.size HL.out.bel⟩
theorem sa.rv_t6 {bs:List Int} {u i:Int→Int × Int × Int} (hU:sa.Uin bs u i) (hR:sa.Rin bs u i) {w0 w:World} {g:Nat} {A:Option Addr} {c:Nat} {a wq p:Int} (hb:Below w0.heap.size w0 w) (hg:w0.heap.size≤g) (hB:sa.RB w g A bs.length c a wq 0 p) (hC:(Kd.int .u8).C w A bs.length bs) (hc:bs.length≤c) (within:Int) (hw:within < 8) (ha0:0≤a) (ha1:a < (bs.length:Int)) (hwq:0≤wq∧wq+1≤2048) (ht:rd bs a=6) {n:Nat} {a1:Int} (hcb:sa.qBe u a 2 (a+1) (2048 - (wq+1))=.ok (n:Int) a1 (2048 - (wq+1))) (hn2:n≤2048) (hbd:0≤a1∧a1≤(bs.length:Int)) (hwi:0≤within) (f:Int→Int→sa.R3 S34) (hfb:∀ (a l:Int) (x:S34) (a2 l2:Int),0≤a→a≤(bs.length:Int)→0≤l→l≤2048→f a l=.ok x a2 l2→0≤a2∧a2≤(bs.length:Int)∧0≤l2∧l2≤2048) (IH:∀ (W:World) (a wq:Int),Below w0.heap.size w0 W→sa.RB W g A bs.length c a wq 0 p→(Kd.int .u8).C W A bs.length bs→0≤a→a≤(bs.length:Int)→0≤wq→wq≤2048→Calls Try.prog 62 #[.pointer (some ⟨g,0,none⟩),.int .i64 (within+1)] W (sa.qCK (f a (2048 - wq)) w0 W g A bs.length c p)) :
  Calls Try.prog 62 #[.pointer (some ⟨g,0,none⟩),.int .i64 within] w (sa.qCK (sa.recV (sa.recL bs u f n [] [] a1 (2048 - (wq+1)))) w0 w g A bs.length c p):=by
 have HB:=zA hB
 have HC:=zA hC
 have HCC:=zA hc
 have HBB:=zA hb
 have HGG:=zA hg
 have HLL:=zA hU.L
 have HUU:=zA hU
 have HRR:=zA hR
 have HGL:=zA (show g < w.heap.size from qAe hB)
 have hu25:=Try.underlying34
 have HBW:=zA ((Below.refl w.heap.size w).alloc (Nat.le_refl _) (.cells #[.int .i64 0,.int .i64 0,.string ⟨#[]⟩,.slice none 0 0,.slice none 0 0] 34))
 have BL1:=zA (hb.alloc hb.size (.cells #[.int .i64 0,.int .i64 0,.string ⟨#[]⟩,.slice none 0 0,.slice none 0 0] 34))
 obtain ⟨a,rfl⟩:=Int.eq_ofNat_of_zero_le ha0
 have t0:decide ((a:Int) ≥ (bs.length:Int))=false:=zF (by omega)
 have t1:decide ((bs.length:Int)≤(a:Int))=false:=zF (by omega)
 have t2:decide (bs.length≤a)=false:=zF (by omega)
 have t3:(a:Int) < (bs.length:Int):=ha1
 have t4:a < bs.length:=by omega
 have t5:decide (a < bs.length)=true:=zT t4
 obtain ⟨ad,hA,hx0_⟩:=Kd.qBQ hC (a:Int) (by omega) ha1
 subst hA
 rw [Int.toNat_natCast] at hx0_
 obtain ⟨x,hxd⟩:∃ x,rd bs (a:Int)=x:=⟨_,rfl⟩
 rw [hxd] at hx0_ ht
 have L1:=zA (show sa.RLy (w.alloc (.cells #[.int .i64 0,.int .i64 0,.string ⟨#[]⟩,.slice none 0 0,.slice none 0 0] 34)) g (some ad) bs.length c (a:Int) wq 0 p (ad.add a) x w.heap.size #[.int .i64 0,.int .i64 0,.string ⟨#[]⟩,.slice none 0 0,.slice none 0 0] from ⟨HB.out.below HBW.out,(HBW.out.cell (qs4 w _ hx0_)).trans hx0_,by simpa using heap_alloc_new w _⟩)
 clear hx0_ hxd
 subst ht
 have w1:decide (within ≥ 8)=false:=zF (by omega)
 have w2:decide (8≤within)=false:=zF (by omega)
 have HWQ:=zA hwq
 have hwr:wrap64 ((a:Int)+1)=(a:Int)+1:=by have:=HLL.out;unfold wrap64;omega
 have HCB:=zA hcb
 have hwi2:wrap64 (within+1)=within+1:=by unfold wrap64;omega
 rw [← hwi2] at IH
 clear hwi2
 have HIH:=zA IH
 have HFB:=zA hfb
 have HN2:=zA hn2
 obtain ⟨T,hT⟩:∃ T,sa.recL bs u f n [] [] a1 (2048 - (wq+1))=T:=⟨_,rfl⟩
 rw [hT]
 have HP0:=zA (And.intro hT (And.intro hbd.1 (And.intro hbd.2 (show 0≤wq+1∧wq+1≤2048 by omega))))
 have h0:=L1.out.blk.c0;have h1:=L1.out.blk.c1;have h2:=L1.out.blk.c2;have h3:=L1.out.blk.c3;have f1:=L1.out.blk.fz 1;have f2:=L1.out.blk.fz 2;have hx0:=L1.out.byt;have fr_:=qAC L1.out.res 0
 clear hT hn2 IH hfb hwi ha1 ha0 hwq hw hbd hcb
 clear hU hR hb hg hB hC hc
 go_enter Try.func62,Try.ntmps62
 go_wp2_with (first | (go_at_call 76;refine (sa.heavY BL1.out HGG.out L1.out.blk 1 (a:Int) HWQ.out.1 (by omega) HWQ.out.2).mono ?_;rintro e_ w3 ⟨rfl,hx⟩;have L3:=zA (L1.out.fr hx.fr hx.blk);have FR3:=zA ((sa.Fr.of_below HBW.out).trans hx.fr);have BL3:=zA hx.bel;clear hx;clear h0 h1 h2 h3 f1 f2 hx0 fr_;have h0:=L3.out.blk.c0;have h1:=L3.out.blk.c1;have h2:=L3.out.blk.c2;have h3:=L3.out.blk.c3;have f1:=L3.out.blk.fz 1;have f2:=L3.out.blk.fz 2;have hx0:=L3.out.byt;have fr_:=qAC L3.out.res 0) | ((with_reducible refine qAW (p:=62) rfl ?_);go_must (refine qAn ?hg (t:=3) (p:=62) (v:=.tmp 60) (w1:=w3.setCell ⟨g,1,none⟩ (.int .i64 ((a:Int)+1))) ?ho ?hN ?hr ?_);(case ho=>rfl);(case hN=>rfl);(case hg=>rfl);(case hr=>first | (go_simp;done) | (go_simp;rfl));intro w4 ex;have L4:=zA (L3.out.fr (ex▸sa.Fr.set _ _ _ _) (ex▸L3.out.blk.set1 _));have FR4:=zA (show sa.Fr g w w4 from ex▸FR3.out.trans (sa.Fr.set _ _ _ _));have BL4:=zA (show Below w0.heap.size w0 w4 from ex▸BL3.out.setCell HGG.out _);have HV4:=zA (show w.heap.size < w4.heap.size from by { rw [ex,Deep.nblk_setCell];have:=qAe L3.out.res;exact this });clear ex;clear h0 h1 h2 h3 f1 f2 hx0 fr_;have h0:=L4.out.blk.c0;have h1:=L4.out.blk.c1;have h2:=L4.out.blk.c2;have h3:=L4.out.blk.c3;have f1:=L4.out.blk.fz 1;have f2:=L4.out.blk.fz 2;have hx0:=L4.out.byt;have fr_:=qAC L4.out.res 0) | ((with_reducible refine qAW (p:=14) rfl ?_);refine sa.qAo rfl rfl 14 _ rfl w4.heap.size rfl (.int .i64 5) (.int .i64 0) (.string ⟨#[]⟩) (.slice none 0 0) (.slice none 0 0) rfl (fun q hq=>by simp at hq;rcases hq with rfl | rfl | rfl | rfl | rfl <;> rfl) _ rfl (by simpa using heap_alloc_new w4 _) ?_;intro w5 hres hgr;have HB5:=zA (sa.qCA hgr);have L5:=zA (L4.out.below HB5.out);have Q5:=zA (show sa.LR w0 w w5 g (some ad) bs.length c w4.heap.size ((a:Int)+1) (wq+1) 0 p 5 (.slice none 0 0) (.slice none 0 0) [] [] from ⟨L5.out.blk,FR4.out.trans (sa.Fr.of_below HB5.out),qAY BL4.out BL4.out.size HB5.out,hres,L5.out.res,Kd.qA7 _ _ _ _ _,Kd.qA7 _ _ _ _ _,HV4.out,HGL.out,HGG.out⟩);clear hres hgr;clear h0 h1 h2 h3 f1 f2 hx0 fr_;have h0:=L5.out.blk.c0;have h1:=L5.out.blk.c1;have h2:=L5.out.blk.c2;have h3:=L5.out.blk.c3;have f1:=L5.out.blk.fz 1;have f2:=L5.out.blk.fz 2;have hx0:=L5.out.byt;have fr_:=qAC L5.out.res 0) | (go_at_call 78;refine (sa.rnum1 HUU.out HRR.out Q5.out.bel HGG.out Q5.out.blk (sa.qB3 HC.out HB.out Q5.out.fr) HCC.out (a:Int) 2 (by omega) (by have:=HWQ.out;omega)).mono ?_;rw [HCB.out];rintro e_ w6 ⟨rfl,hx⟩;rw [show (2048 - (2048 - (wq+1)):Int)=wq+1 by omega] at hx;have Q6:=zA (Q5.out.step hx);clear hx;clear h0 h1 h2 h3 f1 f2 hx0 fr_))
 generalize w4.heap.size=vb at *
 go_loopw [16,17] (fun v16 v17 wr=>∃ (j:Nat) (acc:List S34) (ks:List ByteArray) (v3 v4:Value) (a' wq' f' p':Int) (last:ByteArray),v16=.string last∧v17=.int .i64 (j:Int)∧qAA ((f'=0∧p'=p∧sa.recL bs u f (n - j) ks acc a' (2048 - wq')=T∧(acc.length=j∧ks.length=j)∧j≤n∧(0≤a'∧a'≤(bs.length:Int)∧0≤wq'∧wq'≤2048)∧(0 < j→last=rdOf ByteArray.empty ks ((j:Int) - 1))) ∨ (f' ≠ 0∧T=.bad f' p'))∧qAA (sa.LR w0 w wr g (some ad) bs.length c vb a' wq' f' p' 5 v3 v4 acc ks)) (fun _ v17 _=>n - (intOf v17).toNat)
 case atStart=>exact ⟨0,[],[],_,_,a1,wq+1,0,p,_,rfl,rfl,⟨Or.inl ⟨rfl,rfl,HP0.out.1,⟨rfl,rfl⟩,Nat.zero_le _,⟨HP0.out.2.1,HP0.out.2.2.1,HP0.out.2.2.2.1,HP0.out.2.2.2.2⟩,fun h=>absurd h (Nat.lt_irrefl 0)⟩⟩,Q6⟩
 case round =>
  clear Q6 Q5 HP0 HB5 L5
  obtain ⟨j,acc,ks,v3,v4,a',wq',f',p',last,rfl,rfl,HS,HL⟩:=hrel
  obtain ⟨A4,c4,e4⟩:=Kd.qA0 HL.out.keys
  subst e4
  have h3:=HL.out.blk.c3
  rcases HS.out with ⟨rfl,rfl,hrem,hlen,hjn,hbd,hlast⟩ | ⟨hf,rfl⟩
  ·clear HS
   have HP:=zA (And.intro hrem (And.intro hlen (And.intro hjn hbd)))
   by_cases hlt:j < n
   ·have i1:decide ((j:Int) < (n:Int))=true:=zT (by omega)
    have i2:decide (j < n)=true:=zT hlt
    have i3:(j < n)=True:=eq_true hlt
    have HWR:=zA (show wrap64 ((j:Int)+1)=(j:Int)+1 by have:=HN2.out;unfold wrap64;omega)
    have HM:=zA (sa.meas j n hlt HWR.out)
    have HJ:=zA hlt
    obtain ⟨fb,hfb⟩:∃ fb,decide (ks.length=0)=fb:=⟨_,rfl⟩
    have HFI:=zA (show fb=decide (ks.length=0)∧(0 < ks.length→last=rdOf ByteArray.empty ks ((ks.length:Int) - 1)) from ⟨hfb.symm,fun h=>by rw [hlen.2] at h ⊢;exact hlast h⟩)
    have eb1:((j:Int) == 0)=fb:=by rw [← hfb,hlen.2];by_cases h:j=0 <;> simp [h]
    have eb2:decide ((j:Int)=0)=fb:=by rw [← hfb,hlen.2];by_cases h:j=0 <;> simp [h]
    have eb3:decide (j=0)=fb:=by rw [← hfb,hlen.2]
    have KY:=fun (W:World) (q1:Below w0.heap.size w0 W) (q2:sa.RB W g (some ad) bs.length c a' wq' 0 p') (q3:(Kd.int .u8).C W (some ad) bs.length bs)=>sa.rkey1 HUU.out HRR.out q1 HGG.out q2 q3 HCC.out ⟨hbd.2.2.1,hbd.2.2.2⟩ ks fb last HFI.out.1 HFI.out.2
    rcases hka:sa.keyS bs u ks a' (2048 - wq') with ⟨kk,ak,lk⟩ | ⟨ee,pp⟩
    ·rw [hka] at KY
     have KY:=zA KY
     have HKA:=zA hka
     obtain ⟨wk,hwk⟩:∃ wk,lk=2048 - wk:=⟨2048 - lk,by omega⟩
     subst hwk
     have HBK:=zA (sa.keyS_b HUU.out (by omega) hka)
     clear hlt hrem hlen hjn hbd hlast hfb hka
     go_wp2_with (first | (go_at_call 79;refine (KY.out _ HL.out.bel HL.out.blk (sa.qB3 HC.out HB.out HL.out.fr)).mono ?_;rintro e_ w7 ⟨rfl,hx⟩;rw [show (2048 - (2048 - wk):Int)=wk by omega] at hx;have Q7:=zA (HL.out.step hx);clear hx h3;have h3:=Q7.out.blk.c3;have hy4:=(qAB Q7.out.box 4).trans rfl) | (at_builtin;go_must (refine Kd.qCY Kd.string (w0:=w0) w0.heap.size rfl (.tmp 233) (.tmp 235) 32 9 (.string ⟨#[]⟩) 16 rfl Try.underlying32 info9 rfl (by decide) (by omega) (.slice A4 ks.length c4) ks kk [.string kk] (fun k=>vb < k) (fun _=>False) rfl rfl rfl (fun _ h=>h.elim) ?aF ?aO ?aB ?aS ?aL ?_);go_must ((case aF=>exact fun k hk=>Nat.lt_of_lt_of_le Q7.out.lt hk));go_must ((case aO=>exact Q7.out.keys));go_must ((case aB=>exact Q7.out.bel));go_must ((case aS=>exact Q7.out.bel.size));go_must ((case aL=>have e1:=HP.out.2.1.2;have e2:=HJ.out;have e3:=HN2.out;omega));intro v6 w8 ho hb hg2 hat;obtain ⟨A6,c6,e6⟩:=Kd.qA0 ho;subst e6;have Q8:=zA (Q7.out.app4 ho hb hg2 hat);have B8:=zA (qA1 Q7.out.box hg2 (fun e=>absurd (Q7.out.keys.1 vb e.symm) (Nat.lt_irrefl _)));have fv8:=qAC B8.out 4;have hy8:=(qAB B8.out 4).trans rfl;clear ho hb hg2 hat))
     rw [show (ks ++ [kk]).length=ks.length+1 from by simp] at Q8
     generalize hw9:w8.setCell ⟨vb,4,none⟩ (.slice A6 (ks.length+1) c6)=w9 at Q8 ⊢
     clear hw9 hy8 fv8 hy4
     refine qAz (n:=10) (S:=fun w'=>w'.cell? ⟨vb,3,none⟩=some v3) (ds:=[9]) #[qF,qF,qF,qF,qF,qF,qF,qF,qF,qF] (by kernel_rfl) rfl rfl ((qAB (Q8.out.below (qAK (Below.refl _ _))).box 3).trans rfl) (fun hHeld => ?_)
     generalize hwd:w9.drew=wd at hHeld ⊢
     have QD:=zA (hwd▸Q8.out.below (qAK (Below.refl _ _)))
     clear hwd
     refine pU 0 238 ?_
     refine pU 2 240 ?_
     refine pU 3 241 ?_
     refine pU 4 242 ?_
     refine tK 1 239 hHeld ?_
     refine one_ (i:=5) (N:=some 243) #[qT,qT,qT,qT,qT,qT,qF,qF,qF,qF] rfl rfl (by kernel_rfl) (by decide) (fun K hK => ?_)
     refine qBZ Try.func62 (by kernel_rfl) rfl #[.pointer (some ⟨g,0,none⟩),.int .i64 (wrap64 (within+1))] (by rfl) rfl rfl (by (try simp only [List.map_toArray,List.map_cons,List.map_nil]);first | done | rfl) ?_
     refine (HIH.out _ _ _ QD.out.bel QD.out.blk (sa.qB3 HC.out HB.out QD.out.fr) HBK.out.1 HBK.out.2.1 (by have:=HBK.out;omega) (by have:=HBK.out;omega)).mono ?_
     rintro e w7_ hgot
     obtain ⟨x,u3,u4,a2,wq2,f2,p2,rfl,hr3,hr4,hnx,hout⟩:=hgot.open
     refine ⟨_,rfl, ?_⟩
     have HOUT:=zA hout
     have Q7_:=zA (QD.out.step hnx)
     have R3_:=zA hr3
     have R4_:=zA hr4
     have HSZ:=zA (show wd.heap.size≤w7_.heap.size from hnx.fr.1)
     clear hgot hnx hr3 hr4 hout
     refine hK.out _ _ ((qAB Q7_.out.box 3).trans rfl) (fun hHeld => ?_)
     clear hK K
     refine qA3 (a' := ?_) ?_ ?_
     rotate_left
     ·show Act.put _ (some 243) _=_
      simp only [Act.put,qs1,qs2,qs3,qAZ,qAb]
      rfl
     refine one_ (i:=6) (N:=some 244) #[qT,qT,qT,qT,qT,qT,qT,qF,qF,qF] rfl rfl (by kernel_rfl) (by decide) (fun K hK => ?_)
     refine qCL (w1 := ?_) (v := ?_) (by rfl) rfl ?_ ?_
     rotate_left 2
     ·go_simp
      constructor
      ·rfl
      ·rfl
     refine hK.out _ _ ((qAB (qAP Q7_.out.box _) 3).trans rfl) (fun hHeld => ?_)
     clear hK K
     refine qA3 (a' := ?_) ?_ ?_
     rotate_left
     ·show Act.put _ (some 244) _=_
      simp only [Act.put,qs1,qs2,qs3,qAZ,qAb]
      rfl
     refine one_ (i:=7) (N:=some 245) #[qT,qT,qT,qT,qT,qT,qT,qT,qF,qF] rfl rfl (by kernel_rfl) (by decide) (fun K hK => ?_)
     refine Kd.qBO k34 (w0:=w0) w0.heap.size (by rfl) (.tmp 239) (.tmp 244) 31 34 (.agg #[(.int .i64 0),(.int .i64 0),(.string ⟨#[]⟩),(.slice none 0 0),(.slice none 0 0)]) 80 rfl Try.underlying31 info34 rfl (by decide) (by omega) v3 acc x [.int .i64 x.f0,.int .i64 x.f1,.string x.f2,u3,u4] (fun k=>vb < k∧some k ≠ (.slice A6 (ks.length+1) c6:Value).ownBlock) (fun k=>wd.heap.size≤k) rfl rfl ?aP ?aK ?aF ?aO ?aB ?aS ?aL ?_
     (case aP=>exact k34_mkM _ _ _ x R3_.out R4_.out)
     (case aK=>exact fun k hk=>⟨⟨Nat.lt_of_lt_of_le QD.out.lt hk,fun e=>absurd (Kd.R_lt QD.out.keys k e.symm) (by omega)⟩,fun e=>absurd (Kd.R_lt QD.out.row k e.symm) (by omega)⟩)
     (case aF=>exact fun k hk=>⟨Nat.lt_of_lt_of_le Q7_.out.lt hk,fun e=>absurd (Kd.R_lt Q7_.out.keys k e.symm) (by omega)⟩)
     (case aO=>exact Q7_.out.row)
     (case aB=>exact Q7_.out.bel)
     (case aS=>exact Q7_.out.bel.size)
     (case aL=>have e1:=HP.out.2.1;have e2:=HJ.out;have e3:=HN2.out;omega)
     intro v5 w8_ ho hb hg2 hat
     obtain ⟨A5,c5,e5⟩:=Kd.qA0 ho
     subst e5
     have Q9:=zA (Q7_.out.app3 ho hb hg2)
     have B8_:=zA (qA1 Q7_.out.box hg2 (fun e=>absurd (Q7_.out.row.1 vb e.symm).1 (Nat.lt_irrefl _)))
     have fv8_:=qAC B8_.out 3
     clear ho hb hg2 hat
     refine hK.out _ _ ((qAB B8_.out 3).trans rfl) (fun hHeld => ?_)
     clear hK K
     refine qA3 (a' := ?_) ?_ ?_
     rotate_left
     ·show Act.put _ (some 245) _=_
      simp only [Act.put,qs1,qs2,qs3,qAZ,qAb]
      rfl
     refine pU 8 246 ?_
     refine last_ (i:=9) (N:=none) #[qT,qT,qT,qT,qT,qT,qT,qT,qT,qT] rfl rfl (by kernel_rfl) (by decide) (fun K hK => ?_)
     refine skip_ (w1 := ?_) (by rfl) rfl ?_ ?_
     rotate_left
     ·go_simp
      rfl
     refine hK.out _ _ ?_
     clear hK K
     refine qBL (by kernel_rfl) ?_
     go_wp2
     rw [show (acc ++ [x]).length=acc.length+1 from by simp] at Q9
     go_roundw
     case rel =>
      refine ⟨j+1,acc ++ [x],ks ++ [kk],_,_,a2,wq2,f2,p2,_,rfl,by rw [HWR.out];rfl,⟨?_⟩,Q9⟩
      rcases sa.rec_step HJ.out HP.out.1 HKA.out HOUT.out with ⟨q1,q2,q3,q4⟩ | ⟨q1,q2⟩
      ·have hb2:=HFB.out _ _ _ _ _ HBK.out.1 HBK.out.2.1 HBK.out.2.2.1 HBK.out.2.2.2 q4
       exact Or.inl ⟨q1,q2,q3,⟨by rw [List.length_append,HP.out.2.1.1];rfl,by rw [List.length_append,HP.out.2.1.2];rfl⟩,HJ.out,⟨hb2.1,hb2.2.1,by omega,by omega⟩,fun _=>sa.rd_last ks kk j HP.out.2.1.2⟩
      ·exact Or.inr ⟨q1,q2⟩
     case measure=>exact HM.out
    ·rw [hka] at KY
     have KY:=zA KY
     have HTB:=zA (And.intro (sa.keyS_ne hka) (sa.rec_bad hlt hrem hka))
     have g1:(ee == 0)=false:=beq_eq_false_iff_ne.2 HTB.out.1
     have g2:decide (ee=0)=false:=zF HTB.out.1
     clear hlt hrem hlen hjn hbd hlast hfb hka
     go_wp2_with (first | (go_at_call 79;refine (KY.out _ HL.out.bel HL.out.blk (sa.qB3 HC.out HB.out HL.out.fr)).mono ?_;rintro e_ w7 ⟨⟨kk,rfl⟩,b1,b2,hx⟩;have Q7:=zA (HL.out.step hx);clear hx h3;have h3:=Q7.out.blk.c3))
     go_roundw
     case rel=>exact ⟨j+1,acc,ks,_,_,b1,b2,ee,pp,_,rfl,by rw [HWR.out];rfl,⟨Or.inr HTB.out⟩,Q7⟩
     case measure=>exact HM.out
   ·have i1:decide ((j:Int) < (n:Int))=false:=zF (by omega)
    have i2:decide (j < n)=false:=zF hlt
    have i3:(j < n)=False:=eq_false hlt
    have hjn2:n - j=0:=by omega
    rw [hjn2] at hrem
    have hT2:T=.ok (ks,acc) a' (2048 - wq'):=hrem.symm
    subst hT2
    clear hrem hjn2 hlt hlen hjn hbd HP hlast
    have hz0:wr.cell? ⟨vb,0,none⟩=some (.int .i64 5):=(qAB HL.out.box 0).trans rfl
    have hz1:wr.cell? ⟨vb,1,none⟩=some (.int .i64 0):=(qAB HL.out.box 1).trans rfl
    have hz2:wr.cell? ⟨vb,2,none⟩=some (.string ⟨#[]⟩):=(qAB HL.out.box 2).trans rfl
    have hz3:wr.cell? ⟨vb,3,none⟩=some v3:=(qAB HL.out.box 3).trans rfl
    have hz4:wr.cell? ⟨vb,4,none⟩=some (.slice A4 ks.length c4):=(qAB HL.out.box 4).trans rfl
    have hv1:v3.oneCell'=true:=by obtain ⟨A_,c_,e_⟩:=Kd.qA0 HL.out.row;subst e_;rfl
    go_wp2_with (first | ((with_reducible refine qAW (p:=4) rfl ?_);refine sa.qAo rfl rfl 4 _ rfl w.heap.size rfl (.int .i64 5) (.int .i64 0) (.string ⟨#[]⟩) v3 (.slice A4 ks.length c4) rfl (fun q hq=>by simp at hq;rcases hq with rfl | rfl | rfl | rfl | rfl <;> first | rfl | exact hv1) _ rfl HL.out.res ?_;intro w5_ hres hgr;have HRES:=zA hres;have HGR:=zA hgr;clear hgr hres))
    go_wp2
    refine bodyPost_ret (results_cell_row rfl _ _ w.heap.size 34 _ (0,0) _ rfl HRES.out Try.underlying34 rfl (by kernel_rfl)) rfl ?_
    have e1:=HL.out.hgl;have e2:=HL.out.hvb
    refine ⟨⟨_,_,rfl,Kd.qBi (Kd.qB2 HL.out.row HGR.out (fun k hk e=>by have:=Option.some.inj e;have:=hk.1;omega)) (fun k hk=>by have:=hk.1;omega),Kd.qBi (Kd.qB2 HL.out.keys HGR.out (fun k hk e=>by have:=Option.some.inj e;omega)) (fun k hk=>by omega)⟩, ?_⟩
    rw [show 2048 - (2048 - wq')=wq' by omega]
    exact sa.qBa HL.out.fr HL.out.blk (by omega) HGR.out (Nat.le_refl _) HBB.out.size HL.out.bel
  ·have g1:(f' == 0)=false:=beq_eq_false_iff_ne.2 hf
   have g2:decide (f'=0)=false:=zF hf
   have HNE:=zA hf
   clear hf HS
   by_cases hlt:j < n
   ·have i1:decide ((j:Int) < (n:Int))=true:=zT (by omega)
    have i2:decide (j < n)=true:=zT hlt
    have i3:(j < n)=True:=eq_true hlt
    clear hlt
    have hz0:wr.cell? ⟨vb,0,none⟩=some (.int .i64 5):=(qAB HL.out.box 0).trans rfl
    have hz1:wr.cell? ⟨vb,1,none⟩=some (.int .i64 0):=(qAB HL.out.box 1).trans rfl
    have hz2:wr.cell? ⟨vb,2,none⟩=some (.string ⟨#[]⟩):=(qAB HL.out.box 2).trans rfl
    have hz3:wr.cell? ⟨vb,3,none⟩=some v3:=(qAB HL.out.box 3).trans rfl
    have hz4:wr.cell? ⟨vb,4,none⟩=some (.slice A4 ks.length c4):=(qAB HL.out.box 4).trans rfl
    have hv1:v3.oneCell'=true:=by obtain ⟨A_,c_,e_⟩:=Kd.qA0 HL.out.row;subst e_;rfl
    go_wp2_with (first | ((with_reducible refine qAW (p:=4) rfl ?_);refine sa.qAo rfl rfl 4 _ rfl w.heap.size rfl (.int .i64 5) (.int .i64 0) (.string ⟨#[]⟩) v3 (.slice A4 ks.length c4) rfl (fun q hq=>by simp at hq;rcases hq with rfl | rfl | rfl | rfl | rfl <;> first | rfl | exact hv1) _ rfl HL.out.res ?_;intro w5_ hres hgr;have HRES:=zA hres;have HGR:=zA hgr;clear hgr hres))
    go_wp2
    refine bodyPost_ret (results_cell_row rfl _ _ w.heap.size 34 _ (0,0) _ rfl HRES.out Try.underlying34 rfl (by kernel_rfl)) rfl ?_
    have e1:=HL.out.hgl;have e2:=HL.out.hvb
    exact ⟨⟨⟨5,0,⟨#[]⟩,acc,ks⟩,_,_,rfl,Kd.qBi (Kd.qB2 HL.out.row HGR.out (fun k hk e=>by have:=Option.some.inj e;have:=hk.1;omega)) (fun k hk=>by have:=hk.1;omega),Kd.qBi (Kd.qB2 HL.out.keys HGR.out (fun k hk e=>by have:=Option.some.inj e;omega)) (fun k hk=>by omega)⟩,HNE.out,_,_,sa.qBa HL.out.fr HL.out.blk (by omega) HGR.out (Nat.le_refl _) HBB.out.size HL.out.bel⟩
   ·have i1:decide ((j:Int) < (n:Int))=false:=zF (by omega)
    have i2:decide (j < n)=false:=zF hlt
    have i3:(j < n)=False:=eq_false hlt
    clear hlt
    have hz0:wr.cell? ⟨vb,0,none⟩=some (.int .i64 5):=(qAB HL.out.box 0).trans rfl
    have hz1:wr.cell? ⟨vb,1,none⟩=some (.int .i64 0):=(qAB HL.out.box 1).trans rfl
    have hz2:wr.cell? ⟨vb,2,none⟩=some (.string ⟨#[]⟩):=(qAB HL.out.box 2).trans rfl
    have hz3:wr.cell? ⟨vb,3,none⟩=some v3:=(qAB HL.out.box 3).trans rfl
    have hz4:wr.cell? ⟨vb,4,none⟩=some (.slice A4 ks.length c4):=(qAB HL.out.box 4).trans rfl
    have hv1:v3.oneCell'=true:=by obtain ⟨A_,c_,e_⟩:=Kd.qA0 HL.out.row;subst e_;rfl
    go_wp2_with (first | ((with_reducible refine qAW (p:=4) rfl ?_);refine sa.qAo rfl rfl 4 _ rfl w.heap.size rfl (.int .i64 5) (.int .i64 0) (.string ⟨#[]⟩) v3 (.slice A4 ks.length c4) rfl (fun q hq=>by simp at hq;rcases hq with rfl | rfl | rfl | rfl | rfl <;> first | rfl | exact hv1) _ rfl HL.out.res ?_;intro w5_ hres hgr;have HRES:=zA hres;have HGR:=zA hgr;clear hgr hres))
    go_wp2
    refine bodyPost_ret (results_cell_row rfl _ _ w.heap.size 34 _ (0,0) _ rfl HRES.out Try.underlying34 rfl (by kernel_rfl)) rfl ?_
    have e1:=HL.out.hgl;have e2:=HL.out.hvb
    exact ⟨⟨⟨5,0,⟨#[]⟩,acc,ks⟩,_,_,rfl,Kd.qBi (Kd.qB2 HL.out.row HGR.out (fun k hk e=>by have:=Option.some.inj e;have:=hk.1;omega)) (fun k hk=>by have:=hk.1;omega),Kd.qBi (Kd.qB2 HL.out.keys HGR.out (fun k hk e=>by have:=Option.some.inj e;omega)) (fun k hk=>by omega)⟩,HNE.out,_,_,sa.qBa HL.out.fr HL.out.blk (by omega) HGR.out (Nat.le_refl _) HBB.out.size HL.out.bel⟩
end
section
set_option maxHeartbeats 4000000
set_option maxRecDepth 100000
theorem sa.rvalue1 {bs:List Int} {u i:Int→Int × Int × Int} (hU:sa.Uin bs u i) (hR:sa.Rin bs u i) {w0:World} {g:Nat} {A:Option Addr} {c:Nat} {p:Int} (hg:w0.heap.size≤g) (hc:bs.length≤c):∀ (d:Nat),d≤8→∀ (within:Int),within=8 - (d:Int)→∀ (w:World) (a wq:Int),Below w0.heap.size w0 w→sa.RB w g A bs.length c a wq 0 p→(Kd.int .u8).C w A bs.length bs→0≤a→a≤(bs.length:Int)→0≤wq→wq≤2048 →
  Calls Try.prog 62 #[.pointer (some ⟨g,0,none⟩),.int .i64 within] w (sa.qCK (sa.valS bs u i d a (2048 - wq)) w0 w g A bs.length c p):=by
 intro d
 induction d with
 | zero =>
  intro _ within hw w a wq hb hB hC ha0 ha1 hl0 hl1
  rw [sa.valS]
  by_cases h0:a=(bs.length:Int) ∨ rd bs a > 6
  ·rw [if_pos h0]
   by_cases h00:a=(bs.length:Int)
   ·exact sa.rv_b1 hU hR hb hg hB hC hc within h00
   ·exact sa.rv_b2 hU hR hb hg hB hC hc within ha0 (by omega) (h0.resolve_left h00)
  rw [if_neg h0]
  exact sa.rv_bd hU hR hb hg hB hC hc within ha0 (by have:a ≠ (bs.length:Int):=fun e=>h0 (Or.inl e);omega) (by have:¬ rd bs a > 6:=fun e=>h0 (Or.inr e);omega) (by omega)
 | succ d ih =>
  intro hd within hw w a wq hb hB hC ha0 ha1 hl0 hl1
  rw [sa.valS_s]
  by_cases h0:a=(bs.length:Int) ∨ rd bs a > 6
  ·rw [if_pos h0]
   by_cases h00:a=(bs.length:Int)
   ·exact sa.rv_b1 hU hR hb hg hB hC hc within h00
   ·exact sa.rv_b2 hU hR hb hg hB hC hc within ha0 (by omega) (h0.resolve_left h00)
  rw [if_neg h0]
  have ha2:a < (bs.length:Int):=by
   have:a ≠ (bs.length:Int):=fun e=>h0 (Or.inl e)
   omega
  have hx:rd bs a≤6:=by
   have:¬ rd bs a > 6:=fun e=>h0 (Or.inr e)
   omega
  have hw8:within < 8:=by omega
  by_cases h1:1 > 2048 - wq
  ·rw [if_pos h1]
   exact sa.rv_bw hU hR hb hg hB hC hc within ha0 ha2 hx hw8 hl1 (by omega)
  rw [if_neg h1]
  have hwq:0≤wq∧wq+1≤2048:=by omega
  by_cases k1:rd bs a=1
  ·rw [if_pos k1];exact sa.rv_t1 hU hR hb hg hB hC hc within hw8 ha0 ha2 hwq k1
  rw [if_neg k1]
  by_cases k2:rd bs a=2
  ·rw [if_pos k2];exact sa.rv_t2 hU hR hb hg hB hC hc within hw8 ha0 ha2 hwq k2
  rw [if_neg k2]
  by_cases k3:rd bs a=3
  ·rw [if_pos k3]
   by_cases e1:(i (a+1)).2.2 ≠ 0
   ·rw [if_pos e1];exact sa.rv_t3N hU hR hb hg hB hC hc within hw8 ha0 ha2 hwq k3 e1
   ·rw [if_neg e1];exact sa.rv_t3 hU hR hb hg hB hC hc within hw8 ha0 ha2 hwq k3 (Classical.byContradiction e1)
  rw [if_neg k3]
  have hL:2048 - wq - 1=2048 - (wq+1):=by omega
  rw [hL]
  have hIH:∀ (W:World) (a wq:Int),Below w0.heap.size w0 W→sa.RB W g A bs.length c a wq 0 p→(Kd.int .u8).C W A bs.length bs→0≤a→a≤(bs.length:Int)→0≤wq→wq≤2048→Calls Try.prog 62 #[.pointer (some ⟨g,0,none⟩),.int .i64 (within+1)] W (sa.qCK (sa.valS bs u i d a (2048 - wq)) w0 W g A bs.length c p):=ih (by omega) (within+1) (by omega)
  have hFB:∀ (a l:Int) (x:S34) (a2 l2:Int),0≤a→a≤(bs.length:Int)→0≤l→l≤2048→sa.valS bs u i d a l=.ok x a2 l2→0≤a2∧a2≤(bs.length:Int)∧0≤l2∧l2≤2048:=fun a l x a2 l2 q1 q2 q3 q4 q=>sa.valS_b hU d a l x a2 l2 ⟨q1,q2,q3,q4⟩ q
  have cE:∀ t,(u (a+1)).2.2 ≠ 0→sa.qBe u a t (a+1) (2048 - (wq+1))=.bad 41 (a+1):=fun t e1=>by unfold sa.qBe;rw [if_pos e1]
  have cS:∀ t,¬ (u (a+1)).2.2 ≠ 0→(2048 - (wq+1)) / t < (u (a+1)).1→sa.qBe u a t (a+1) (2048 - (wq+1))=.bad 42 a:=fun t e1 e2=>by unfold sa.qBe;rw [if_neg e1,if_pos e2]
  have cK:∀ t,¬ (u (a+1)).2.2 ≠ 0→¬ (2048 - (wq+1)) / t < (u (a+1)).1→sa.qBe u a t (a+1) (2048 - (wq+1))=.ok (u (a+1)).1 (u (a+1)).2.1 (2048 - (wq+1)):=fun t e1 e2=>by unfold sa.qBe;rw [if_neg e1,if_neg e2]
  have hRR:=hU.R (a+1)
  by_cases k4:rd bs a=4
  ·rw [if_pos k4]
   by_cases e1:(u (a+1)).2.2 ≠ 0
   ·rw [if_pos e1];exact sa.rv_t4E hU hR hb hg hB hC hc within hw8 ha0 ha2 hwq k4 (by decide) (cE 1 e1)
   rw [if_neg e1]
   by_cases e2:(2048 - (wq+1)) / 1 < (u (a+1)).1
   ·rw [if_pos e2];exact sa.rv_t4E hU hR hb hg hB hC hc within hw8 ha0 ha2 hwq k4 (by decide) (cS 1 e1 e2)
   rw [if_neg e2]
   have hN:=hU.N (a+1) (Classical.byContradiction e1)
   have hcb:=cK 1 e1 e2
   rw [Int.ediv_one] at e2
   by_cases e3:(bs.length:Int) - (u (a+1)).2.1 < (u (a+1)).1
   ·rw [if_pos e3];exact sa.rv_t4C hU hR hb hg hB hC hc within hw8 ha0 ha2 hwq k4 hcb ⟨hRR.1,by omega,by omega,hN.2.2⟩ e3
   ·rw [if_neg e3];exact sa.rv_t4 hU hR hb hg hB hC hc within hw8 ha0 ha2 hwq k4 hcb ⟨hRR.1,by omega,by omega,hN.2.2⟩ (Int.not_lt.1 e3)
  rw [if_neg k4]
  by_cases k5:rd bs a=5
  ·rw [if_pos k5]
   by_cases e1:(u (a+1)).2.2 ≠ 0
   ·rw [if_pos e1];exact sa.rv_t5E hU hR hb hg hB hC hc within hw8 ha0 ha2 hwq k5 (by decide) (cE 1 e1)
   rw [if_neg e1]
   by_cases e2:(2048 - (wq+1)) / 1 < (u (a+1)).1
   ·rw [if_pos e2];exact sa.rv_t5E hU hR hb hg hB hC hc within hw8 ha0 ha2 hwq k5 (by decide) (cS 1 e1 e2)
   rw [if_neg e2]
   have hN:=hU.N (a+1) (Classical.byContradiction e1)
   have hcb:=cK 1 e1 e2
   rw [Int.ediv_one] at e2
   obtain ⟨n,hn⟩:=Int.eq_ofNat_of_zero_le hRR.1
   rw [hn] at hcb e2 ⊢
   rw [Int.toNat_natCast]
   exact sa.rv_t5 hU hR hb hg hB hC hc within hw8 ha0 ha2 hwq k5 hcb (by omega) ⟨by omega,hN.2.2⟩ (by omega) _ hFB hIH
  rw [if_neg k5]
  by_cases k6:rd bs a=6
  ·rw [if_pos k6]
   by_cases e1:(u (a+1)).2.2 ≠ 0
   ·rw [if_pos e1];exact sa.rv_t6E hU hR hb hg hB hC hc within hw8 ha0 ha2 hwq k6 (by decide) (cE 2 e1)
   rw [if_neg e1]
   by_cases e2:(2048 - (wq+1)) / 2 < (u (a+1)).1
   ·rw [if_pos e2];exact sa.rv_t6E hU hR hb hg hB hC hc within hw8 ha0 ha2 hwq k6 (by decide) (cS 2 e1 e2)
   rw [if_neg e2]
   have hN:=hU.N (a+1) (Classical.byContradiction e1)
   have hcb:=cK 2 e1 e2
   obtain ⟨n,hn⟩:=Int.eq_ofNat_of_zero_le hRR.1
   rw [hn] at hcb e2 ⊢
   rw [Int.toNat_natCast]
   have hle:(2048 - (wq+1)) / 2≤2048 - (wq+1):=Int.ediv_le_self _ (by omega)
   exact sa.rv_t6 hU hR hb hg hB hC hc within hw8 ha0 ha2 hwq k6 hcb (by omega) ⟨by omega,hN.2.2⟩ (by omega) _ hFB hIH
  rw [if_neg k6]
  have hbx:0≤rd bs a:=by
   have hlt:a.toNat < bs.length:=by omega
   have:rd bs a=bs[a.toNat]:=by unfold rd;rw [List.getD_eq_getElem?_getD,List.getElem?_eq_getElem hlt];rfl
   rw [this]
   exact (hU.B _ (List.getElem_mem hlt)).1
  rw [← hL]
  exact sa.rv_t0 hU hR hb hg hB hC hc within hw8 ha0 ha2 hwq (by omega)
theorem sa.res23 {tmps:Array Value} {w:World} {bv:Nat} (hp4:tmps[4]?=some (.pointer (some ⟨bv,0,none⟩))) {v0 v1 v2 v3 v4:Value} {x y:Int} (hp5:tmps[5]?=some (.int .i64 x)) (hp6:tmps[6]?=some (.int .i64 y)) (hv:w.heap[bv]?=some (.cells #[v0,v1,v2,v3,v4] 34 (0,0))) :
  (results Try.f44 tmps).run Try.prog w=.ok (.tuple #[.agg #[v0,v1,v2,v3,v4],.int .i64 x,.int .i64 y]) w:=by
 have z0:w.cell? ⟨bv,0,none⟩=some v0:=(qAB hv 0).trans rfl
 have z1:w.cell? ⟨bv,1,none⟩=some v1:=(qAB hv 1).trans rfl
 have z2:w.cell? ⟨bv,2,none⟩=some v2:=(qAB hv 2).trans rfl
 have z3:w.cell? ⟨bv,3,none⟩=some v3:=(qAB hv 3).trans rfl
 have z4:w.cell? ⟨bv,4,none⟩=some v4:=(qAB hv 4).trans rfl
 simp [results,Try.results23,hp4,hp5,hp6,asAddr,z0,z1,z2,z3,z4,go_sem]
def sa.RGotT (r:sa.R3 S34) (w:World) (e:Ending) (w':World):Prop :=
 match r with
 | .ok x a' _=>∃ v3 v4:Value,e=.returned (.tuple #[.agg #[.int .i64 x.f0,.int .i64 x.f1,.string x.f2,v3,v4],.int .i64 a',.int .i64 0])∧k34.R 34 w' w.heap.size (fun _=>True) v3 x.f3∧Kd.string.R 9 w' w.heap.size (fun _=>True) v4 x.f4∧Below w.heap.size w w'
 | .bad f p=>e=.returned (.tuple #[.agg #[.int .i64 0,.int .i64 0,.string ⟨#[]⟩,.slice none 0 0,.slice none 0 0],.int .i64 p,.int .i64 f])∧Below w.heap.size w w'
theorem sa.rtakeA {bs:List Int} {w:World} {A:Option Addr} {c:Nat} {at_:Int} (h:at_ < 0 ∨ at_ > (bs.length:Int)):Calls Try.prog 44 #[.slice A bs.length c,.int .i64 at_] w (sa.RGotT (.bad 41 0) w):=by
 obtain ⟨m,hm⟩:∃ m,bs.length=m:=⟨_,rfl⟩
 rw [hm] at h ⊢
 have FIN:=zA (show (w.alloc (.cells #[.int .i64 0,.int .i64 0,.string ⟨#[]⟩,.slice none 0 0,.slice none 0 0] 34)).heap[w.heap.size]?=some (.cells #[.int .i64 0,.int .i64 0,.string ⟨#[]⟩,.slice none 0 0,.slice none 0 0] 34 (0,0))∧Below w.heap.size w (w.alloc (.cells #[.int .i64 0,.int .i64 0,.string ⟨#[]⟩,.slice none 0 0,.slice none 0 0] 34)) from ⟨by simpa using heap_alloc_new w _,(Below.refl _ _).alloc (Nat.le_refl _) _⟩)
 by_cases h1:at_ < 0
 ·have d1:decide (at_ < 0)=true:=zT h1
  clear h
  go_enter Try.func44,Try.ntmps44
  go_wp2
  refine bodyPost_ret (sa.res23 rfl rfl rfl FIN.out.1) rfl ?_
  exact ⟨rfl,FIN.out.2⟩
 ·have d1:decide (at_ < 0)=false:=zF h1
  have h2:at_ > (m:Int):=h.resolve_left h1
  have d2:decide (at_ > (m:Int))=true:=zT h2
  have d3:decide ((m:Int) < at_)=true:=zT h2
  clear h h1
  go_enter Try.func44,Try.ntmps44
  go_wp2
  refine bodyPost_ret (sa.res23 rfl rfl rfl FIN.out.1) rfl ?_
  exact ⟨rfl,FIN.out.2⟩
theorem sa.rtakeC {bs:List Int} {u i:Int→Int × Int × Int} (hU:sa.Uin bs u i) (hRR:sa.Rin bs u i) {w:World} {A:Option Addr} {c:Nat} {at_:Int} (hC:(Kd.int .u8).C w A bs.length bs) (hc:bs.length≤c) (h0:0≤at_) (h1:at_≤(bs.length:Int)) {ee pp:Int} (hr:sa.valS bs u i 8 at_ 2048=.bad ee pp) :
  Calls Try.prog 44 #[.slice A bs.length c,.int .i64 at_] w (sa.RGotT (.bad ee pp) w):=by
 have d1:decide (at_ < 0)=false:=zF (by omega)
 have d2:decide (at_ > (bs.length:Int))=false:=zF (by omega)
 have d3:decide ((bs.length:Int) < at_)=false:=zF (by omega)
 have HU:=zA hU
 have HRR:=zA hRR
 have HC:=zA hC
 have HCC:=zA hc
 have H0:=zA h0
 have H1:=zA h1
 have HR:=zA hr
 have HT:=zA (show (w.alloc (.cells #[.int .i64 0,.int .i64 0,.string ⟨#[]⟩,.slice none 0 0,.slice none 0 0] 34)).heap[w.heap.size]?=some (.cells #[.int .i64 0,.int .i64 0,.string ⟨#[]⟩,.slice none 0 0,.slice none 0 0] 34 (0,0))∧(w.alloc (.cells #[.int .i64 0,.int .i64 0,.string ⟨#[]⟩,.slice none 0 0,.slice none 0 0] 34)).heap.size=w.heap.size+1∧Below w.heap.size w (w.alloc (.cells #[.int .i64 0,.int .i64 0,.string ⟨#[]⟩,.slice none 0 0,.slice none 0 0] 34)) from ⟨by simpa using heap_alloc_new w _,Deep.nblk_alloc _ _,(Below.refl _ _).alloc (Nat.le_refl _) _⟩)
 clear hU hRR hC hc h0 h1 hr
 go_enter Try.func44,Try.ntmps44
 go_wp2_with (first | ((with_reducible refine qAl (N:=21) rfl ?_);refine qAg ?hg (N:=21) ?hd (cs:=#[.slice A bs.length c,.int .i64 at_,.int .i64 0,.int .i64 0,.int .i64 0]) (t:=92) ?hr ?_;(case hd=>rfl);(case hg=>rfl);(case hr=>first | (go_simp;done) | (go_simp;rfl));intro g hg w2 hbox hb1;have HB2:=zA (qAY HT.out.2.2 HT.out.2.2.size hb1);have V2:=zA (qAX HT.out.1 hb1);have G2:=zA (show sa.RB w2 g A bs.length c at_ 0 0 0 from hbox);have HG:=zA (hg.trans HT.out.2.1);clear hbox hb1 hg) | (go_at_call 62;refine (sa.rvalue1 HU.out HRR.out (show w.heap.size≤g by have:=HG.out;omega) HCC.out 8 (by omega) 0 rfl w2 at_ 0 HB2.out G2.out (Kd.qAc HC.out HB2.out) H0.out H1.out (by omega) (by omega)).mono ?_;rw [show (2048 - 0:Int)=2048 from rfl,HR.out];rintro e_ w3 ⟨⟨x,v3,v4,rfl,hr3,hr4⟩,hf,b1,b2,hx⟩;have g1:(ee != 0)=true:=bne_iff_ne.2 hf;have g2:(ee == 0)=false:=beq_eq_false_iff_ne.2 hf;have g3:decide (ee=0)=false:=zF hf;clear hf;have HV:=zA (sa.qBu (by obtain ⟨A_,c_,e_⟩:=Kd.qA0 hr3;exact ⟨_,_,_,e_⟩));have HW:=zA (sa.qBu (by obtain ⟨A_,c_,e_⟩:=Kd.qA0 hr4;exact ⟨_,_,_,e_⟩));have R3_:=zA hr3;have R4_:=zA hr4;have V3:=zA ((hx.fr.2 _ (qAe V2.out) (by have:=HG.out;omega)).trans V2.out);have G3:=zA hx.blk;have HB3:=zA hx.bel;clear hx hr3 hr4) | ((with_reducible refine qAW (p:=8) rfl ?_);refine sa.qAo rfl rfl 8 _ rfl w3.heap.size rfl (.int .i64 x.f0) (.int .i64 x.f1) (.string x.f2) v3 v4 rfl (fun q hq=>by simp at hq;rcases hq with rfl | rfl | rfl | rfl | rfl <;> first | rfl | exact HV.out.1 | exact HW.out.1) _ rfl (by simpa using heap_alloc_new w3 _) ?_;intro w4 hres hgr;have HB4:=zA (sa.qCA hgr);have X4:=zA hres;have V4:=zA (qAX V3.out HB4.out);have G4:=zA (G3.out.below HB4.out);have BL4:=zA (qAY HB3.out HB3.out.size HB4.out);have HLT:=zA (qAe V3.out);clear hres hgr;have h3:=G4.out.c3))
 clear h3
 refine qAz (n:=12) (S:=fun w'=>w'.cell? ⟨g,4,none⟩=some (.int .i64 pp)∧w'.cell? ⟨g,3,none⟩=some (.int .i64 ee)) (ds:=[]) #[qF,qF,qF,qF,qF,qF,qF,qF,qF,qF,qF,qF] (by kernel_rfl) rfl rfl ⟨(G4.out.below (qAK (Below.refl _ _))).c4,(G4.out.below (qAK (Below.refl _ _))).c3⟩ (fun hHeld => ?_)
 generalize hwd:w4.drew=wd at hHeld ⊢
 have Gd:=zA (hwd▸G4.out.below (qAK (Below.refl _ _)))
 have Vd:=zA (hwd▸qAL V4.out)
 have Xd:=zA (hwd▸qAL X4.out)
 have BLd:=zA (hwd▸qAK BL4.out)
 clear hwd
 refine pU 0 29 ?_
 refine pU 1 30 ?_
 refine pU 2 31 ?_
 refine pU 3 32 ?_
 refine pU 5 34 ?_
 refine pU 6 35 ?_
 refine pU 7 36 ?_
 refine tK 4 33 hHeld ?_
 refine tK 8 37 hHeld ?_
 refine one_ (i:=9) (N:=none) #[qT,qT,qT,qT,qT,qT,qT,qT,qT,qT,qF,qF] rfl rfl (by kernel_rfl) (by decide) (fun K hK => ?_)
 refine sa.st25 34 (by rfl) rfl 4 (.tmp 29) rfl (by kernel_rfl) w.heap.size 0 rfl (.int .i64 0) (.int .i64 0) (.string ⟨#[]⟩) (.slice none 0 0) (.slice none 0 0) rfl ?hone _ 34 (Nat.le_refl _) Vd.out ?_
 (case hone=>intro q hq;simp at hq;rcases hq with rfl | rfl | rfl | rfl | rfl <;> rfl)
 intro w6 cv' q1 q2 q3 q4 q5
 have V6:=zA q1
 have SZ6:=zA q2
 have GR6:=zA q3
 have G6:=zA (show sa.RB w6 g A bs.length c _ _ _ _ from (q5.block _ (qAe Gd.out) (fun e_=>by have:=Option.some.inj e_;have:=HG.out;omega)).trans Gd.out)
 have X6:=zA ((q5.block _ (qAe Xd.out) (fun e_=>by have:=Option.some.inj e_;have:=HLT.out;omega)).trans Xd.out)
 have HB6:=zA (show Below w.heap.size w w6 from ⟨q5.os.trans BLd.out.os,q5.tape.trans BLd.out.tape,q5.output.trans BLd.out.output,Nat.le_trans BLd.out.size q5.size,fun k hk=>(q5.block k (Nat.lt_of_lt_of_le hk BLd.out.size) (fun e_=>by have:=Option.some.inj e_;omega)).trans (BLd.out.block k hk)⟩)
 clear q1 q2 q3 q4 q5
 refine hK.out _ _ ⟨G6.out.c4,G6.out.c3⟩ (fun hHeld => ?_)
 clear hK K
 refine pU 10 5 ?_
 refine pU 11 6 ?_
 refine qBL (by kernel_rfl) ?_
 go_wp2
 have hcv:=sa.grp_eq SZ6.out GR6.out
 have V9:=V6.out
 rw [hcv] at V9
 refine bodyPost_ret (sa.res23 rfl rfl rfl V9) rfl ?_
 exact ⟨rfl,HB6.out⟩
theorem sa.rtakeB {bs:List Int} {u i:Int→Int × Int × Int} (hU:sa.Uin bs u i) (hRR:sa.Rin bs u i) {w:World} {A:Option Addr} {c:Nat} {at_:Int} (hC:(Kd.int .u8).C w A bs.length bs) (hc:bs.length≤c) (h0:0≤at_) (h1:at_≤(bs.length:Int)) {x:S34} {a2 l2:Int} (hr:sa.valS bs u i 8 at_ 2048=.ok x a2 l2) :
  Calls Try.prog 44 #[.slice A bs.length c,.int .i64 at_] w (sa.RGotT (.ok x a2 l2) w):=by
 have d1:decide (at_ < 0)=false:=zF (by omega)
 have d2:decide (at_ > (bs.length:Int))=false:=zF (by omega)
 have d3:decide ((bs.length:Int) < at_)=false:=zF (by omega)
 have HU:=zA hU
 have HRR:=zA hRR
 have HC:=zA hC
 have HCC:=zA hc
 have H0:=zA h0
 have H1:=zA h1
 have HR:=zA hr
 have HT:=zA (show (w.alloc (.cells #[.int .i64 0,.int .i64 0,.string ⟨#[]⟩,.slice none 0 0,.slice none 0 0] 34)).heap[w.heap.size]?=some (.cells #[.int .i64 0,.int .i64 0,.string ⟨#[]⟩,.slice none 0 0,.slice none 0 0] 34 (0,0))∧(w.alloc (.cells #[.int .i64 0,.int .i64 0,.string ⟨#[]⟩,.slice none 0 0,.slice none 0 0] 34)).heap.size=w.heap.size+1∧Below w.heap.size w (w.alloc (.cells #[.int .i64 0,.int .i64 0,.string ⟨#[]⟩,.slice none 0 0,.slice none 0 0] 34)) from ⟨by simpa using heap_alloc_new w _,Deep.nblk_alloc _ _,(Below.refl _ _).alloc (Nat.le_refl _) _⟩)
 clear hU hRR hC hc h0 h1 hr
 go_enter Try.func44,Try.ntmps44
 go_wp2_with (first | ((with_reducible refine qAl (N:=21) rfl ?_);refine qAg ?hg (N:=21) ?hd (cs:=#[.slice A bs.length c,.int .i64 at_,.int .i64 0,.int .i64 0,.int .i64 0]) (t:=92) ?hr ?_;(case hd=>rfl);(case hg=>rfl);(case hr=>first | (go_simp;done) | (go_simp;rfl));intro g hg w2 hbox hb1;have HB2:=zA (qAY HT.out.2.2 HT.out.2.2.size hb1);have V2:=zA (qAX HT.out.1 hb1);have G2:=zA (show sa.RB w2 g A bs.length c at_ 0 0 0 from hbox);have HG:=zA (hg.trans HT.out.2.1);clear hbox hb1 hg) | (go_at_call 62;refine (sa.rvalue1 HU.out HRR.out (show w.heap.size≤g by have:=HG.out;omega) HCC.out 8 (by omega) 0 rfl w2 at_ 0 HB2.out G2.out (Kd.qAc HC.out HB2.out) H0.out H1.out (by omega) (by omega)).mono ?_;rw [show (2048 - 0:Int)=2048 from rfl,HR.out];rintro e_ w3 ⟨⟨v3,v4,rfl,hr3,hr4⟩,hx⟩;have HV:=zA (sa.qBu (by obtain ⟨A_,c_,e_⟩:=Kd.qA0 hr3;exact ⟨_,_,_,e_⟩));have HW:=zA (sa.qBu (by obtain ⟨A_,c_,e_⟩:=Kd.qA0 hr4;exact ⟨_,_,_,e_⟩));have R3_:=zA hr3;have R4_:=zA hr4;have V3:=zA ((hx.fr.2 _ (qAe V2.out) (by have:=HG.out;omega)).trans V2.out);have G3:=zA hx.blk;have HB3:=zA hx.bel;clear hx hr3 hr4) | ((with_reducible refine qAW (p:=8) rfl ?_);refine sa.qAo rfl rfl 8 _ rfl w3.heap.size rfl (.int .i64 x.f0) (.int .i64 x.f1) (.string x.f2) v3 v4 rfl (fun q hq=>by simp at hq;rcases hq with rfl | rfl | rfl | rfl | rfl <;> first | rfl | exact HV.out.1 | exact HW.out.1) _ rfl (by simpa using heap_alloc_new w3 _) ?_;intro w4 hres hgr;have HB4:=zA (sa.qCA hgr);have X4:=zA hres;have V4:=zA (qAX V3.out HB4.out);have G4:=zA (G3.out.below HB4.out);have BL4:=zA (qAY HB3.out HB3.out.size HB4.out);have HLT:=zA (qAe V3.out);clear hres hgr;have h3:=G4.out.c3))
 clear h3
 refine qAz (n:=8) (S:=fun w'=>w'.cell? ⟨g,1,none⟩=some (.int .i64 a2)∧w'.cell? ⟨w3.heap.size,0,none⟩=some (.int .i64 x.f0)∧w'.cell? ⟨w3.heap.size,1,none⟩=some (.int .i64 x.f1)∧w'.cell? ⟨w3.heap.size,2,none⟩=some (.string x.f2)∧w'.cell? ⟨w3.heap.size,3,none⟩=some (v3)∧w'.cell? ⟨w3.heap.size,4,none⟩=some (v4)) (ds:=[]) #[qF,qF,qF,qF,qF,qF,qF,qF] (by kernel_rfl) rfl rfl ⟨(G4.out.below (qAK (Below.refl _ _))).c1,(qAB (qAL X4.out) 0).trans rfl,(qAB (qAL X4.out) 1).trans rfl,(qAB (qAL X4.out) 2).trans rfl,(qAB (qAL X4.out) 3).trans rfl,(qAB (qAL X4.out) 4).trans rfl⟩ (fun hHeld => ?_)
 generalize hwd:w4.drew=wd at hHeld ⊢
 have Gd:=zA (hwd▸G4.out.below (qAK (Below.refl _ _)))
 have Vd:=zA (hwd▸qAL V4.out)
 have Xd:=zA (hwd▸qAL X4.out)
 have BLd:=zA (hwd▸qAK BL4.out)
 have R3d:=zA (hwd▸Kd.qBB (Kd.qAp R3_.out HB4.out))
 have R4d:=zA (hwd▸Kd.qBB (Kd.qAp R4_.out HB4.out))
 clear hwd
 refine pU 1 39 ?_
 refine pU 2 40 ?_
 refine pU 3 41 ?_
 refine tK 0 38 hHeld ?_
 refine tK 4 42 hHeld ?_
 refine one_ (i:=5) (N:=none) #[qT,qT,qT,qT,qT,qT,qF,qF] rfl rfl (by kernel_rfl) (by decide) (fun K hK => ?_)
 refine sa.st25 34 (by rfl) rfl 4 (.tmp 38) rfl (by kernel_rfl) w.heap.size 0 rfl (.int .i64 x.f0) (.int .i64 x.f1) (.string x.f2) v3 v4 rfl ?hone _ 34 (Nat.le_refl _) Vd.out ?_
 (case hone=>intro q hq;simp at hq;rcases hq with rfl | rfl | rfl | rfl | rfl <;> first | rfl | exact HV.out.1 | exact HW.out.1)
 intro w6 cv' q1 q2 q3 q4 q5
 have V6:=zA q1
 have SZ6:=zA q2
 have GR6:=zA q3
 have G6:=zA (show sa.RB w6 g A bs.length c _ _ _ _ from (q5.block _ (qAe Gd.out) (fun e_=>by have:=Option.some.inj e_;have:=HG.out;omega)).trans Gd.out)
 have X6:=zA ((q5.block _ (qAe Xd.out) (fun e_=>by have:=Option.some.inj e_;have:=HLT.out;omega)).trans Xd.out)
 have HB6:=zA (show Below w.heap.size w w6 from ⟨q5.os.trans BLd.out.os,q5.tape.trans BLd.out.tape,q5.output.trans BLd.out.output,Nat.le_trans BLd.out.size q5.size,fun k hk=>(q5.block k (Nat.lt_of_lt_of_le hk BLd.out.size) (fun e_=>by have:=Option.some.inj e_;omega)).trans (BLd.out.block k hk)⟩)
 have R36:=zA (Kd.qBi (Kd.qB2 R3d.out q5 (fun k hk e=>by have:=Option.some.inj e;have:=HB2.out.size;have:=qAe G2.out;have:=HG.out;omega)) (fun _ _=>trivial):k34.R 34 w6 w.heap.size (fun _=>True) v3 x.f3)
 have R46:=zA (Kd.qBi (Kd.qB2 R4d.out q5 (fun k hk e=>by have:=Option.some.inj e;have:=HB2.out.size;have:=qAe G2.out;have:=HG.out;omega)) (fun _ _=>trivial):Kd.string.R 9 w6 w.heap.size (fun _=>True) v4 x.f4)
 clear q1 q2 q3 q4 q5
 refine hK.out _ _ ⟨G6.out.c1,(qAB X6.out 0).trans rfl,(qAB X6.out 1).trans rfl,(qAB X6.out 2).trans rfl,(qAB X6.out 3).trans rfl,(qAB X6.out 4).trans rfl⟩ (fun hHeld => ?_)
 clear hK K
 refine pU 6 5 ?_
 refine pU 7 6 ?_
 refine qBL (by kernel_rfl) ?_
 go_wp2
 have hcv:=sa.grp_eq SZ6.out GR6.out
 have V9:=V6.out
 rw [hcv] at V9
 refine bodyPost_ret (sa.res23 rfl rfl rfl V9) rfl ?_
 exact ⟨_,_,rfl,R36.out,R46.out,HB6.out⟩
theorem sa.rtake1 {bs:List Int} {u i:Int→Int × Int × Int} (hU:sa.Uin bs u i) (hR:sa.Rin bs u i) {w:World} {A:Option Addr} {c:Nat} (at_:Int) (hC:(Kd.int .u8).C w A bs.length bs) (hc:bs.length≤c):Calls Try.prog 44 #[.slice A bs.length c,.int .i64 at_] w (sa.RGotT (sa.takeS bs u i at_) w):=by
 unfold sa.takeS
 by_cases h:at_ < 0 ∨ at_ > (bs.length:Int)
 ·rw [if_pos h];exact sa.rtakeA h
 ·rw [if_neg h]
  have h0:0≤at_:=by
   have:¬ at_ < 0:=fun e=>h (Or.inl e)
   omega
  have h1:at_≤(bs.length:Int):=by
   have:¬ at_ > (bs.length:Int):=fun e=>h (Or.inr e)
   omega
  rcases hr:sa.valS bs u i 8 at_ 2048 with ⟨x,a2,l2⟩ | ⟨ee,pp⟩
  ·exact sa.rtakeB hU hR hC hc h0 h1 hr
  ·exact sa.rtakeC hU hR hC hc h0 h1 hr
end
end Go.Proofs.Ytdommiicjpjfpaa.X
