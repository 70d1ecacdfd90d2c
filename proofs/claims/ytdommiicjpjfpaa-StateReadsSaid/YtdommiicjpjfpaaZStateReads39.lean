import Derived.Test.YtdommiicjpjfpaaZStateReads3
import Derived.Test.YtdommiicjpjfpaaZStateReads2
import Derived.Test.YtdommiicjpjfpaaZStateReads4
import Derived.WalkLawsBesides
import Derived.Laws.Pointers
import Derived.Shelf.Abstract
import Derived.Deep.DeepMust
import Derived.Deep.QuietTactic
import Derived.BigQuiet
import Derived.ArgAppend
import Derived.Test.YtdommiicjpjfpaaZStateReads34
import Derived.Laws.Rows
import Derived.Test.YtdommiicjpjfpaaZStateReads38
import Derived.Test.YtdommiicjpjfpaaZStateReads31
import Derived.ChangeArms
import Derived.Test.YtdommiicjpjfpaaZStateReads35
import Derived.Test.YtdommiicjpjfpaaZStateReads25
import Derived.Test.YtdommiicjpjfpaaZStateReads27
set_option linter.unusedVariables false
set_option linter.unusedSimpArgs false
namespace Go.Proofs.Ytdommiicjpjfpaa.X
open Go.RowKit Go.Proofs.YtdommiicjpjfpaaW.PrintWords Go.Proofs.YtdommiicjpjfpaaW.PrintLast Go.Proofs.YtdommiicjpjfpaaW.PrintMore Go.Proofs.YtdommiicjpjfpaaW
section
set_option maxHeartbeats 4000000
set_option maxRecDepth 100000
def sa.mine:ByteArray:=⟨#[109,105,110,101]⟩
theorem sa.measS (j n:Nat) (h:j < n) (e:wrap64 ((j:Int)+1)=(j:Int)+1):n - (intOf (.int .i64 (wrap64 ((j:Int)+1)))).toNat < n - (intOf (.int .i64 (j:Int))).toNat:=by
 rw [e]
 show n - ((j:Int)+1).toNat < n - ((j:Int)).toNat
 omega
theorem sa.Row.belowS {W W1:World} {t size:Nat} {Z:Nat→Prop} {v:Value} {n:Nat} (h:sa.Row W t size Z v n) (hb:Below W.heap.size W W1):sa.Row W1 t size Z v n:=by
 rcases h with ⟨rfl,rfl⟩ | ⟨b,c,cs,rfl,hZ,hh,hle,hcs⟩
 ·exact Or.inl ⟨rfl,rfl⟩
 ·exact Or.inr ⟨b,c,cs,rfl,hZ,qAX hh hb,hle,hcs⟩
theorem sa.grown_set (W:World) (b j:Nat) (u:Value):W.grownBy (W.setCell ⟨b,j,none⟩ u) (some b):=⟨rfl,rfl,rfl,by simp [World.setCell],fun k _ hk=>Below.heap_setCell W ⟨b,j,none⟩ u k (fun e=>hk (by rw [e]))⟩
theorem sa.keepB {w1 w2:World} {Y:Nat→Prop} {pb b:Nat} {c:Obj} (h:w1.heap[pb]?=some c) (hn:¬ Y pb) (hz:Y b ∨ w1.heap.size≤b) (hf:∀ k,k < w1.heap.size→k ≠ b→w2.heap[k]?=w1.heap[k]?):w2.heap[pb]?=some c:=(hf pb (qAe h) (fun e=>by
 subst e
 rcases hz with hz | hz
 ·exact hn hz
 ·have:=qAe h;omega)).trans h
theorem sa.Row.other {W W1:World} {t t2 size:Nat} {Z:Nat→Prop} {v:Value} {n b:Nat} (h:sa.Row W t size Z v n) (hf:∀ k,k < W.heap.size→k ≠ b→W1.heap[k]?=W.heap[k]?) (ht:∀ c0 q f,W.heap[b]?=some (.cells c0 q f)→q=t2) (hne:t ≠ t2):sa.Row W1 t size Z v n:=by
 rcases h with ⟨rfl,rfl⟩ | ⟨b',c,cs,rfl,hZ,hh,hle,hcs⟩
 ·exact Or.inl ⟨rfl,rfl⟩
 ·exact Or.inr ⟨b',c,cs,rfl,hZ,(hf b' (qAe hh) (fun e=>by subst e;exact hne (ht _ _ _ hh))).trans hh,hle,hcs⟩
set_option maxHeartbeats 16000000 in
theorem sa.spoil1 {Y:Nat→Prop} {B:Nat} (hBB:B≤1759218604390):∀ (d:Nat) (x:S34) (v3 v4:Value) (w:World),(∀ k,Y k→k < w.heap.size)→sa.VRow w Y d v3 x.f3→sa.KRow w Y v4 x.f4→sa.szL B d x.f3→x.f4.length≤5 * B+2 →
  Calls Try.prog 14 #[.agg #[.int .i64 x.f0,.int .i64 x.f1,.string x.f2,v3,v4]] w fun e w'=>e=.returned (.tuple #[])∧sa.SimW Y sa.mine w w':=by
 intro d
 induction d with
 | zero=>intro x v3 v4 w hY h;exact h.elim
 | succ d ih =>
 rintro ⟨f0,f1,f2,f3,f4⟩ v3 v4 w hY hV hK hS hk
 obtain ⟨A4,c4,e4,l4,g4⟩:=hK.C
 obtain ⟨A3,c3,e3,l3,g3⟩:=sa.VRow.C (d+1) hV
 subst e3;subst e4
 dsimp only at *
 have hu25:=Try.underlying34
 have HV:=zA hV
 have HK:=zA hK
 have HY:=zA hY
 have HSZ:=zA hS
 obtain ⟨n,hn⟩:∃ n,f3.length=n:=⟨_,rfl⟩
 obtain ⟨m,hm⟩:∃ m,f4.length=m:=⟨_,rfl⟩
 have HNB:=zA (show n≤1759218604390∧m≤8796093021952 from ⟨by have:=hS.1;omega,by omega⟩)
 have HN:=zA hn
 have HM4:=zA hm
 rw [hn] at HV ⊢
 rw [hm] at HK ⊢
 clear hY hV hK g3 g4 l3 l4 hS hk hn hm
 go_enter Try.func14,Try.ntmps14
 go_wp2_with (first | ((with_reducible refine qAl (N:=1) rfl ?_);refine qAg ?hg (N:=1) ?hd (cs:=#[.int .i64 f0,.int .i64 f1,.string f2,.slice A3 n c3,.slice A4 m c4]) (t:=34) ?hr ?_;(case hd=>rfl);(case hg=>rfl);(case hr=>first | (go_simp;done) | (go_simp;rfl));intro pb hpb w1 hbox hb1;have HB1:=zA hbox;have HS1:=zA (sa.SimW.of_below (Y:=Y) (mark:=sa.mine) hb1);have HPB:=zA (Nat.le_of_eq hpb.symm);clear hbox hb1 hpb))
 have HNY:=zA (show ¬ Y pb from fun y=>by have:=HY.out pb y;have:=HPB.out;omega)
 go_loopw [2] (fun v2 wr=>∃ j:Nat,v2=.int .i64 (j:Int)∧qAA (j≤n)∧qAA (sa.SimW Y sa.mine w wr)∧qAA (wr.heap[pb]?=some (.cells #[.int .i64 f0,.int .i64 f1,.string f2,.slice A3 n c3,.slice A4 m c4] 34 (0,0)))) (fun v2 _=>n - (intOf v2).toNat)
 case atStart=>exact ⟨0,rfl,⟨Nat.zero_le _⟩,HS1,HB1⟩
 case round =>
  clear HS1 HB1
  obtain ⟨j,rfl,HJ0,HS,HB⟩:=hrel
  have hz3:wr.cell? ⟨pb,3,none⟩=some (.slice A3 n c3):=(qAB HB.out 3).trans rfl
  by_cases hlt:j < n
  ·have i1:decide ((j:Int) < (n:Int))=true:=zT (by omega)
   have i2:decide (j < n)=true:=zT hlt
   have i3:(j < n)=True:=eq_true hlt
   have HWR:=zA (show wrap64 ((j:Int)+1)=(j:Int)+1 by have:=HNB.out;unfold wrap64;omega)
   have HM:=zA (sa.measS j n hlt HWR.out)
   have HJ:=zA (show j+1≤n by omega)
   have t3:(j:Int) < (n:Int):=by omega
   obtain ⟨xs,hxl,hxv,hxs⟩:=sa.VRow.simW (B:=B) HS.out (d+1) HV.out HSZ.out
   rw [HN.out] at hxl
   obtain ⟨b,cs,x,u3,u4,hA,hyb,hcs,hnc,hsz,hx,hgr,r3,r4⟩:=hxv.elem hlt hxl
   obtain ⟨ad,had⟩:∃ ad,ad=(⟨b,0,none⟩:Addr):=⟨_,rfl⟩
   rw [← had] at hA
   subst hA
   have hsx:=hxs.2 x (List.mem_of_getElem? hx)
   have IH:=zA (ih x u3 u4 wr (fun k hk=>Nat.lt_of_lt_of_le (HY.out k hk) HS.out.size) r3 r4 hsx.1 hsx.2)
   obtain ⟨z0,z1,z2,z3,z4⟩:=sa.five.of hcs hgr had
   have HAD:=zA had
   have HYB:=zA (And.intro hyb (HY.out b hyb))
   have HCS:=zA hcs
   have HFT:=zA (show j * 5+5≤cs.size by omega)
   clear hxl hxv hxs had hyb hcs hnc hsz hx hgr r3 r4 hsx hlt
   go_wp2_with (first | (go_at_call 14;refine IH.out.mono ?_;rintro e_ w7 ⟨rfl,hs⟩;have HS7:=zA (HS.out.trans hs);have HB7:=zA ((hs.out pb (qAe HB.out) HNY.out).trans HB.out);obtain ⟨cs7,hc7,hz7,_⟩:=hs.ins b HYB.out.1 cs 34 HCS.out;have HC7:=zA hc7;have HF7:=zA (show j * 5+5≤cs7.size by rw [hz7];exact HFT.out);clear hs hc7 hz7 hz3 z0 z1 z2 z3 z4))
   refine qAz (n:=6) (S:=fun w'=>w'.cell? ⟨pb,3,none⟩=some (.slice (some ad) n c3)) (ds:=[5]) #[qF,qF,qF,qF,qF,qF] (by kernel_rfl) rfl rfl ((qAB (qAL HB7.out) 3).trans rfl) (fun hHeld => ?_)
   generalize hwd:w7.drew=wd at hHeld ⊢
   have HSd:=zA (hwd▸HS7.out.trans (sa.SimW.of_below (qAK (Below.refl _ _))))
   have HBd:=zA (hwd▸qAL HB7.out)
   have HCd:=zA (hwd▸qAL HC7.out)
   clear hwd
   refine pU 0 19 ?_
   refine pU 2 21 ?_
   refine tK 1 20 hHeld ?_
   refine one_ (i:=3) (N:=some 22) #[qT,qT,qT,qT,qF,qF] rfl rfl (by kernel_rfl) (by decide) (fun K hK => ?_)
   refine qBZ Try.func34 (by kernel_rfl) rfl #[] (by rfl) rfl rfl (by (try simp only [List.map_toArray,List.map_cons,List.map_nil]);first | done | rfl) ?_
   refine (sa.mark52 _).mono ?_
   rintro e_ w8 ⟨rfl,hb⟩
   refine ⟨_,rfl, ?_⟩
   have HS8:=zA (HSd.out.trans (sa.SimW.of_below hb))
   have HB8:=zA (qAX HBd.out hb)
   have HC8:=zA (qAX HCd.out hb)
   clear hb
   refine hK.out _ _ ((qAB HB8.out 3).trans rfl) (fun hHeld => ?_)
   clear hK K
   refine qA3 (a' := ?_) ?_ ?_
   rotate_left
   ·show Act.put _ (some 22) _=_
    simp only [Act.put,qs1,qs2,qs3,qAZ,qAb]
    rfl
   refine pU 4 23 ?_
   refine last_ (i:=5) (N:=none) #[qT,qT,qT,qT,qT,qT] rfl rfl (by kernel_rfl) (by decide) (fun K hK => ?_)
   refine sa.st25 34 (by rfl) rfl 23 (.tmp 22) rfl (by kernel_rfl) b (j * 5) ?haddr (.int .i64 2) (.int .i64 77) (.string ⟨#[]⟩) (.slice none 0 0) (.slice none 0 0) rfl ?hone cs7 34 HF7.out HC8.out ?_
   (case haddr=>show Value.pointer (some (ad.add (j * 5)))=_;rw [HAD.out,Addr.add_lit,Nat.zero_add])
   (case hone=>exact fun q hq=>by simp at hq;rcases hq with rfl | rfl | rfl | rfl <;> rfl)
   intro w9 cs' q1 q2 q3 q4 q5
   have HS9:=zA (HS8.out.storeG HYB.out.1 HYB.out.2 HC8.out q5 q1 q2 q3 q4)
   have HB9:=zA ((q5.block pb (qAe HB8.out) (fun e_=>HNY.out (Option.some.inj e_▸HYB.out.1))).trans HB8.out)
   clear q1 q2 q3 q4 q5
   refine hK.out _ _ ?_
   clear hK K
   refine qBL (by kernel_rfl) ?_
   go_wp2
   go_roundw
   case rel=>exact ⟨j+1,by rw [HWR.out];rfl,HJ,HS9,HB9⟩
   case measure=>exact HM.out
  ·have i1:decide ((j:Int) < (n:Int))=false:=zF (by omega)
   have i2:decide (j < n)=false:=zF hlt
   have i3:(j < n)=False:=eq_false hlt
   clear hlt
   go_wp2
   clear hz3
   go_loopw [3] (fun v3 wr=>∃ j:Nat,v3=.int .i64 (j:Int)∧qAA (j≤m)∧qAA (sa.SimW Y sa.mine w wr)∧qAA (wr.heap[pb]?=some (.cells #[.int .i64 f0,.int .i64 f1,.string f2,.slice A3 n c3,.slice A4 m c4] 34 (0,0)))) (fun v3 _=>m - (intOf v3).toNat)
   case atStart=>exact ⟨0,rfl,⟨Nat.zero_le _⟩,HS,HB⟩
   case round =>
    clear HS HB HJ0 i1 i2 i3
    obtain ⟨j,rfl,HJ0,HS,HB⟩:=hrel
    have hz4:wr.cell? ⟨pb,4,none⟩=some (.slice A4 m c4):=(qAB HB.out 4).trans rfl
    by_cases hlt:j < m
    ·have i1:decide ((j:Int) < (m:Int))=true:=zT (by omega)
     have i2:decide (j < m)=true:=zT hlt
     have i3:(j < m)=True:=eq_true hlt
     have HWR:=zA (show wrap64 ((j:Int)+1)=(j:Int)+1 by have:=HNB.out;unfold wrap64;omega)
     have HM:=zA (sa.measS j m hlt HWR.out)
     have HJ:=zA (show j+1≤m by omega)
     have t3:(j:Int) < (m:Int):=by omega
     obtain ⟨ks,hkl,hkv⟩:=sa.KRow.simW HS.out HK.out
     rw [HM4.out] at hkl
     obtain ⟨b,cs,kk,hA,hyb,hcs,hcj⟩:=hkv.elemS hlt hkl
     obtain ⟨ad,had⟩:∃ ad,ad=(⟨b,0,none⟩:Addr):=⟨_,rfl⟩
     rw [← had] at hA
     subst hA
     have hadj:ad.add j=⟨b,j,none⟩:=by rw [had,Addr.add_lit,Nat.zero_add]
     have HAD:=zA hadj
     have HYB:=zA (And.intro hyb (HY.out b hyb))
     have HCS:=zA hcs
     have HCJ:=zA (Array.getElem?_eq_some_iff.1 hcj).1
     have z0:wr.cell? (ad.add j)=some (.string kk):=by rw [hadj];exact sa.cell_of hcs hcj
     have zf:wr.frozen? (ad.add j)=false:=by rw [hadj];exact qAC hcs j
     clear hkl hkv had hyb hcs hcj hadj hlt
     go_wp2
     go_roundw
     case rel=>exact ⟨j+1,by rw [HWR.out];rfl,HJ,⟨by rw [HAD.out];exact HS.out.setK HYB.out.1 HYB.out.2 HCS.out HCJ.out⟩,⟨by rw [HAD.out];exact (Below.heap_setCell wr ⟨b,j,none⟩ (.string sa.mine) pb (show pb ≠ b from fun e_=>HNY.out (e_▸HYB.out.1))).trans HB.out⟩⟩
     case measure=>exact HM.out
    ·have i1:decide ((j:Int) < (m:Int))=false:=zF (by omega)
     have i2:decide (j < m)=false:=zF hlt
     have i3:(j < m)=False:=eq_false hlt
     clear hlt
     go_wp2
     clear hz4
     obtain ⟨xs,hxl,hxv,hxs⟩:=sa.VRow.simW (B:=B) HS.out (d+1) HV.out HSZ.out
     obtain ⟨ks,hkl,hkv⟩:=sa.KRow.simW HS.out HK.out
     rw [HN.out] at hxl
     rw [HM4.out] at hkl
     have R7:=hxv.row (Z:=Y) (fun k hk=>hk)
     have R8:=hkv.row (Z:=Y) (fun k hk=>hk)
     rw [hxl] at R7
     rw [hkl] at R8
     have R7:=zA R7
     have R8:=zA R8
     clear hxl hxv hxs hkl hkv
     refine qAz (n:=9) (S:=fun w'=>w'.cell? ⟨pb,3,none⟩=some (.slice A3 n c3)) (ds:=[7]) #[qF,qF,qF,qF,qF,qF,qF,qF,qF] (by kernel_rfl) rfl rfl ((qAB (qAL HB.out) 3).trans rfl) (fun hHeld => ?_)
     generalize hwd:wr.drew=wd at hHeld ⊢
     have HSd:=zA (hwd▸HS.out.trans (sa.SimW.of_below (qAK (Below.refl _ _))))
     have HBd:=zA (hwd▸qAL HB.out)
     have BLd:=zA (hwd▸qAK (Below.refl wr.heap.size wr))
     clear hwd
     refine pU 0 35 ?_
     refine tK 1 36 hHeld ?_
     refine one_ (i:=2) (N:=some 37) #[qT,qT,qT,qF,qF,qF,qF,qF,qF] rfl rfl (by kernel_rfl) (by decide) (fun K hK => ?_)
     refine qBZ Try.func34 (by kernel_rfl) rfl #[] (by rfl) rfl rfl (by (try simp only [List.map_toArray,List.map_cons,List.map_nil]);first | done | rfl) ?_
     refine (sa.mark52 _).mono ?_
     rintro e_ w11 ⟨rfl,hb⟩
     refine ⟨_,rfl, ?_⟩
     have HS11:=zA (HSd.out.trans (sa.SimW.of_below hb))
     have HB11:=zA (qAX HBd.out hb)
     have BL11:=zA (qAY BLd.out BLd.out.size hb)
     clear hb
     refine hK.out _ _ ((qAB HB11.out 3).trans rfl) (fun hHeld => ?_)
     clear hK K
     refine qA3 (a' := ?_) ?_ ?_
     rotate_left
     ·show Act.put _ (some 37) _=_
      simp only [Act.put,qs1,qs2,qs3,qAZ,qAb]
      rfl
     refine one_ (i:=3) (N:=some 38) #[qT,qT,qT,qT,qF,qF,qF,qF,qF] rfl rfl (by kernel_rfl) (by decide) (fun K hK => ?_)
     refine qBZ Try.func34 (by kernel_rfl) rfl #[] (by rfl) rfl rfl (by (try simp only [List.map_toArray,List.map_cons,List.map_nil]);first | done | rfl) ?_
     refine (sa.mark52 _).mono ?_
     rintro e_ w12 ⟨rfl,hb⟩
     refine ⟨_,rfl, ?_⟩
     have HS12:=zA (HS11.out.trans (sa.SimW.of_below hb))
     have HB12:=zA (qAX HB11.out hb)
     have BL12:=zA (qAY BL11.out BL11.out.size hb)
     clear hb
     refine hK.out _ _ ((qAB HB12.out 3).trans rfl) (fun hHeld => ?_)
     clear hK K
     refine qA3 (a' := ?_) ?_ ?_
     rotate_left
     ·show Act.put _ (some 38) _=_
      simp only [Act.put,qs1,qs2,qs3,qAZ,qAb]
      rfl
     refine one_ (i:=4) (N:=some 39) #[qT,qT,qT,qT,qT,qF,qF,qF,qF] rfl rfl (by kernel_rfl) (by decide) (fun K hK => ?_)
     refine qBZ Try.func34 (by kernel_rfl) rfl #[] (by rfl) rfl rfl (by (try simp only [List.map_toArray,List.map_cons,List.map_nil]);first | done | rfl) ?_
     refine (sa.mark52 _).mono ?_
     rintro e_ w13 ⟨rfl,hb⟩
     refine ⟨_,rfl, ?_⟩
     have HS13:=zA (HS12.out.trans (sa.SimW.of_below hb))
     have HB13:=zA (qAX HB12.out hb)
     have BL13:=zA (qAY BL12.out BL12.out.size hb)
     clear hb
     refine hK.out _ _ ((qAB HB13.out 3).trans rfl) (fun hHeld => ?_)
     clear hK K
     refine qA3 (a' := ?_) ?_ ?_
     rotate_left
     ·show Act.put _ (some 39) _=_
      simp only [Act.put,qs1,qs2,qs3,qAZ,qAb]
      rfl
     refine one_ (i:=5) (N:=some 40) #[qT,qT,qT,qT,qT,qT,qF,qF,qF] rfl rfl (by kernel_rfl) (by decide) (fun K hK => ?_)
     refine qBZ Try.func34 (by kernel_rfl) rfl #[] (by rfl) rfl rfl (by (try simp only [List.map_toArray,List.map_cons,List.map_nil]);first | done | rfl) ?_
     refine (sa.mark52 _).mono ?_
     rintro e_ w14 ⟨rfl,hb⟩
     refine ⟨_,rfl, ?_⟩
     have HS14:=zA (HS13.out.trans (sa.SimW.of_below hb))
     have HB14:=zA (qAX HB13.out hb)
     have BL14:=zA (qAY BL13.out BL13.out.size hb)
     clear hb
     refine hK.out _ _ ((qAB HB14.out 3).trans rfl) (fun hHeld => ?_)
     clear hK K
     refine qA3 (a' := ?_) ?_ ?_
     rotate_left
     ·show Act.put _ (some 40) _=_
      simp only [Act.put,qs1,qs2,qs3,qAZ,qAb]
      rfl
     refine one_ (i:=6) (N:=some 41) #[qT,qT,qT,qT,qT,qT,qT,qF,qF] rfl rfl (by kernel_rfl) (by decide) (fun K hK => ?_)
     refine qCL (w1 := ?_) (v := ?_) (by rfl) rfl ?_ ?_
     rotate_left 2
     ·go_simp
      constructor
      ·rfl
      ·rfl
     have HS15:=zA (HS14.out.trans (sa.SimW.of_below (qAE (Below.refl w14.heap.size w14) (.cells #[.int .i64 2,.int .i64 77,.string ⟨#[]⟩,.slice none 0 0,.slice none 0 0,.int .i64 2,.int .i64 77,.string ⟨#[]⟩,.slice none 0 0,.slice none 0 0,.int .i64 2,.int .i64 77,.string ⟨#[]⟩,.slice none 0 0,.slice none 0 0,.int .i64 2,.int .i64 77,.string ⟨#[]⟩,.slice none 0 0,.slice none 0 0] 34))))
     have HB15:=zA (qAP HB14.out (.cells #[.int .i64 2,.int .i64 77,.string ⟨#[]⟩,.slice none 0 0,.slice none 0 0,.int .i64 2,.int .i64 77,.string ⟨#[]⟩,.slice none 0 0,.slice none 0 0,.int .i64 2,.int .i64 77,.string ⟨#[]⟩,.slice none 0 0,.slice none 0 0,.int .i64 2,.int .i64 77,.string ⟨#[]⟩,.slice none 0 0,.slice none 0 0] 34))
     refine hK.out _ _ ((qAB HB15.out 3).trans rfl) (fun hHeld => ?_)
     clear hK K
     refine qA3 (a' := ?_) ?_ ?_
     rotate_left
     ·show Act.put _ (some 41) _=_
      simp only [Act.put,qs1,qs2,qs3,qAZ,qAb]
      rfl
     refine last_ (i:=7) (N:=some 42) #[qT,qT,qT,qT,qT,qT,qT,qT,qF] rfl rfl (by kernel_rfl) (by decide) (fun K hK => ?_)
     obtain ⟨b5,c5,cs5,W5,hrun,hh5,hsz5,hz5,hs5,hf5,ht5⟩:=sa.runV (cap:=4) (v:=.slice A3 n c3) (n:=n) 31 HY.out HS15.out (R7.out.belowS (qAY BL14.out BL14.out.size (qAE (Below.refl w14.heap.size w14) _))) HNB.out.1 (B:=w14.heap.size) (qB5 w14 _)
     refine sa.append_st (by rfl) (.tmp 36) (.tmp 41) 31 rfl rfl rfl hrun ?_
     have HS16:=zA hs5
     have HB16:=zA (sa.keepB HB15.out HNY.out hz5 hf5)
     have HC16:=zA hh5
     have HF16:=zA hsz5
     have HZ16:=zA (hz5.imp_right fun h=>Nat.le_trans HS15.out.size h)
     have FR16:=zA hf5
     have FT16:=zA ht5
     clear hrun hh5 hsz5 hz5 hs5 hf5 ht5
     refine hK.out _ _ ?_
     clear hK K
     refine qA3 (a' := ?_) ?_ ?_
     rotate_left
     ·show Act.put _ (some 42) _=_
      simp only [Act.put,qs1,qs2,qs3,qAZ,qAb]
      rfl
     refine pU 8 4 ?_
     refine qBL (by kernel_rfl) ?_
     have hz4:W5.cell? ⟨pb,4,none⟩=some (.slice A4 m c4):=(qAB HB16.out 4).trans rfl
     have a1:decide (((n+4:Nat):Int) > 0)=true:=zT (by omega)
     have a2:decide (0 < ((n+4:Nat):Int))=true:=zT (by omega)
     have a3:decide (0 < (n:Int)+4)=true:=zT (by omega)
     have a4:decide ((n:Int)+4 > 0)=true:=zT (by omega)
     have a5:(0:Int) < (n:Int)+4:=by omega
     have b1_:decide (((m+4:Nat):Int) > 0)=true:=zT (by omega)
     have b2_:decide (0 < ((m+4:Nat):Int))=true:=zT (by omega)
     have b3_:decide (0 < (m:Int)+4)=true:=zT (by omega)
     have b4_:decide ((m:Int)+4 > 0)=true:=zT (by omega)
     have b5_:(0:Int) < (m:Int)+4:=by omega
     go_wp2_with (first | ((with_reducible refine qBh (b:=.append) (xs:=#[.tmp 44,.tmp 45]) rfl ?_);obtain ⟨b6,c6,cs6,W6,hrun,hh6,hsz6,hz6,hs6,hf6,ht6⟩:=sa.runK (cap:=4) (v:=.slice A4 m c4) (n:=m) (mark:=sa.mine) 32 HY.out (HS16.out.trans (sa.SimW.of_below (qAE (Below.refl W5.heap.size W5) _))) (((R8.out.belowS (qAY BL14.out BL14.out.size (qAE (Below.refl w14.heap.size w14) _))).other FR16.out FT16.out (by decide)).belowS (qAE (Below.refl W5.heap.size W5) _)) HNB.out.2 (B:=W5.heap.size) (qB5 W5 _);refine sa.append_is rfl (.tmp 44) (.tmp 45) 32 rfl rfl rfl hrun ?_;have HS17:=zA hs6;have HK17:=zA hh6;have HC17:=zA ((hf6 b5 (by have:=qAe HC16.out;rw [Deep.nblk_alloc];omega) (fun e=>by have:=ht6 _ _ _ (e▸qAP HC16.out _);exact absurd this (by decide))).trans (qAP HC16.out _));have HZ17:=zA (show Y b6 ∨ w.heap.size≤b6 from hz6.imp_right fun h=>Nat.le_trans (Nat.le_trans HS16.out.size (by rw [Deep.nblk_alloc];omega)) h);have HF17:=zA hsz6;clear hrun hh6 hsz6 hz6 hs6 hf6 ht6 hz4) | (go_at_call 34;refine (sa.mark52 _).mono ?_;rintro e_ w18 ⟨rfl,hb⟩;have HS18:=zA (HS17.out.trans (sa.SimW.of_below hb));have HC18:=zA (qAX HC17.out hb);have HK18:=zA (qAX HK17.out hb);clear hb) | ((with_reducible refine qAW (p:=52) rfl ?_);refine sa.st25L 34 rfl rfl 52 (.tmp 51) rfl (by kernel_rfl) b5 0 ?haddr (.int .i64 2) (.int .i64 77) (.string ⟨#[]⟩) (.slice none 0 0) (.slice none 0 0) rfl (fun q hq=>by simp at hq;rcases hq with rfl | rfl | rfl | rfl <;> rfl) cs5 34 HF16.out HC18.out ?_;(case haddr=>first | rfl | (simp [Addr.add_lit]));intro w19 cs' q1 q2 q3 q4 q5;have HS19:=zA (HS18.out.over HY.out HZ16.out HC18.out q1 q2 (sa.Gm.vals (n:=0) (m:=1) (fun i hi=>(by obtain rfl:i=0:=(by omega);exact q3)) (fun q hq=>q4 q (by omega))) q5);have HK19:=zA ((q5.block b6 (qAe HK18.out) (fun e=>by have e:=Option.some.inj e;have h1:=HK18.out;rw [e,HC18.out] at h1;injection h1 with h1;injection h1 with _ h1 _;exact absurd h1 (by decide))).trans HK18.out);obtain ⟨k6,hk6⟩:∃ k6,cs6[0]?=some k6:=⟨_,Array.getElem?_eq_getElem (show 0 < cs6.size from HF17.out)⟩;have y0:w19.cell? ⟨b6,0,none⟩=some k6:=(qAB HK19.out 0).trans hk6;have yf:w19.frozen? ⟨b6,0,none⟩=false:=qAC HK19.out 0;clear q1 q2 q3 q4 q5 hk6))
     go_end0
     exact ⟨rfl,HS19.out.over HY.out HZ17.out HK19.out (qAy HK19.out 0 (.string sa.mine) rfl) (by simp) (sa.Gm.keys (n:=0) (m:=1) (fun i hi=>by
      obtain rfl:i=0:=by omega
      rw [Nat.add_zero,Array.getElem?_setIfInBounds_self_of_lt (show 0 < cs6.size from HF17.out)]) (fun q hq=>by rw [Array.getElem?_setIfInBounds_ne (by omega)])) (sa.grown_set _ _ _ _)⟩
end
section
set_option maxHeartbeats 1000000
set_option maxRecDepth 100000
theorem sa.VRow.up1 {w:World} {Y:Nat→Prop}:∀ (d:Nat) {v:Value} {xs:List S34},sa.VRow w Y d v xs→sa.VRow w Y (d+1) v xs
 | 0,v,xs,h=>h.elim
 | d+1,v,xs,h=>by
  rcases h with h | ⟨b,c,cs,e,h1,h2,h3,h4,h5,h6⟩
  ·exact Or.inl h
  ·exact Or.inr ⟨b,c,cs,e,h1,h2,h3,h4,h5,fun i x hx=>by
    obtain ⟨u3,u4,g,r3,r4⟩:=h6 i x hx
    exact ⟨u3,u4,g,sa.VRow.up1 d r3,r4⟩⟩
theorem sa.VRow.lift {w:World} {Y:Nat→Prop} {d e:Nat} (h:d≤e) {v:Value} {xs:List S34} (k:sa.VRow w Y d v xs):sa.VRow w Y e v xs:=by
 induction h with
 | refl=>exact k
 | step _ ih=>exact sa.VRow.up1 _ ih
theorem sa.szL.up1 {B:Nat}:∀ (d:Nat) {xs:List S34},sa.szL B d xs→sa.szL B (d+1) xs
 | 0,xs,h=>h.elim
 | d+1,xs,h=>⟨h.1,fun x hx=>⟨sa.szL.up1 d (h.2 x hx).1,(h.2 x hx).2⟩⟩
theorem sa.szL.lift {B d e:Nat} (h:d≤e) {xs:List S34} (k:sa.szL B d xs):sa.szL B e xs:=by
 induction h with
 | refl=>exact k
 | step _ ih=>exact sa.szL.up1 _ ih
theorem sa.sm.szL3:∀ (d:Nat) {x:S34},sa.sm d x→sa.szL 2048 d x.f3
 | 0,x,h=>h
 | d+1,x,h=>⟨h.2.2.2.1,fun y hy=>⟨sa.sm.szL3 d (h.2.2.2.2.2.2 y hy),by
   have:=h.2.2.2.2.2.2 y hy
   cases d with
   | zero=>exact this.elim
   | succ d=>have:=this.2.2.2.2.1;omega⟩⟩
def sa.SE (w:World) (Y:Nat→Prop) (u3 u4:Value) (x:S34):Prop:=∃ d,sa.VRow w Y d u3 x.f3∧sa.szL 2048 d x.f3∧sa.KRow w Y u4 x.f4∧x.f4.length≤10000
theorem sa.SE.of {w:World} {Y:Nat→Prop} {d e:Nat} {u3 u4:Value} {x:S34} (h3:sa.VRow w Y d u3 x.f3) (hs:sa.sm e x) (h4:sa.KRow w Y u4 x.f4):sa.SE w Y u3 u4 x:=by
 refine ⟨max d e,h3.lift (Nat.le_max_left _ _),(sa.sm.szL3 e hs).lift (Nat.le_max_right _ _),h4, ?_⟩
 cases e with
 | zero=>exact hs.elim
 | succ e=>have:=hs.2.2.2.2.1;omega
theorem sa.SE.nil (w:World) (Y:Nat→Prop) (x:S34) (h3:x.f3=[]) (h4:x.f4=[]):sa.SE w Y (.slice none 0 0) (.slice none 0 0) x:=by
 refine ⟨1,Or.inl ⟨rfl,h3⟩, ?_,Or.inl ⟨rfl,h4⟩,by rw [h4];exact Nat.zero_le _⟩
 rw [h3]
 exact ⟨Nat.zero_le _,fun y hy=>by cases hy⟩
theorem sa.SE.move {w w1:World} {Y:Nat→Prop} {u3 u4:Value} {x:S34} (h:sa.SE w Y u3 u4 x) (hm:∀ k,Y k→k < w.heap.size→w1.heap[k]?=w.heap[k]?):sa.SE w1 Y u3 u4 x:=by
 obtain ⟨d,h1,h2,h3,h4⟩:=h
 exact ⟨d,sa.VRow.move (fun k hk=>hk) hm d h1,h2,h3.move (fun k hk=>hk) hm,h4⟩
theorem sa.SE.sim {w w1:World} {Y:Nat→Prop} {mark:ByteArray} {u3 u4:Value} {x:S34} (h:sa.SE w Y u3 u4 x) (hS:sa.SimW Y mark w w1):∃ x':S34,x'.f0=x.f0∧x'.f1=x.f1∧x'.f2=x.f2∧sa.SE w1 Y u3 u4 x':=by
 obtain ⟨d,h1,h2,h3,h4⟩:=h
 obtain ⟨xs,hl,hv,hz⟩:=sa.VRow.simW (B:=2048) hS d h1 h2
 obtain ⟨ks,hk,hr⟩:=sa.KRow.simW hS h3
 exact ⟨⟨x.f0,x.f1,x.f2,xs,ks⟩,rfl,rfl,rfl,d,hv,hz,hr,by rw [hk];exact h4⟩
theorem sa.SE.slices {w:World} {Y:Nat→Prop} {u3 u4:Value} {x:S34} (h:sa.SE w Y u3 u4 x):∃ A3 c3 A4 c4,u3=.slice A3 x.f3.length c3∧u4=.slice A4 x.f4.length c4:=by
 obtain ⟨d,h1,_,h3,_⟩:=h
 obtain ⟨A3,c3,e3,_⟩:=sa.VRow.C d h1
 obtain ⟨A4,c4,e4,_⟩:=sa.KRow.C h3
 exact ⟨A3,c3,A4,c4,e3,e4⟩
theorem sa.spoilE {w:World} {Y:Nat→Prop} {u3 u4:Value} {x:S34} (h:sa.SE w Y u3 u4 x) (hY:∀ k,Y k→k < w.heap.size):Calls Try.prog 14 #[.agg #[.int .i64 x.f0,.int .i64 x.f1,.string x.f2,u3,u4]] w fun e w'=>e=.returned (.tuple #[])∧sa.SimW Y sa.mine w w':=by
 obtain ⟨d,h1,h2,h3,h4⟩:=h
 exact sa.spoil1 (B:=2048) (by decide) d x u3 u4 w hY h1 h3 h2 (by omega)
end
section
set_option maxHeartbeats 4000000
set_option maxRecDepth 100000
section
variable {P:Program} {ops:Array Oper} {rest:List Oper} {o:Oper} {a:Act} {Q:Exit→Act→World→Prop}
theorem sa.store_at {W:World} (hgd:o.guard=none) (hN:o.dst=none) (t:TypeId) (p:Tmp) (x:Operand) (ho:o.op=.store t (.tmp p) x) (vs:List Value) (hinf:(P.info? t).map (·.size)=some vs.length) (b q:Nat) (haddr:a.eval (.tmp p)=.pointer (some ⟨b,q,none⟩)) {u:Value} (hx:a.eval x=u) (hu:u.cells.toList=vs) (h1:∀ z ∈ vs,z.oneCell'=true) (cur:Array Value) (e:TypeId) (hsz:q+vs.length≤cur.size) (hh:W.heap[b]?=some (.cells cur e (0,0)))
  (h:∀ W1 cur',W1.heap[b]?=some (.cells cur' e (0,0))→cur'.size=cur.size→(∀ j,j < vs.length→cur'[q+j]?=vs[j]?)→(∀ j,j < q ∨ q+vs.length≤j→cur'[j]?=cur[j]?)→W.grownBy W1 (some b)→wpList P ops Q rest a W1):wpList P ops Q (o :: rest) a W:=by
 have hrun:(Instr.storeAt t (.pointer (some ⟨b,q,none⟩)) u).run P W=.ok () (W.setCells b q vs):=qCU t _ vs hh hu hinf hsz h1
 obtain ⟨cur',c1,c2,c3⟩:=qBw vs q W cur hh hsz
 obtain ⟨s1,s2,s3,s4⟩:=qBq b vs q W
 have hlen:(cur.toList.take q).length=q:=by rw [List.length_take,Array.length_toList];omega
 have hat:∀ j,cur'[j]?=(cur.toList.take q ++ vs ++ cur.toList.drop (q+vs.length))[j]?:=fun j=>by rw [← Array.getElem?_toList,c3]
 refine wpList_plain hgd fun K hK => ?_
 unfold Oper.wp execOp
 simp only [ho,haddr,hx,Sem.run_bind,Sem.run_pure,Result.andThen_ok,hrun]
 show K (a.put o.dst undef) _
 rw [hN]
 refine hK a _ (h _ cur' c1 c2 (fun j hj => ?_) (fun j hj => ?_) ⟨s1,s2,s3,by omega,fun k hk hne=>qBx _ _ k (fun e=>hne (by rw [e]))⟩)
 ·rw [hat,List.append_assoc,List.getElem?_append_right (by omega),hlen,Nat.add_sub_cancel_left,List.getElem?_append_left hj]
 ·rw [hat]
  rcases hj with hj | hj
  ·rw [List.append_assoc,List.getElem?_append_left (by omega),List.getElem?_take,if_pos hj,Array.getElem?_toList]
  ·rw [List.append_assoc,List.getElem?_append_right (by omega),hlen,List.getElem?_append_right (by omega),List.getElem?_drop]
   have e2:q+vs.length+(j - q - vs.length)=j:=by omega
   rw [e2,Array.getElem?_toList]
end
def sa.g6 (cs:Array Value) (o:Nat) (k:ByteArray) (x:S34) (u3 u4:Value):Prop:=cs[o]?=some (.string k)∧cs[o+1]?=some (.int .i64 x.f0)∧cs[o+2]?=some (.int .i64 x.f1)∧cs[o+3]?=some (.string x.f2)∧cs[o+4]?=some u3∧cs[o+5]?=some u4
structure sa.SpL (w wr:World) (Y:Nat→Prop) (b n:Nat):Prop where
 os:wr.os=w.os
 tape:wr.tape=w.tape
 output:wr.output=w.output
 size:w.heap.size≤wr.heap.size
 out:∀ k,k < w.heap.size→¬ Y k→k ≠ b→wr.heap[k]?=w.heap[k]?
 row:∃ cs,wr.heap[b]?=some (.cells cs 51 (0,0))∧n * 6≤cs.size∧∀ i,i < n→∃ k x u3 u4,sa.g6 cs (i * 6) k x u3 u4∧sa.SE wr Y u3 u4 x
theorem sa.SpL.sim {w wr w7:World} {Y:Nat→Prop} {b n:Nat} (h:sa.SpL w wr Y b n) (hb:¬ Y b) (hs:sa.SimW Y sa.mine wr w7):sa.SpL w w7 Y b n:=by
 obtain ⟨cs,h1,h2,h3⟩:=h.row
 refine ⟨hs.os.trans h.os,hs.tape.trans h.tape,hs.output.trans h.output,Nat.le_trans h.size hs.size,fun k hk hn hne=>(hs.out k (Nat.lt_of_lt_of_le hk h.size) hn).trans (h.out k hk hn hne),cs,(hs.out b (qAe h1) hb).trans h1,h2,fun i hi => ?_⟩
 obtain ⟨k,x,u3,u4,g,e⟩:=h3 i hi
 obtain ⟨x',e0,e1,e2,e3⟩:=e.sim hs
 obtain ⟨a0,a1,a2,a3,a4,a5⟩:=g
 exact ⟨k,x',u3,u4,⟨a0,by rw [e0];exact a1,by rw [e1];exact a2,by rw [e2];exact a3,a4,a5⟩,e3⟩
theorem sa.SpL.put {w wr w7:World} {Y:Nat→Prop} {b n j:Nat} {cs cs':Array Value} {k0:ByteArray} (h:sa.SpL w wr Y b n) (hb:¬ Y b) (hh:wr.heap[b]?=some (.cells cs 51 (0,0))) (h1:w7.heap[b]?=some (.cells cs' 51 (0,0))) (hsz:cs'.size=cs.size)
  (hin:∀ i,i < 6→cs'[j * 6+i]?=[Value.string k0,.int .i64 0,.int .i64 0,.string ⟨#[]⟩,.slice none 0 0,.slice none 0 0][i]?) (hrest:∀ i,i < j * 6 ∨ j * 6+6≤i→cs'[i]?=cs[i]?) (hg:wr.grownBy w7 (some b)):sa.SpL w w7 Y b n:=by
 obtain ⟨cs0,q1,q2,q3⟩:=h.row
 rw [hh] at q1
 injection q1 with q1
 injection q1 with q1
 subst q1
 refine ⟨hg.os.trans h.os,hg.tape.trans h.tape,hg.output.trans h.output,Nat.le_trans h.size hg.size,fun k hk hn hne=>(hg.block k (Nat.lt_of_lt_of_le hk h.size) (fun e=>hne (Option.some.inj e))).trans (h.out k hk hn hne),cs',h1,by rw [hsz];exact q2,fun i hi => ?_⟩
 by_cases hij:i=j
 ·subst hij
  exact ⟨k0,⟨0,0,⟨#[]⟩,[],[]⟩,.slice none 0 0,.slice none 0 0,⟨hin 0 (by omega),hin 1 (by omega),hin 2 (by omega),hin 3 (by omega),hin 4 (by omega),hin 5 (by omega)⟩,sa.SE.nil _ _ _ rfl rfl⟩
 ·obtain ⟨k,x,u3,u4,⟨a0,a1,a2,a3,a4,a5⟩,e⟩:=q3 i hi
  exact ⟨k,x,u3,u4,⟨(hrest _ (by omega)).trans a0,(hrest _ (by omega)).trans a1,(hrest _ (by omega)).trans a2,(hrest _ (by omega)).trans a3,(hrest _ (by omega)).trans a4,(hrest _ (by omega)).trans a5⟩,e.move fun k hk hlt=>hg.block k hlt (fun e=>hb (Option.some.inj e▸hk))⟩
set_option maxHeartbeats 16000000 in
theorem sa.spoil20 {w:World} {Y:Nat→Prop} {b n cap:Nat} (hY:∀ k,Y k→k < w.heap.size) (hb:¬ Y b) (hn:n≤1000) (h:sa.SpL w w Y b n) :
  Calls Try.prog 20 #[.slice (some ⟨b,0,none⟩) n cap] w fun e w'=>e=.returned (.tuple #[])∧sa.SpL w w' Y b n:=by
 have hu34:=Try.underlying34
 have hu51:=Try.underlying51
 have HY:=zA hY
 have HB:=zA hb
 have HN:=zA hn
 have H0:=zA h
 obtain ⟨ad,had⟩:∃ ad,ad=(⟨b,0,none⟩:Addr):=⟨_,rfl⟩
 rw [← had]
 have HAD:=zA had
 clear hY hb hn h had
 go_enter Try.func20,Try.ntmps20
 go_wp2
 go_loopw [2] (fun v2 wr=>∃ j:Nat,v2=.int .i64 (j:Int)∧qAA (j≤n)∧qAA (sa.SpL w wr Y b n)) (fun v2 _=>n - (intOf v2).toNat)
 case atStart=>exact ⟨0,rfl,⟨Nat.zero_le _⟩,H0⟩
 case round =>
  clear H0
  obtain ⟨j,rfl,HJ0,HS⟩:=hrel
  by_cases hlt:j < n
  ·have i1:decide ((j:Int) < (n:Int))=true:=zT (by omega)
   have i2:decide (j < n)=true:=zT hlt
   have i3:(j < n)=True:=eq_true hlt
   have HWR:=zA (show wrap64 ((j:Int)+1)=(j:Int)+1 by have:=HN.out;unfold wrap64;omega)
   have HM:=zA (sa.measS j n hlt HWR.out)
   have HJ:=zA (show j+1≤n by omega)
   have t3:(j:Int) < (n:Int):=by omega
   obtain ⟨cs,hcs,hsz,hg⟩:=HS.out.row
   obtain ⟨k,x,u3,u4,⟨g0,g1,g2,g3,g4,g5⟩,hse⟩:=hg j hlt
   obtain ⟨A3,c3,A4,c4,e3,e4⟩:=hse.slices
   subst e3;subst e4
   have SP:=zA (sa.spoilE hse (fun k hk=>Nat.lt_of_lt_of_le (HY.out k hk) HS.out.size))
   have hoff:∀ i,(⟨(ad.add (j * 6)).block,(ad.add (j * 6)).off+i,none⟩:Addr)=⟨b,j * 6+i,none⟩:=fun i=>by rw [HAD.out,Addr.add_lit,Nat.zero_add]
   have z0:wr.cell? ⟨(ad.add (j * 6)).block,(ad.add (j * 6)).off+1,none⟩=some (.int .i64 x.f0):=by rw [hoff];exact sa.cell_of hcs g1
   have z1:wr.cell? ⟨(ad.add (j * 6)).block,(ad.add (j * 6)).off+2,none⟩=some (.int .i64 x.f1):=by rw [hoff];exact sa.cell_of hcs g2
   have z2:wr.cell? ⟨(ad.add (j * 6)).block,(ad.add (j * 6)).off+3,none⟩=some (.string x.f2):=by rw [hoff];exact sa.cell_of hcs g3
   have z3:wr.cell? ⟨(ad.add (j * 6)).block,(ad.add (j * 6)).off+4,none⟩=some (.slice A3 x.f3.length c3):=by rw [hoff];exact sa.cell_of hcs g4
   have z4:wr.cell? ⟨(ad.add (j * 6)).block,(ad.add (j * 6)).off+5,none⟩=some (.slice A4 x.f4.length c4):=by rw [hoff];exact sa.cell_of hcs g5
   have HLT:=zA hlt
   clear hlt hcs hsz hg g0 g1 g2 g3 g4 g5 hse hoff
   go_wp2_with (first | (go_at_call 14;refine SP.out.mono ?_;rintro e_ w7 ⟨rfl,hs⟩;have HS7:=zA (HS.out.sim HB.out hs);clear hs z0 z1 z2 z3 z4) | ((with_reducible refine qAW (p:=18) rfl ?_);obtain ⟨cs7,hc7,hz7,_⟩:=HS7.out.row;refine sa.store_at (u := ?u) rfl rfl 51 18 (.tmp 17) rfl [.string sa.mine,.int .i64 0,.int .i64 0,.string ⟨#[]⟩,.slice none 0 0,.slice none 0 0] ?hinf b (j * 6) ?haddr ?hx ?hu ?hone cs7 51 ?hfit hc7 ?_;(case hinf=>kernel_rfl);(case haddr=>show Value.pointer (some (ad.add (j * 6)))=_;rw [HAD.out,Addr.add_lit,Nat.zero_add]);(case hx=>rfl);(case hu=>rfl);(case hone=>intro q hq;simp at hq;rcases hq with rfl | rfl | rfl | rfl <;> rfl);(case hfit=>have:=HLT.out;simp only [List.length_cons,List.length_nil];omega);intro w9 cs' q1 q2 q3 q4 q5;have HS9:=zA (HS7.out.put HB.out hc7 q1 q2 q3 q4 q5);clear hc7 hz7 q1 q2 q3 q4 q5))
   go_roundw
   case rel=>exact ⟨j+1,by rw [HWR.out];rfl,HJ,HS9⟩
   case measure=>exact HM.out
  ·have i1:decide ((j:Int) < (n:Int))=false:=zF (by omega)
   have i2:decide (j < n)=false:=zF hlt
   have i3:(j < n)=False:=eq_false hlt
   clear hlt
   go_wp2
   go_end0
   exact ⟨rfl,HS.out⟩
theorem sa.spoil20n (w:World) (A:Option Addr) (c:Nat):Calls Try.prog 20 #[.slice A 0 c] w fun e w'=>e=.returned (.tuple #[])∧w'=w:=by
 obtain ⟨n,hn⟩:∃ n:Nat,n=0:=⟨_,rfl⟩
 rw [← hn]
 have HN:=zA hn
 clear hn
 go_enter Try.func20,Try.ntmps20
 go_wp2
 go_loopw [2] (fun v2 wr=>∃ j:Nat,v2=.int .i64 (j:Int)∧qAA (j=n)∧qAA (wr=w)) (fun v2 _=>0)
 case atStart=>exact ⟨0,rfl,⟨HN.out.symm⟩,⟨rfl⟩⟩
 case round =>
  obtain ⟨j,rfl,HJ,HW⟩:=hrel
  have i1:decide ((j:Int) < (n:Int))=false:=zF (by have:=HJ.out;omega)
  have i2:decide (j < n)=false:=zF (by have:=HJ.out;omega)
  have i3:(j < n)=False:=eq_false (by have:=HJ.out;omega)
  go_wp2
  go_end0
  exact ⟨rfl,HW.out⟩
theorem sa.ke_open {w:World} {base:Nat} {ok:Nat→Prop} {v:Value} {xs:List S51} (h:sa.ke.R 51 w base ok v xs) (hs:∀ x ∈ xs,sa.sm 8 x.f1):(∃ A c,v=.slice A 0 c) ∨ ∃ b cap,v=.slice (some ⟨b,0,none⟩) xs.length cap∧base≤b∧b < w.heap.size∧sa.SpL w w (fun k=>base≤k∧k < w.heap.size∧k ≠ b) b xs.length:=by
 obtain ⟨h0,inner,ho,hr⟩:=h
 rcases ho.2 with ⟨rfl,hn⟩ | ⟨g,cap,cur,rfl,hb,hh,hl,hm,hsz,hi⟩
 ·exact Or.inl ⟨none,0,rfl⟩
 ·refine Or.inr ⟨g,cap,rfl,hb,qAe hh,⟨rfl,rfl,rfl,Nat.le_refl _,fun _ _ _ _=>rfl,cur,hh, ?_,fun i hi2 => ?_⟩⟩
  ·have:cur.size=cap * 6:=hsz
   omega
  ·obtain ⟨c1,c2,e12,hk,d,v3,v4,ec2,r3,r4⟩:=hr.2 i xs[i] (List.getElem?_eq_getElem hi2)
   have hk:c1=[.string xs[i].f0]:=hk
   have hcs:(inner.drop (i * 6)).take 6=[.string xs[i].f0,.int .i64 xs[i].f1.f0,.int .i64 xs[i].f1.f1,.string xs[i].f1.f2,v3,v4]:=by
    have e:(inner.drop (i * 6)).take 6=c1 ++ c2:=e12
    rw [e,hk,ec2]
    rfl
   have at_:∀ q u,[Value.string xs[i].f0,.int .i64 xs[i].f1.f0,.int .i64 xs[i].f1.f1,.string xs[i].f1.f2,v3,v4][q]?=some u→cur[i * 6+q]?=some u:=fun q u hq=>sa.take_at hi (sa.seg_at hcs hq)
   refine ⟨xs[i].f0,xs[i].f1,v3,v4,⟨at_ 0 _ rfl,at_ 1 _ rfl,at_ 2 _ rfl,at_ 3 _ rfl,at_ 4 _ rfl,at_ 5 _ rfl⟩,sa.SE.of (sa.VRow.move (fun k hk=>⟨hk.2.1,hk.2.2,fun e=>hk.1.2 (by rw [e];rfl)⟩) (fun k _ _=>rfl) d r3) (hs _ (List.getElem_mem hi2)) (r4.move (fun k hk=>⟨hk.2.1,hk.2.2,fun e=>hk.1.2 (by rw [e];rfl)⟩) (fun k _ _=>rfl))⟩
end
section
set_option maxRecDepth 100000
open Go.Proofs.Ytdommiicjpjfpaa
theorem sa.rin_of {bs:List Int} (hb:Pl.Bytes bs) (hl:bs.length≤140737488351232):sa.Rin bs (Pl.qAd bs) (Pl.qCJ bs) where
 U:=⟨24,fun a=>Pl.rUint_eq 24 (Nat.le_refl _) bs hb (by omega) a⟩
 I:=⟨24,fun a=>Pl.rInt_eq 24 (Nat.le_refl _) bs hb (by omega) a⟩
end
section
set_option maxHeartbeats 4000000
set_option maxRecDepth 100000
open Go.Proofs.Ytdommiicjpjfpaa Go.Proofs.Ytdommiicjpjfpaa.Pl
theorem sa.rwt (x:S34) (hv:Val x) (hr:sa.Rt x):Ev (fun k=>qBG.f k x.f0 x.f1 x.f2 x.f3 x.f4) (wt x:Int):=by
 rcases good x hv 0 0 0 (by omega) (by omega) (by omega) (by omega) (by omega) (by omega) with ⟨D',W',d,m,r,q,hD,hd,hD8,hW0,hW1,hF,hw⟩ | ⟨D',W',m,r⟩
 ·obtain ⟨K,hK⟩:=m
  have hi:=(sa.meas_inv K).1 x 0 0 0 D' W' hv (by omega) (by omega) (by omega) (by omega) (by omega) (hK K (Nat.le_refl _))
  have he:W'=(wt x:Int):=by have:=hi.2.1;omega
  subst he
  exact Ev.bind r (by rw [if_neg (by omega)];exact Ev.const)
 ·exfalso
  obtain ⟨D2,_,_,hm2⟩:=sa.meas_ok 8 x hr.1 0 0 0 (by omega) (by omega) (by omega) (by omega) (by omega) (by have:=hr.2;omega)
  have:=m.uniq hm2
  injection this with e1 _
  cases e1
set_option maxHeartbeats 32000000 in
theorem sa.dec23 {bs:List Int} (hb:Bytes bs) (hl:bs.length≤140737488351232) {w:World} {A:Option Addr} {c:Nat} (hC:(Kd.int .u8).C w A bs.length bs) (hc:bs.length≤c) :
  Calls Try.prog 23 #[.slice A bs.length c] w (sa.DecT (sa.decF bs).1 (sa.decF bs).2.1 (sa.decF bs).2.2 w):=by
 have hu44:=Try.underlying44
 have hu51:=Try.underlying51
 have hu34:=Try.underlying34
 have HUC:=zA (fun (W:World) (hb2:Below w.heap.size w W)=>qAN.calls 24 A c bs 4 (qAd bs 4).1 (qAd bs 4).2.1 (qAd bs 4).2.2 W (Kd.qAc hC hb2) hc (by rw [rUint_eq 24 (Nat.le_refl _) bs hb (by omega) 4]))
 have HTC:=zA (fun (W:World) (a:Int) (hb2:Below w.heap.size w W)=>qAr.calls 24 A c bs a 32 (qBX bs a 32).1 (qBX bs a 32).2.1 (qBX bs a 32).2.2 W (Kd.qAc hC hb2) hc (by rw [rText_eq 24 (Nat.le_refl _) bs hb (by omega) a 32 (by omega) (by omega)]))
 have HKC:=zA (fun (W:World) (a:Int) (hb2:Below w.heap.size w W)=>sa.rtake1 (sa.uin_of hb hl) (sa.rin_of hb hl) a (Kd.qAc hC hb2) hc)
 have HUR:=zA (qA9 bs hb 4)
 have HTS:=zA (fun (a:Int)=>textAt_small (l:=bs) hb (a:=a) (most:=32) (by omega))
 have HTO:=zA (fun (a x:Int) (y:S34) (b:Int) (h:sa.takeS bs (qAd bs) (qCJ bs) a=.ok y x b)=>sa.takeS_ok hb hl h)
 have HTB:=zA (fun (a e p:Int) (h:sa.takeS bs (qAd bs) (qCJ bs) a=.bad e p)=>sa.takeS_bad hb hl h)
 unfold sa.decF
 by_cases h4:(bs.length:Int) < 4
 ·rw [if_pos (Or.inl h4)]
  have i1:decide ((bs.length:Int) < 4)=true:=zT h4
  have i2:decide (bs.length < 4)=true:=zT (by omega)
  clear h4 hb hl hC hc
  go_enter Try.func23,Try.ntmps23
  go_wp2
  refine bodyPost_ret (results_tmp3 rfl _ _ _) rfl ?_
  exact sa.qBY rfl (Below.refl _ _)
 have i1:decide ((bs.length:Int) < 4)=false:=zF h4
 have i2:decide (bs.length < 4)=false:=zF (by omega)
 have ht4:(bs.take 4).length=4:=by rw [List.length_take];omega
 obtain ⟨i0,hi0,_,_,_⟩:=info_parts (show (Try.prog.info? 5).map (fun i=>(i.zero,i.size,i.bytes))=some (some (.int .u8 0),1,1) by kernel_rfl)
 have CUT:=cut_to (P:=Try.prog) 44 5 .i64 Try.underlying44 hi0 A bs.length c 4 (by omega) (by omega) hc
 have CV:=Kd.qB8 (P:=Try.prog) (c:=c) Try.underlying44 Try.underlying5 Try.underlying9 (Kd.C_take hC (m:=4) (by omega))
 rw [ht4] at CV
 have hmg:strOfNums [83,83,84,49]=⟨#[83,83,84,49]⟩:=by rfl
 clear h4 hC hc
 by_cases hm:bs.take 4=[83,83,84,49]
 case neg =>
  rw [if_pos (Or.inr hm)]
  have hne:strOfNums (bs.take 4) ≠ (⟨#[83,83,84,49]⟩:ByteArray):=fun h=>hm (str_inj (fun z hz=>hb z (List.mem_of_mem_take hz)) (qBz (by decide) (by decide) (qBz (by decide) (by decide) (qBz (by decide) (by decide) (qBz (by decide) (by decide) Bytes.nil)))) (h.trans hmg.symm))
  generalize strOfNums (bs.take 4)=s1 at CV hne
  have j1:(s1.toList == [83,83,84,49])=false:=by simpa using fun h=>hne (toList_inj (h.trans (by rw [ByteArray.toList_eq])))
  have j2:(s1.toList != [83,83,84,49])=true:=by simpa using fun h=>hne (toList_inj (h.trans (by rw [ByteArray.toList_eq])))
  clear hm hne hb hl hmg
  go_enter Try.func23,Try.ntmps23
  go_wp2
  refine bodyPost_ret (results_tmp3 rfl _ _ _) rfl ?_
  exact sa.qBY rfl (Below.refl _ _)
 rw [hm,hmg] at CV
 have n1_:¬ ((bs.length:Int) < 4 ∨ bs.take 4 ≠ [83,83,84,49]):=by
  rintro (h | h)
  ·simp only [decide_eq_false_iff_not] at i1;exact i1 h
  ·exact h hm
 rw [if_neg n1_]
 clear n1_ hm hmg hb hl
 generalize qAd bs 4=u at *
 obtain ⟨n1,nx,e1⟩:=u
 dsimp only
 dsimp only at HUC HUR
 by_cases h1:e1 ≠ 0
 ·rw [if_pos h1]
  have d1:(e1 != 0)=true:=bne_iff_ne.2 h1
  have d2:(e1 == 0)=false:=beq_eq_false_iff_ne.2 h1
  have d3:decide (e1=0)=false:=zF h1
  clear h1
  go_enter Try.func23,Try.ntmps23
  go_wp2_with (first | (go_at_call 42;refine (HUC.out _ (Below.refl _ _)).mono ?_;rintro e_ w2 ⟨rfl,hd⟩;have B2:=zA hd.below;clear hd))
  refine bodyPost_ret (results_tmp3 rfl _ _ _) rfl ?_
  exact sa.qBY rfl B2.out
 rw [if_neg h1]
 have he1:e1=0:=Classical.byContradiction h1
 subst he1
 clear h1
 by_cases h2:n1 > 128
 ·rw [if_pos h2]
  have d1:decide (n1 > 128)=true:=zT h2
  have d2:decide (128 < n1)=true:=zT h2
  clear h2
  go_enter Try.func23,Try.ntmps23
  go_wp2_with (first | (go_at_call 42;refine (HUC.out _ (Below.refl _ _)).mono ?_;rintro e_ w2 ⟨rfl,hd⟩;have B2:=zA hd.below;clear hd))
  refine bodyPost_ret (results_tmp3 rfl _ _ _) rfl ?_
  exact sa.qBY rfl B2.out
 rw [if_neg h2]
 have d1:decide (n1 > 128)=false:=zF h2
 have d2:decide (128 < n1)=false:=zF h2
 obtain ⟨n,rfl⟩:∃ n:Nat,n1=(n:Int):=⟨n1.toNat,by have:=HUR.out.1;omega⟩
 have hn:n≤128:=by omega
 have hwn:wrap64 (n:Int)=(n:Int):=by unfold wrap64;omega
 have hwn2:IntKind.i64.wrap (n:Int)=(n:Int):=(qAZ _).trans hwn
 have HN:=zA hn
 rw [Int.toNat_natCast]
 generalize hRR:sa.decL bs n nx 0 []=r
 have HRR:=zA hRR
 clear h2 hn hRR
 go_enter Try.func23,Try.ntmps23
 go_wp2_with (first | (go_at_call 42;refine (HUC.out _ (Below.refl _ _)).mono ?_;rintro e_ w2 ⟨rfl,hd⟩;have B2:=zA hd.below;clear hd))
 go_loopw [10,9,8,6] (fun v10 v9 v8 v6 wr=>∃ (j:Nat) (at_ all:Int) (l:List S51),v10=.int .i64 (j:Int)∧v9=.int .i64 all∧v6=.int .i64 at_∧qAA (j≤n∧sa.decL bs (n - j) at_ all l=r∧l.length=j∧0≤all∧all≤32768)∧qAA (sa.ke.R 51 wr w.heap.size (fun _=>True) v8 l)∧qAA (Below w.heap.size w wr)) (fun v10 _ _ _ _=>n - (intOf v10).toNat)
 case atStart=>exact ⟨0,nx,0,[],rfl,rfl,rfl,⟨Nat.zero_le _,HRR.out,rfl,by omega,by omega⟩,⟨Kd.qA7 _ _ _ _ _⟩,B2⟩
 case round =>
  clear B2
  obtain ⟨j,at_,all,l,rfl,rfl,rfl,HJ,HO,HW⟩:=hrel
  obtain ⟨vA,vc,ev⟩:=Kd.qA0 HO.out
  subst ev
  by_cases hlt:j < n
  case neg =>
   obtain rfl:j=n:=by have:=HJ.out.1;omega
   have k1:decide ((j:Int) < (j:Int))=false:=zF (by omega)
   have k2:decide (j < j)=false:=zF (by omega)
   have hrr:sa.R3.ok l at_ all=r:=by have h:=HJ.out.2.1;rw [Nat.sub_self] at h;exact h
   subst hrr
   try dsimp only
   clear hlt HRR
   by_cases hend:at_ < (bs.length:Int)
   ·have k5:decide (at_ < (bs.length:Int))=true:=zT hend
    have k6:(at_ < (bs.length:Int))=True:=eq_true hend
    go_wp2
    refine bodyPost_ret (results_tmp3 rfl _ _ _) rfl ?_
    try dsimp only
    exact sa.qBY rfl HW.out
   ·have k5:decide (at_ < (bs.length:Int))=false:=zF hend
    have k6:(at_ < (bs.length:Int))=False:=eq_false hend
    go_wp2
    refine bodyPost_ret (results_tmp3 rfl _ _ _) rfl ?_
    try dsimp only
    exact ⟨HW.out,_,rfl,HO.out⟩
  have k1:decide ((j:Int) < (n:Int))=true:=zT (by omega)
  have k2:decide (j < n)=true:=zT hlt
  have k3:(j < n)=True:=eq_true hlt
  have HLT:=zA hlt
  have HWR:=zA (show wrap64 ((j:Int)+1)=(j:Int)+1 by have:=HN.out;unfold wrap64;omega)
  have HDL:=zA (show sa.decL bs (n - j) at_ all l=match sa.entF bs at_ all l with
    | .bad c p=>.bad c p
    | .ok l2 a2 all2=>sa.decL bs (n - (j+1)) a2 all2 l2 by
    rw [show n - j=(n - (j+1))+1 by omega]
    rfl)
  have HRL:=zA (HDL.out.symm.trans HJ.out.2.1)
  clear HDL HRR
  unfold sa.entF at HRL
  have TX:=zA (HTC.out wr at_ HW.out)
  have TS:=zA (HTS.out at_)
  generalize qBX bs at_ 32=t at *
  obtain ⟨s,m1,f1⟩:=t
  dsimp only at TX TS HRL
  by_cases h1:f1 ≠ 0
  ·rw [if_pos h1] at HRL
   have hrr:=HRL.out
   subst hrr
   have c1:(f1 != 0)=true:=bne_iff_ne.2 h1
   have c2:(f1 == 0)=false:=beq_eq_false_iff_ne.2 h1
   have c3:decide (f1=0)=false:=zF h1
   clear h1 HRL hlt
   try dsimp only
   go_wp2_with (first | (go_at_call 43;refine TX.out.mono ?_;rintro e_ w3 ⟨rfl,hd⟩;have W3:=zA (qAO HW.out hd.below);have O3:=zA (Kd.qAp HO.out hd.below);clear hd))
   refine bodyPost_ret (results_tmp3 rfl _ _ _) rfl ?_
   try dsimp only
   exact sa.qBY rfl W3.out
  rw [if_neg h1] at HRL
  have he1:f1=0:=Classical.byContradiction h1
  subst he1
  clear h1
  have HSZ:=zA (TS.out rfl)
  by_cases h2:s.toList=[]
  ·rw [if_pos (Or.inl h2)] at HRL
   have hrr:=HRL.out
   subst hrr
   have c2:(s.toList == [])=true:=by rw [h2];rfl
   have c3:s.toList.isEmpty=true:=by rw [h2];rfl
   clear HRL hlt
   try dsimp only
   go_wp2_with (first | (go_at_call 43;refine TX.out.mono ?_;rintro e_ w3 ⟨rfl,hd⟩;have W3:=zA (qAO HW.out hd.below);have O3:=zA (Kd.qAp HO.out hd.below);clear hd))
   refine bodyPost_ret (results_tmp3 rfl _ _ _) rfl ?_
   try dsimp only
   exact sa.qBY rfl W3.out
  have H2:=zA h2
  have c2:(s.toList == [])=false:=by simpa using h2
  have c3:s.toList.isEmpty=false:=by simpa using h2
  have HL:=zA HJ.out.2.2.1
  have HKC:=zA (HKC.out)
  by_cases hj:j=0
  ·have hnb:¬ (s.toList=[] ∨ (0 < l.length∧¬ Op.bytesLess (qAJ l ((l.length:Int) - 1)).f0.toList s.toList=true)):=by
    rintro (q | ⟨q,_⟩)
    ·exact h2 q
    ·rw [HL.out] at q;omega
   rw [if_neg hnb] at HRL
   have hj0:decide ((j:Int) > 0)=false:=zF (by omega)
   have hj1:decide (0 < (j:Int))=false:=zF (by omega)
   have hj2:decide (0 < j)=false:=zF (by omega)
   clear hnb h2 hj hlt
   rcases hr:sa.takeS bs (qAd bs) (qCJ bs) m1 with ⟨x,a2,l2⟩ | ⟨ee,pp⟩
   case bad =>
    rw [hr] at HRL
    have hrr:=HRL.out
    subst hrr
    have TB:=zA (HTB.out _ _ _ hr)
    have KB:=zA (fun (W:World) (hb2:Below w.heap.size w W)=>show Calls Try.prog 44 #[.slice A bs.length c,.int .i64 m1] W (fun e w'=>e=.returned (.tuple #[.agg #[.int .i64 0,.int .i64 0,.string ⟨#[]⟩,.slice none 0 0,.slice none 0 0],.int .i64 pp,.int .i64 ee])∧Below W.heap.size W w') from by have h:=HKC.out W m1 hb2;rw [hr] at h;exact h)
    have hee:ee ≠ 0:=by have:=TB.out.1;omega
    have e1:(ee != 0)=true:=bne_iff_ne.2 hee
    have e2:(ee == 0)=false:=beq_eq_false_iff_ne.2 hee
    have e3:decide (ee=0)=false:=zF hee
    clear hr hee HRL
    try dsimp only
    go_wp2_with (first | (go_at_call 43;refine TX.out.mono ?_;rintro e_ w3 ⟨rfl,hd⟩;have W3:=zA (qAO HW.out hd.below);have O3:=zA (Kd.qAp HO.out hd.below);clear hd) | (go_at_call 44;refine (KB.out _ W3.out).mono ?_;rintro e_ w4 ⟨rfl,hb⟩;have W4:=zA (qAO W3.out hb);clear hb))
    refine bodyPost_ret (results_tmp3 rfl _ _ _) rfl ?_
    try dsimp only
    exact sa.qBY rfl (qAE W4.out _)
   case ok =>
    rw [hr] at HRL
    dsimp only at HRL
    obtain ⟨hv0,_,hrt,p0,p1,p2,_,_⟩:=HTO.out _ _ _ _ hr
    obtain ⟨KW,hKW⟩:=sa.rwt x hv0 hrt
    have HKW:=zA (hKW KW (Nat.le_refl _))
    have DEEP:=zA (sa.okV_deep 8 x hrt.1)
    have KO:=zA (fun (W:World) (hb2:Below w.heap.size w W)=>show Calls Try.prog 44 #[.slice A bs.length c,.int .i64 m1] W (fun e w'=>∃ v3 v4:Value,e=.returned (.tuple #[.agg #[.int .i64 x.f0,.int .i64 x.f1,.string x.f2,v3,v4],.int .i64 a2,.int .i64 0])∧k34.R 34 w' W.heap.size (fun _=>True) v3 x.f3∧Kd.string.R 9 w' W.heap.size (fun _=>True) v4 x.f4∧Below W.heap.size W w') from by have h:=HKC.out W m1 hb2;rw [hr] at h;exact h)
    obtain ⟨wn,hwn3⟩:∃ wn,wn=wt x:=⟨_,rfl⟩
    have hwn4:wn≤2048:=by rw [hwn3];exact hrt.2
    have hhv:all+sa.hv ⟨s,x⟩=all+1+(s.size:Int)+(wn:Int):=by unfold sa.hv;dsimp only;rw [hwn3];omega
    rw [← hwn3] at HKW
    rw [hhv] at HRL
    have HWN:=zA hwn4
    clear hr hKW hv0 hrt p0 p1 p2 hwn3 hwn4 hhv
    have hal:=HJ.out.2.2.2
    have hsz:=HSZ.out
    have hwq:=HWN.out
    have s1:wrap64 (all+1)=all+1:=by unfold wrap64;omega
    have s2:wrap64 (all+1+(s.size:Int))=all+1+(s.size:Int):=by unfold wrap64;omega
    have s3:wrap64 (all+1+(s.size:Int)+(wn:Int))=all+1+(s.size:Int)+(wn:Int):=by unfold wrap64;omega
    have HPOS:=zA (show 0≤all+1+(s.size:Int)+(wn:Int) by omega)
    clear hal hsz hwq
    by_cases hbig:all+1+(s.size:Int)+(wn:Int) > 32768
    ·rw [if_pos hbig] at HRL
     have hrr:=HRL.out
     subst hrr
     have e1:decide (all+1+(s.size:Int)+(wn:Int) > 32768)=true:=zT hbig
     have e2:decide (32768 < all+1+(s.size:Int)+(wn:Int))=true:=zT hbig
     clear hbig HRL
     try dsimp only
     go_wp2_with (first | (go_at_call 43;refine TX.out.mono ?_;rintro e_ w3 ⟨rfl,hd⟩;have W3:=zA (qAO HW.out hd.below);have O3:=zA (Kd.qAp HO.out hd.below);clear hd) | (go_at_call 44;refine (KO.out _ W3.out).mono ?_;rintro e_ w4 ⟨v3,v4,rfl,r3,r4,hb⟩;obtain ⟨A3,c3,e3⟩:=Kd.qA0 r3;obtain ⟨A4,c4,e4⟩:=Kd.qA0 r4;subst e3;subst e4;have R3:=zA r3;have R4:=zA r4;have W4:=zA (qAO W3.out hb);have HS4:=zA hb.size;have O4:=zA (Kd.qAp O3.out hb);clear hb r3 r4) | (go_at_call 45;refine (qBG.calls KW x.f0 x.f1 x.f2 A3 c3 x.f3 A4 c4 x.f4 (wn:Int) _ (Kd.qAh (Kd.R_reads' R3.out).2.2 _) (Kd.R_reads' R3.out).2.1 (Kd.qAh (Kd.R_reads' R4.out).2.2 _) (Kd.R_reads' R4.out).2.1 HKW.out).mono ?_;rintro e_ w5 ⟨rfl,hb⟩;have W5:=zA (qAO (qAE W4.out _) hb);have R35:=zA (Kd.qAp (Kd.qBW R3.out _) hb);have R45:=zA (Kd.qAp (Kd.qBW R4.out _) hb);have O5:=zA (Kd.qAp (Kd.qBW O4.out _) hb);have BV:=zA (qAX (qB5 w4 _) hb);have HS5:=zA hb.size;clear hb;have y0:w5.cell? ⟨w4.heap.size,0,none⟩=some (.int .i64 x.f0):=(qAB BV.out 0).trans rfl;have y1:w5.cell? ⟨w4.heap.size,1,none⟩=some (.int .i64 x.f1):=(qAB BV.out 1).trans rfl;have y2:w5.cell? ⟨w4.heap.size,2,none⟩=some (.string x.f2):=(qAB BV.out 2).trans rfl;have y3:w5.cell? ⟨w4.heap.size,3,none⟩=some (.slice A3 x.f3.length c3):=(qAB BV.out 3).trans rfl;have y4:w5.cell? ⟨w4.heap.size,4,none⟩=some (.slice A4 x.f4.length c4):=(qAB BV.out 4).trans rfl))
     refine bodyPost_ret (results_tmp3 rfl _ _ _) rfl ?_
     try dsimp only
     exact sa.qBY rfl W5.out
    rw [if_neg hbig] at HRL
    dsimp only at HRL
    have e1:decide (all+1+(s.size:Int)+(wn:Int) > 32768)=false:=zF hbig
    have e2:decide (32768 < all+1+(s.size:Int)+(wn:Int))=false:=zF hbig
    have HBG:=zA hbig
    clear hbig
    go_wp2_with (first | (go_at_call 43;refine TX.out.mono ?_;rintro e_ w3 ⟨rfl,hd⟩;have W3:=zA (qAO HW.out hd.below);have O3:=zA (Kd.qAp HO.out hd.below);clear hd) | (go_at_call 44;refine (KO.out _ W3.out).mono ?_;rintro e_ w4 ⟨v3,v4,rfl,r3,r4,hb⟩;obtain ⟨A3,c3,e3⟩:=Kd.qA0 r3;obtain ⟨A4,c4,e4⟩:=Kd.qA0 r4;subst e3;subst e4;have R3:=zA r3;have R4:=zA r4;have W4:=zA (qAO W3.out hb);have HS4:=zA hb.size;have O4:=zA (Kd.qAp O3.out hb);clear hb r3 r4) | (go_at_call 45;refine (qBG.calls KW x.f0 x.f1 x.f2 A3 c3 x.f3 A4 c4 x.f4 (wn:Int) _ (Kd.qAh (Kd.R_reads' R3.out).2.2 _) (Kd.R_reads' R3.out).2.1 (Kd.qAh (Kd.R_reads' R4.out).2.2 _) (Kd.R_reads' R4.out).2.1 HKW.out).mono ?_;rintro e_ w5 ⟨rfl,hb⟩;have W5:=zA (qAO (qAE W4.out _) hb);have R35:=zA (Kd.qAp (Kd.qBW R3.out _) hb);have R45:=zA (Kd.qAp (Kd.qBW R4.out _) hb);have O5:=zA (Kd.qAp (Kd.qBW O4.out _) hb);have BV:=zA (qAX (qB5 w4 _) hb);have HS5:=zA hb.size;clear hb;have y0:w5.cell? ⟨w4.heap.size,0,none⟩=some (.int .i64 x.f0):=(qAB BV.out 0).trans rfl;have y1:w5.cell? ⟨w4.heap.size,1,none⟩=some (.int .i64 x.f1):=(qAB BV.out 1).trans rfl;have y2:w5.cell? ⟨w4.heap.size,2,none⟩=some (.string x.f2):=(qAB BV.out 2).trans rfl;have y3:w5.cell? ⟨w4.heap.size,3,none⟩=some (.slice A3 x.f3.length c3):=(qAB BV.out 3).trans rfl;have y4:w5.cell? ⟨w4.heap.size,4,none⟩=some (.slice A4 x.f4.length c4):=(qAB BV.out 4).trans rfl) | ((with_reducible refine qBh (b:=.append) (xs:=#[.tmp 90,.tmp 94]) rfl ?_);refine Kd.qCY sa.ke (w0:=w) w.heap.size rfl (.tmp 90) (.tmp 94) 22 51 (.agg #[.string ⟨#[]⟩,.int .i64 0,.int .i64 0,.string ⟨#[]⟩,.slice none 0 0,.slice none 0 0]) 96 rfl Try.underlying22 info51 rfl (by decide) (by omega) _ l ⟨s,x⟩ [.string s,.int .i64 x.f0,.int .i64 x.f1,.string x.f2,.slice A3 x.f3.length c3,.slice A4 x.f4.length c4] (fun _=>True) (fun k=>w3.heap.size≤k) rfl rfl ?aM ?aF (fun _ _=>trivial) O5.out W5.out W5.out.size ?aL ?_;(case aM=>exact sa.ke_M ⟨8,_,_,rfl,sa.VRow.of_R 8 (Kd.qBd R35.out) (fun k hk=>⟨hk.2.1,Nat.le_trans W3.out.size hk.2.1,hk.2.2.1⟩) DEEP.out,sa.KRow.of_R (Kd.qBd R45.out) (fun k hk=>⟨hk.2.1,Nat.le_trans W3.out.size hk.2.1,hk.2.2.1⟩)⟩);(case aF=>exact fun k hk=>⟨trivial,fun e=>by have h1:=Kd.R_lt O3.out k e.symm;omega⟩);(case aL=>have:=HL.out;have:=HJ.out.1;have:=HN.out;omega);intro v9 w9 hr hb2 hg hat;have O9:=zA hr;have W9:=zA hb2;clear hr hb2 hg hat))
    go_roundw
    case rel=>exact ⟨j+1,a2,all+1+(s.size:Int)+(wn:Int),l ++ [⟨s,x⟩],by rw [HWR.out];rfl,rfl,rfl,⟨HLT.out,HRL.out,by rw [List.length_append,HL.out];rfl,HPOS.out,(by have:=HBG.out;omega)⟩,O9,W9⟩
    case measure=>exact sa.measS j n HLT.out HWR.out
  obtain ⟨q,hq⟩:∃ q,j=q+1:=⟨j - 1,by omega⟩
  subst hq
  have hj0:decide (((q+1:Nat):Int) > 0)=true:=zT (by omega)
  have hj1:decide (0 < ((q+1:Nat):Int))=true:=zT (by omega)
  have hj3:decide ((q:Int)+1 > 0)=true:=zT (by omega)
  have hj4:decide (0 < (q:Int)+1)=true:=zT (by omega)
  have k4:decide ((q:Int)+1 < (n:Int))=true:=zT (by have:=HLT.out;omega)
  have k4p:((q:Int)+1 < (n:Int))=True:=eq_true (by have:=HLT.out;omega)
  have hq6:wrap64 (q:Int)=(q:Int):=by have:=HN.out;have:=HLT.out;unfold wrap64;omega
  have t1:(q:Int) < (l.length:Int):=by rw [HL.out];omega
  have t2:q < l.length:=by rw [HL.out];omega
  have t3:decide ((q:Int) < (l.length:Int))=true:=zT t1
  have HAT:=zA (fun (W:World) (hC:k51.C W vA l.length l)=>qCI hC (q:Int) (by omega) (by rw [HL.out];omega))
  have hlast:(l.length:Int) - 1=(q:Int):=by rw [HL.out];omega
  rw [hlast] at HRL
  clear hlast
  generalize qAJ l (q:Int)=last at *
  by_cases hless:Op.bytesLess last.f0.toList s.toList=true
  case neg =>
   rw [if_pos (Or.inr ⟨by rw [HL.out];omega,hless⟩)] at HRL
   have hrr:=HRL.out
   subst hrr
   have b1:Op.bytesLess last.f0.toList s.toList=false:=by simpa using hless
   clear HRL hlt hless h2 hj
   try dsimp only
   go_wp2_with (first | (go_at_call 43;refine TX.out.mono ?_;rintro e_ w3 ⟨rfl,hd⟩;have W3:=zA (qAO HW.out hd.below);have O3:=zA (Kd.qAp HO.out hd.below);clear hd;obtain ⟨ad,a4_,b4_,a5_,b5_,eA,h0,_⟩:=HAT.out w3 (sa.ke_C (Kd.R_reads' O3.out).2.2);subst eA;rw [Int.toNat_natCast] at h0))
   refine bodyPost_ret (results_tmp3 rfl _ _ _) rfl ?_
   try dsimp only
   exact sa.qBY rfl W3.out
  have hnb:¬ (s.toList=[] ∨ (0 < l.length∧¬ Op.bytesLess last.f0.toList s.toList=true)):=by
   rintro (q | ⟨_,q⟩)
   ·exact h2 q
   ·exact q hless
  rw [if_neg hnb] at HRL
  clear hnb h2 hj hlt
  rcases hr:sa.takeS bs (qAd bs) (qCJ bs) m1 with ⟨x,a2,l2⟩ | ⟨ee,pp⟩
  case bad =>
   rw [hr] at HRL
   have hrr:=HRL.out
   subst hrr
   have TB:=zA (HTB.out _ _ _ hr)
   have KB:=zA (fun (W:World) (hb2:Below w.heap.size w W)=>show Calls Try.prog 44 #[.slice A bs.length c,.int .i64 m1] W (fun e w'=>e=.returned (.tuple #[.agg #[.int .i64 0,.int .i64 0,.string ⟨#[]⟩,.slice none 0 0,.slice none 0 0],.int .i64 pp,.int .i64 ee])∧Below W.heap.size W w') from by have h:=HKC.out W m1 hb2;rw [hr] at h;exact h)
   have hee:ee ≠ 0:=by have:=TB.out.1;omega
   have e1:(ee != 0)=true:=bne_iff_ne.2 hee
   have e2:(ee == 0)=false:=beq_eq_false_iff_ne.2 hee
   have e3:decide (ee=0)=false:=zF hee
   clear hr hee HRL
   try dsimp only
   go_wp2_with (first | (go_at_call 43;refine TX.out.mono ?_;rintro e_ w3 ⟨rfl,hd⟩;have W3:=zA (qAO HW.out hd.below);have O3:=zA (Kd.qAp HO.out hd.below);clear hd;obtain ⟨ad,a4_,b4_,a5_,b5_,eA,h0,_⟩:=HAT.out w3 (sa.ke_C (Kd.R_reads' O3.out).2.2);subst eA;rw [Int.toNat_natCast] at h0) | (go_at_call 44;refine (KB.out _ W3.out).mono ?_;rintro e_ w4 ⟨rfl,hb⟩;have W4:=zA (qAO W3.out hb);clear hb))
   refine bodyPost_ret (results_tmp3 rfl _ _ _) rfl ?_
   try dsimp only
   exact sa.qBY rfl (qAE W4.out _)
  case ok =>
   rw [hr] at HRL
   dsimp only at HRL
   obtain ⟨hv0,_,hrt,p0,p1,p2,_,_⟩:=HTO.out _ _ _ _ hr
   obtain ⟨KW,hKW⟩:=sa.rwt x hv0 hrt
   have HKW:=zA (hKW KW (Nat.le_refl _))
   have DEEP:=zA (sa.okV_deep 8 x hrt.1)
   have KO:=zA (fun (W:World) (hb2:Below w.heap.size w W)=>show Calls Try.prog 44 #[.slice A bs.length c,.int .i64 m1] W (fun e w'=>∃ v3 v4:Value,e=.returned (.tuple #[.agg #[.int .i64 x.f0,.int .i64 x.f1,.string x.f2,v3,v4],.int .i64 a2,.int .i64 0])∧k34.R 34 w' W.heap.size (fun _=>True) v3 x.f3∧Kd.string.R 9 w' W.heap.size (fun _=>True) v4 x.f4∧Below W.heap.size W w') from by have h:=HKC.out W m1 hb2;rw [hr] at h;exact h)
   obtain ⟨wn,hwn3⟩:∃ wn,wn=wt x:=⟨_,rfl⟩
   have hwn4:wn≤2048:=by rw [hwn3];exact hrt.2
   have hhv:all+sa.hv ⟨s,x⟩=all+1+(s.size:Int)+(wn:Int):=by unfold sa.hv;dsimp only;rw [hwn3];omega
   rw [← hwn3] at HKW
   rw [hhv] at HRL
   have HWN:=zA hwn4
   clear hr hKW hv0 hrt p0 p1 p2 hwn3 hwn4 hhv
   have hal:=HJ.out.2.2.2
   have hsz:=HSZ.out
   have hwq:=HWN.out
   have s1:wrap64 (all+1)=all+1:=by unfold wrap64;omega
   have s2:wrap64 (all+1+(s.size:Int))=all+1+(s.size:Int):=by unfold wrap64;omega
   have s3:wrap64 (all+1+(s.size:Int)+(wn:Int))=all+1+(s.size:Int)+(wn:Int):=by unfold wrap64;omega
   have HPOS:=zA (show 0≤all+1+(s.size:Int)+(wn:Int) by omega)
   clear hal hsz hwq
   by_cases hbig:all+1+(s.size:Int)+(wn:Int) > 32768
   ·rw [if_pos hbig] at HRL
    have hrr:=HRL.out
    subst hrr
    have e1:decide (all+1+(s.size:Int)+(wn:Int) > 32768)=true:=zT hbig
    have e2:decide (32768 < all+1+(s.size:Int)+(wn:Int))=true:=zT hbig
    clear hbig HRL
    try dsimp only
    go_wp2_with (first | (go_at_call 43;refine TX.out.mono ?_;rintro e_ w3 ⟨rfl,hd⟩;have W3:=zA (qAO HW.out hd.below);have O3:=zA (Kd.qAp HO.out hd.below);clear hd;obtain ⟨ad,a4_,b4_,a5_,b5_,eA,h0,_⟩:=HAT.out w3 (sa.ke_C (Kd.R_reads' O3.out).2.2);subst eA;rw [Int.toNat_natCast] at h0) | (go_at_call 44;refine (KO.out _ W3.out).mono ?_;rintro e_ w4 ⟨v3,v4,rfl,r3,r4,hb⟩;obtain ⟨A3,c3,e3⟩:=Kd.qA0 r3;obtain ⟨A4,c4,e4⟩:=Kd.qA0 r4;subst e3;subst e4;have R3:=zA r3;have R4:=zA r4;have W4:=zA (qAO W3.out hb);have HS4:=zA hb.size;have O4:=zA (Kd.qAp O3.out hb);clear hb r3 r4) | (go_at_call 45;refine (qBG.calls KW x.f0 x.f1 x.f2 A3 c3 x.f3 A4 c4 x.f4 (wn:Int) _ (Kd.qAh (Kd.R_reads' R3.out).2.2 _) (Kd.R_reads' R3.out).2.1 (Kd.qAh (Kd.R_reads' R4.out).2.2 _) (Kd.R_reads' R4.out).2.1 HKW.out).mono ?_;rintro e_ w5 ⟨rfl,hb⟩;have W5:=zA (qAO (qAE W4.out _) hb);have R35:=zA (Kd.qAp (Kd.qBW R3.out _) hb);have R45:=zA (Kd.qAp (Kd.qBW R4.out _) hb);have O5:=zA (Kd.qAp (Kd.qBW O4.out _) hb);have BV:=zA (qAX (qB5 w4 _) hb);have HS5:=zA hb.size;clear hb;have y0:w5.cell? ⟨w4.heap.size,0,none⟩=some (.int .i64 x.f0):=(qAB BV.out 0).trans rfl;have y1:w5.cell? ⟨w4.heap.size,1,none⟩=some (.int .i64 x.f1):=(qAB BV.out 1).trans rfl;have y2:w5.cell? ⟨w4.heap.size,2,none⟩=some (.string x.f2):=(qAB BV.out 2).trans rfl;have y3:w5.cell? ⟨w4.heap.size,3,none⟩=some (.slice A3 x.f3.length c3):=(qAB BV.out 3).trans rfl;have y4:w5.cell? ⟨w4.heap.size,4,none⟩=some (.slice A4 x.f4.length c4):=(qAB BV.out 4).trans rfl))
    refine bodyPost_ret (results_tmp3 rfl _ _ _) rfl ?_
    try dsimp only
    exact sa.qBY rfl W5.out
   rw [if_neg hbig] at HRL
   dsimp only at HRL
   have e1:decide (all+1+(s.size:Int)+(wn:Int) > 32768)=false:=zF hbig
   have e2:decide (32768 < all+1+(s.size:Int)+(wn:Int))=false:=zF hbig
   have HBG:=zA hbig
   clear hbig
   go_wp2_with (first | (go_at_call 43;refine TX.out.mono ?_;rintro e_ w3 ⟨rfl,hd⟩;have W3:=zA (qAO HW.out hd.below);have O3:=zA (Kd.qAp HO.out hd.below);clear hd;obtain ⟨ad,a4_,b4_,a5_,b5_,eA,h0,_⟩:=HAT.out w3 (sa.ke_C (Kd.R_reads' O3.out).2.2);subst eA;rw [Int.toNat_natCast] at h0) | (go_at_call 44;refine (KO.out _ W3.out).mono ?_;rintro e_ w4 ⟨v3,v4,rfl,r3,r4,hb⟩;obtain ⟨A3,c3,e3⟩:=Kd.qA0 r3;obtain ⟨A4,c4,e4⟩:=Kd.qA0 r4;subst e3;subst e4;have R3:=zA r3;have R4:=zA r4;have W4:=zA (qAO W3.out hb);have HS4:=zA hb.size;have O4:=zA (Kd.qAp O3.out hb);clear hb r3 r4) | (go_at_call 45;refine (qBG.calls KW x.f0 x.f1 x.f2 A3 c3 x.f3 A4 c4 x.f4 (wn:Int) _ (Kd.qAh (Kd.R_reads' R3.out).2.2 _) (Kd.R_reads' R3.out).2.1 (Kd.qAh (Kd.R_reads' R4.out).2.2 _) (Kd.R_reads' R4.out).2.1 HKW.out).mono ?_;rintro e_ w5 ⟨rfl,hb⟩;have W5:=zA (qAO (qAE W4.out _) hb);have R35:=zA (Kd.qAp (Kd.qBW R3.out _) hb);have R45:=zA (Kd.qAp (Kd.qBW R4.out _) hb);have O5:=zA (Kd.qAp (Kd.qBW O4.out _) hb);have BV:=zA (qAX (qB5 w4 _) hb);have HS5:=zA hb.size;clear hb;have y0:w5.cell? ⟨w4.heap.size,0,none⟩=some (.int .i64 x.f0):=(qAB BV.out 0).trans rfl;have y1:w5.cell? ⟨w4.heap.size,1,none⟩=some (.int .i64 x.f1):=(qAB BV.out 1).trans rfl;have y2:w5.cell? ⟨w4.heap.size,2,none⟩=some (.string x.f2):=(qAB BV.out 2).trans rfl;have y3:w5.cell? ⟨w4.heap.size,3,none⟩=some (.slice A3 x.f3.length c3):=(qAB BV.out 3).trans rfl;have y4:w5.cell? ⟨w4.heap.size,4,none⟩=some (.slice A4 x.f4.length c4):=(qAB BV.out 4).trans rfl) | ((with_reducible refine qBh (b:=.append) (xs:=#[.tmp 90,.tmp 94]) rfl ?_);refine Kd.qCY sa.ke (w0:=w) w.heap.size rfl (.tmp 90) (.tmp 94) 22 51 (.agg #[.string ⟨#[]⟩,.int .i64 0,.int .i64 0,.string ⟨#[]⟩,.slice none 0 0,.slice none 0 0]) 96 rfl Try.underlying22 info51 rfl (by decide) (by omega) _ l ⟨s,x⟩ [.string s,.int .i64 x.f0,.int .i64 x.f1,.string x.f2,.slice A3 x.f3.length c3,.slice A4 x.f4.length c4] (fun _=>True) (fun k=>w3.heap.size≤k) rfl rfl ?aM ?aF (fun _ _=>trivial) O5.out W5.out W5.out.size ?aL ?_;(case aM=>exact sa.ke_M ⟨8,_,_,rfl,sa.VRow.of_R 8 (Kd.qBd R35.out) (fun k hk=>⟨hk.2.1,Nat.le_trans W3.out.size hk.2.1,hk.2.2.1⟩) DEEP.out,sa.KRow.of_R (Kd.qBd R45.out) (fun k hk=>⟨hk.2.1,Nat.le_trans W3.out.size hk.2.1,hk.2.2.1⟩)⟩);(case aF=>exact fun k hk=>⟨trivial,fun e=>by have h1:=Kd.R_lt O3.out k e.symm;omega⟩);(case aL=>have:=HL.out;have:=HJ.out.1;have:=HN.out;omega);intro v9 w9 hr hb2 hg hat;have O9:=zA hr;have W9:=zA hb2;clear hr hb2 hg hat))
   go_roundw
   case rel=>exact ⟨q+1+1,a2,all+1+(s.size:Int)+(wn:Int),l ++ [⟨s,x⟩],by rw [show (q:Int)+1+1=((q+1:Nat):Int)+1 by omega,HWR.out];rfl,rfl,rfl,⟨HLT.out,HRL.out,by rw [List.length_append,HL.out];rfl,HPOS.out,(by have:=HBG.out;omega)⟩,O9,W9⟩
   case measure=>exact sa.measS (q+1) n HLT.out HWR.out
end
end Go.Proofs.Ytdommiicjpjfpaa.X
