import Derived.Test.YtdommiicjpjfpaaZStateReads3
import Derived.Test.YtdommiicjpjfpaaZStateReads2
import Derived.Laws.Rows
import Derived.Test.YtdommiicjpjfpaaZStateReads33
import Derived.Test.YtdommiicjpjfpaaZStateReads31
import Derived.Test.YtdommiicjpjfpaaZStateReads12
import Derived.Test.YtdommiicjpjfpaaZStateReads17
import Derived.Test.YtdommiicjpjfpaaZStateReads16
import Derived.WalkLawsBesides
import Derived.Laws.Pointers
import Derived.Shelf.Abstract
import Derived.Deep.DeepMust
import Derived.Deep.QuietTactic
import Derived.BigQuiet
import Derived.ArgAppend
set_option linter.unusedVariables false
set_option linter.unusedSimpArgs false
namespace Go.Proofs.Ytdommiicjpjfpaa.X
open Go.RowKit Go.Proofs.YtdommiicjpjfpaaW.PrintWords Go.Proofs.YtdommiicjpjfpaaW.PrintLast Go.Proofs.YtdommiicjpjfpaaW.PrintMore Go.Proofs.YtdommiicjpjfpaaW
section
set_option maxHeartbeats 4000000
set_option maxRecDepth 100000
open Go.Proofs.Ytdommiicjpjfpaa
def sa.MT (w:World) (Y:Nat→Prop) (x:S34) (cs:List Value):Prop:=∃ d v3 v4,cs=[.int .i64 x.f0,.int .i64 x.f1,.string x.f2,v3,v4]∧sa.VRow w Y d v3 x.f3∧sa.KRow w Y v4 x.f4
theorem sa.MT.move {w w1:World} {Y Y1:Nat→Prop} {x:S34} {cs:List Value} (h:sa.MT w Y x cs) (hY:∀ k,Y k→Y1 k) (hm:∀ k,Y k→k < w.heap.size→w1.heap[k]?=w.heap[k]?):sa.MT w1 Y1 x cs:=by
 obtain ⟨d,v3,v4,e,h3,h4⟩:=h
 exact ⟨d,v3,v4,e,sa.VRow.move hY hm d h3,h4.move hY hm⟩
theorem sa.KRow.typed {w:World} {Y:Nat→Prop} {v:Value} {ks:List ByteArray} (h:sa.KRow w Y v ks):sa.KRow w (fun k=>Y k∧k < w.heap.size∧∃ q,q ∈ [34,9]∧∃ cells,w.heap[k]?=some (.cells cells q (0,0))) v ks:=by
 rcases h with h | ⟨b,c,cs,e,hy,hh,r⟩
 ·exact Or.inl h
 ·exact Or.inr ⟨b,c,cs,e,⟨hy,qAe hh,9,by simp,cs,hh⟩,hh,r⟩
theorem sa.VRow.typed {w:World} {Y:Nat→Prop}:∀ (d:Nat) {v:Value} {xs:List S34},sa.VRow w Y d v xs→sa.VRow w (fun k=>Y k∧k < w.heap.size∧∃ q,q ∈ [34,9]∧∃ cells,w.heap[k]?=some (.cells cells q (0,0))) d v xs
 | 0,v,xs,h=>h.elim
 | d+1,v,xs,h=>by
  rcases h with h | ⟨b,c,cs,e,hy,hh,h1,h2,h3,hx⟩
  ·exact Or.inl h
  ·refine Or.inr ⟨b,c,cs,e,⟨hy,qAe hh,34,by simp,cs,hh⟩,hh,h1,h2,h3,fun i x hi => ?_⟩
   obtain ⟨u3,u4,g,g3,g4⟩:=hx i x hi
   exact ⟨u3,u4,g,sa.VRow.typed d g3,g4.typed⟩
theorem sa.MT.K {w:World} {Y:Nat→Prop} {x:S34} {cs:List Value} (h:sa.MT w Y x cs):k34.K w x cs:=by
 obtain ⟨d,v3,v4,e,h3,h4⟩:=h
 obtain ⟨A3,c3,e3,l3,C3⟩:=h3.C d
 obtain ⟨A4,c4,e4,l4,C4⟩:=h4.C
 subst e3;subst e4;subst e
 exact k34_mk w x l3 C3 l4 C4
def sa.kt:Kd S34 where
 sz:=5
 E:=[34,9]
 K:=fun w x cs=>k34.K w x cs
 M:=fun w base ok x cs=>sa.MT w (fun k=>ok k∧base≤k∧k < w.heap.size) x cs
 K_len:=fun h=>k34.K_len h
 K_one:=fun h=>k34.K_one h
 K_below:=fun hb h=>k34.K_below hb h
 K_of_M:=fun h=>h.K
 M_mono:=fun hok h=>h.move (fun k hk=>⟨hok k hk.1,hk.2⟩) (fun k _ _=>rfl)
 M_bound:=fun h=>by
  obtain ⟨d,v3,v4,e,h3,h4⟩:=h
  refine ⟨d,v3,v4,e,sa.VRow.move (fun k hk => ?_) (fun k _ _=>rfl) d (h3.typed d),h4.typed.move (fun k hk => ?_) (fun k _ _=>rfl)⟩
  all_goals exact ⟨⟨hk.1.1,hk.1.2.1,hk.2.1,hk.2.2⟩,hk.1.2.1,hk.2.1⟩
 M_move:=fun {w w1} {base ok x cs} hm h=>h.move (fun k hk=>⟨hk.1,hk.2.1,by
  have e:=hm k hk.1
  rw [Array.getElem?_eq_getElem hk.2.2] at e
  exact (Array.getElem?_eq_some_iff.1 e).1⟩) (fun k hk _=>hm k hk.1)
 M_lower:=fun hb h=>h.move (fun k hk=>⟨hk.1,Nat.le_trans hb hk.2.1,hk.2.2⟩) (fun k _ _=>rfl)
theorem sa.kt_got2 {w w1:World} {base:Nat} (hb:base≤w.heap.size) {d:Nat} {x:S34} {v3 v4:Value} (h3:sa.VRow w1 (fun k=>w.heap.size≤k∧k < w1.heap.size) d v3 x.f3) (h4:sa.KRow w1 (fun k=>w.heap.size≤k∧k < w1.heap.size) v4 x.f4):sa.kt.M w1 base (fun k=>w.heap.size≤k) x [.int .i64 x.f0,.int .i64 x.f1,.string x.f2,v3,v4] :=
 ⟨d,v3,v4,rfl,sa.VRow.move (fun k hk=>⟨hk.1,Nat.le_trans hb hk.1,hk.2⟩) (fun k _ _=>rfl) d h3,h4.move (fun k hk=>⟨hk.1,Nat.le_trans hb hk.1,hk.2⟩) (fun k _ _=>rfl)⟩
end
section
set_option maxRecDepth 100000
open Go.Proofs.Ytdommiicjpjfpaa
def sa.at_ (bs:List Int) (a:Int):List Int:=bs.drop a.toNat
theorem sa.uint_form {bs:List Int} (hb:Pl.Bytes bs) {a:Int} (h:(Pl.qAd bs a).2.2=0):sa.at_ bs a=Pl.putU (Pl.qAd bs a).1 ++ sa.at_ bs (Pl.qAd bs a).2.1:=by
 have hok:=Pl.qBb bs hb a h
 unfold Pl.qAd at h hok ⊢
 by_cases h0:a < 0 ∨ a > bs.length
 ·rw [if_pos h0] at h;exact absurd h (by decide)
 rw [if_neg h0] at h hok ⊢
 have ha0:0≤a:=by omega
 obtain ⟨v,m,e,hr⟩:∃ v m e,Pl.rdU 10 0 (bs.drop a.toNat) 0=(v,m,e):=⟨_,_,_,rfl⟩
 rw [hr] at h hok ⊢
 unfold Pl.fin at h hok ⊢
 dsimp only at h hok ⊢
 subst h
 rw [if_pos rfl] at hok ⊢
 have hf:=Pl.rdU_form _ (hb.drop _) v m hr
 have ht:m.toNat+a.toNat=(a+m).toNat:=by omega
 unfold sa.at_
 rw [← hf.2.2.1,← ht,Nat.add_comm,← List.drop_drop,List.take_append_drop]
theorem sa.at_cons {bs:List Int} {a:Int} (h0:0≤a) (h1:a < (bs.length:Int)):sa.at_ bs a=rd bs a :: sa.at_ bs (a+1):=by
 have hlt:a.toNat < bs.length:=by omega
 unfold sa.at_ rd
 rw [List.drop_eq_getElem_cons hlt,List.getD_eq_getElem?_getD,List.getElem?_eq_getElem hlt,show (a+1).toNat=a.toNat+1 by omega]
 rfl
theorem sa.at_cut {bs:List Int} {a n:Int} (h0:0≤a) (hn:0≤n):sa.at_ bs a=(bs.drop a.toNat).take n.toNat ++ sa.at_ bs (a+n):=by
 unfold sa.at_
 rw [show (a+n).toNat=a.toNat+n.toNat by omega,← List.drop_drop,List.take_append_drop]
def sa.Rd (bs:List Int) (x:S34) (a l a2 l2:Int):Prop:=sa.at_ bs a=en x ++ sa.at_ bs a2∧(wt x:Int)=l - l2
theorem sa.arr_en {bs:List Int} {f:Int→Int→sa.R3 S34} (hf:∀ (a l:Int) (x:S34) (a2 l2:Int),sa.Bd bs.length a l→f a l=.ok x a2 l2→sa.Rd bs x a l a2 l2∧sa.Bd bs.length a2 l2):∀ (k:Nat) (acc:List S34) (a l:Int) (vs:List S34) (a2 l2:Int),sa.Bd bs.length a l→sa.arrL f k acc a l=.ok vs a2 l2→∃ ys,vs=acc ++ ys∧ys.length=k∧sa.at_ bs a=(ys.map en).flatten ++ sa.at_ bs a2∧((ys.map wt).sum:Int)=l - l2
 | 0,acc,a,l,vs,a2,l2,hb,h=>by
  unfold sa.arrL at h
  injection h with e1 e2 e3
  subst e1;subst e2;subst e3
  exact ⟨[],by simp,rfl,by simp,by simp⟩
 | k+1,acc,a,l,vs,a2,l2,hb,h=>by
  unfold sa.arrL at h
  rcases hfa:f a l with ⟨x,a1,l1⟩ | ⟨e,q⟩
  ·rw [hfa] at h
   have hx:=hf a l x a1 l1 hb hfa
   obtain ⟨ys,h1,h2,h3,h4⟩:=sa.arr_en hf k (acc ++ [x]) a1 l1 vs a2 l2 hx.2 h
   refine ⟨x :: ys,by rw [h1,List.append_assoc];rfl,by rw [List.length_cons,h2],by rw [hx.1.1,h3,List.map_cons,List.flatten_cons,List.append_assoc], ?_⟩
   have:=hx.1.2
   simp only [List.map_cons,List.sum_cons]
   omega
  ·rw [hfa] at h;cases h
theorem sa.key_en {bs:List Int} (hb:Pl.Bytes bs) (hl:bs.length≤140737488351232) {ks:List ByteArray} {a l a2 l2:Int} {k:ByteArray} (h:sa.keyS bs (Pl.qAd bs) ks a l=.ok k a2 l2):sa.at_ bs a=Pl.putU (k.size:Int) ++ (bytesOf k ++ sa.at_ bs a2)∧1+(k.size:Int)=l - l2:=by
 unfold sa.keyS at h
 by_cases h1:(Pl.qAd bs a).2.2 ≠ 0
 ·rw [if_pos h1] at h;cases h
 rw [if_neg h1] at h
 have h1':(Pl.qAd bs a).2.2=0:=Classical.byContradiction h1
 have hok:=Pl.qBb bs hb a h1'
 have hrg:=Pl.qA9 bs hb a
 have hfm:=sa.uint_form hb h1'
 obtain ⟨n,m,e,hr⟩:∃ n m e,Pl.qAd bs a=(n,m,e):=⟨_,_,_,rfl⟩
 rw [hr] at h hok hrg hfm
 dsimp only at h hok hrg hfm
 by_cases h2:n > 32
 ·rw [if_pos h2] at h;cases h
 rw [if_neg h2] at h
 by_cases h3:n > (bs.length:Int) - m
 ·rw [if_pos h3] at h;cases h
 rw [if_neg h3] at h
 split at h
 ·cases h
 split at h
 ·cases h
 ·injection h with e1 e2 e3
  have hsz:(k.size:Int)=n:=by
   rw [← e1,sa.qB7,List.length_take,List.length_drop]
   omega
  have hbo:bytesOf k=(bs.drop m.toNat).take n.toNat:=by rw [← e1];exact Pl.qCH _ ((hb.drop _).take _)
  refine ⟨?_,by rw [e1] at e3;omega⟩
  rw [hfm,hsz,hbo,← e2,sa.at_cut (a:=m) (n:=n) (by omega) (by omega)]
theorem sa.rec_en {bs:List Int} (hb:Pl.Bytes bs) (hl:bs.length≤140737488351232) {i:Int→Int × Int × Int} (hU:sa.Uin bs (Pl.qAd bs) i) {f:Int→Int→sa.R3 S34} (hf:∀ (a l:Int) (x:S34) (a2 l2:Int),sa.Bd bs.length a l→f a l=.ok x a2 l2→sa.Rd bs x a l a2 l2∧sa.Bd bs.length a2 l2):∀ (k:Nat) (ks:List ByteArray) (acc:List S34) (a l:Int) (vs:List ByteArray × List S34) (a2 l2:Int),sa.Bd bs.length a l→sa.recL bs (Pl.qAd bs) f k ks acc a l=.ok vs a2 l2→∃ qs ys,vs=(ks ++ qs,acc ++ ys)∧ys.length=k∧qs.length=k∧sa.at_ bs a=recs (ys.map en) qs ++ sa.at_ bs a2∧(((ys.map wt).sum+(qs.map fun s=>1+s.size).sum:Nat):Int)=l - l2
 | 0,ks,acc,a,l,vs,a2,l2,hB,h=>by
  unfold sa.recL at h
  injection h with e1 e2 e3
  subst e1;subst e2;subst e3
  exact ⟨[],[],by simp,rfl,rfl,by simp [recs],by simp⟩
 | k+1,ks,acc,a,l,vs,a2,l2,hB,h=>by
  unfold sa.recL at h
  rcases hka:sa.keyS bs (Pl.qAd bs) ks a l with ⟨kk,a1,l1⟩ | ⟨e,q⟩
  ·rw [hka] at h
   have hb1:sa.Bd bs.length a1 l1:=sa.keyS_b hU ⟨hB.2.2.1,hB.2.2.2⟩ hka
   have hke:=sa.key_en hb hl hka
   dsimp only at h
   rcases hfa:f a1 l1 with ⟨x,a3,l3⟩ | ⟨e,q⟩
   ·rw [hfa] at h
    have hx:=hf a1 l1 x a3 l3 hb1 hfa
    obtain ⟨qs,ys,h1,h2,h3,h4,h5⟩:=sa.rec_en hb hl hU hf k (ks ++ [kk]) (acc ++ [x]) a3 l3 vs a2 l2 hx.2 h
    refine ⟨kk :: qs,x :: ys,by rw [h1,List.append_assoc,List.append_assoc];rfl,by rw [List.length_cons,h2],by rw [List.length_cons,h3], ?_, ?_⟩
    ·rw [hke.1,hx.1.1,h4]
     simp [recs,List.append_assoc]
    ·have q1:=hx.1.2
     have q2:=hke.2
     simp only [List.map_cons,List.sum_cons]
     omega
   ·rw [hfa] at h;cases h
  ·rw [hka] at h;cases h
theorem sa.wt_leaf (f0 f1:Int) (f2:ByteArray):wt (⟨f0,f1,f2,[],[]⟩:S34)=1+f2.size:=by rw [wt_eq];simp
theorem sa.valS_en {bs:List Int} (hb:Pl.Bytes bs) (hl:bs.length≤140737488351232) (hU:sa.Uin bs (Pl.qAd bs) (Pl.qCJ bs)):∀ (d:Nat) (a l:Int) (x:S34) (a2 l2:Int),sa.Bd bs.length a l→sa.valS bs (Pl.qAd bs) (Pl.qCJ bs) d a l=.ok x a2 l2→sa.Rd bs x a l a2 l2
 | 0,a,l,x,a2,l2,hB,h=>by
  rw [sa.valS] at h
  split at h <;> cases h
 | d+1,a,l,x,a2,l2,hB,h=>by
  have ih:∀ (a l:Int) (x:S34) (a2 l2:Int),sa.Bd bs.length a l→sa.valS bs (Pl.qAd bs) (Pl.qCJ bs) d a l=.ok x a2 l2→sa.Rd bs x a l a2 l2∧sa.Bd bs.length a2 l2:=fun a l x a2 l2 q h=>⟨sa.valS_en hb hl hU d a l x a2 l2 q h,sa.valS_b hU d a l x a2 l2 q h⟩
  rw [sa.valS_s] at h
  obtain ⟨b1,b2,b3,b4⟩:=hB
  have nb:∀ {e q:Int},sa.R3.bad e q=.ok x a2 l2→sa.Rd bs x a l a2 l2:=fun h=>by cases h
  by_cases h0:a=(bs.length:Int) ∨ rd bs a > 6
  ·rw [if_pos h0] at h;exact nb h
  rw [if_neg h0] at h
  have ha:a < (bs.length:Int):=by
   have:a ≠ (bs.length:Int):=fun e=>h0 (Or.inl e)
   omega
  have hx6:rd bs a≤6:=by
   have:¬ rd bs a > 6:=fun e=>h0 (Or.inr e)
   omega
  have hc:=sa.at_cons b1 ha
  have hrd:0≤rd bs a:=by
   have hlt:a.toNat < bs.length:=by omega
   have:rd bs a=bs[a.toNat]:=by unfold rd;rw [List.getD_eq_getElem?_getD,List.getElem?_eq_getElem hlt];rfl
   rw [this]
   exact (hb _ (List.getElem_mem hlt)).1
  by_cases h1:1 > l
  ·rw [if_pos h1] at h;exact nb h
  rw [if_neg h1] at h
  by_cases k1:rd bs a=1
  ·rw [if_pos k1] at h
   injection h with e1 e2 e3
   subst e1;subst e2;subst e3
   exact ⟨by rw [hc,k1,en1 rfl];rfl,by rw [sa.wt_leaf];have hz:(⟨#[]⟩:ByteArray).size=0:=rfl;omega⟩
  rw [if_neg k1] at h
  by_cases k2:rd bs a=2
  ·rw [if_pos k2] at h
   injection h with e1 e2 e3
   subst e1;subst e2;subst e3
   exact ⟨by rw [hc,k2,en1 rfl];rfl,by rw [sa.wt_leaf];have hz:(⟨#[]⟩:ByteArray).size=0:=rfl;omega⟩
  rw [if_neg k2] at h
  by_cases k3:rd bs a=3
  ·rw [if_pos k3] at h
   by_cases e1:(Pl.qCJ bs (a+1)).2.2 ≠ 0
   ·rw [if_pos e1] at h;exact nb h
   rw [if_neg e1] at h
   have e1':(Pl.qAd bs (a+1)).2.2=0:=Classical.byContradiction e1
   have hf:=sa.uint_form hb e1'
   have hr:=Pl.qA9 bs hb (a+1)
   injection h with q1 q2 q3
   subst q1;subst q2;subst q3
   refine ⟨?_,by rw [sa.wt_leaf];have hz:(⟨#[]⟩:ByteArray).size=0:=rfl;omega⟩
   rw [hc,k3,hf,en2 rfl]
   show _=3 :: (Pl.putU (Pl.zz (Pl.unzz (Pl.qAd bs (a+1)).1)) ++ sa.at_ bs (Pl.qAd bs (a+1)).2.1)
   rw [Pl.zz_unzz _ hr.1]
  rw [if_neg k3] at h
  have hr:=Pl.qA9 bs hb (a+1)
  by_cases k4:rd bs a=4
  ·rw [if_pos k4] at h
   by_cases e1:(Pl.qAd bs (a+1)).2.2 ≠ 0
   ·rw [if_pos e1] at h;exact nb h
   rw [if_neg e1] at h
   have e1':(Pl.qAd bs (a+1)).2.2=0:=Classical.byContradiction e1
   have hf:=sa.uint_form hb e1'
   have hok:=Pl.qBb bs hb (a+1) e1'
   obtain ⟨n,m,e,hu⟩:∃ n m e,Pl.qAd bs (a+1)=(n,m,e):=⟨_,_,_,rfl⟩
   rw [hu] at h hf hok hr
   dsimp only at h hf hok hr
   by_cases e2:(l - 1) / 1 < n
   ·rw [if_pos e2] at h;exact nb h
   rw [if_neg e2] at h
   by_cases e3:(bs.length:Int) - m < n
   ·rw [if_pos e3] at h;exact nb h
   rw [if_neg e3] at h
   injection h with q1 q2 q3
   subst q1;subst q2;subst q3
   have hsz:((strOfNums ((bs.drop m.toNat).take n.toNat)).size:Int)=n:=by
    rw [sa.qB7,List.length_take,List.length_drop]
    omega
   have hbo:bytesOf (strOfNums ((bs.drop m.toNat).take n.toNat))=(bs.drop m.toNat).take n.toNat:=Pl.qCH _ ((hb.drop _).take _)
   refine ⟨?_,by rw [sa.wt_leaf];omega⟩
   rw [hc,k4,hf,en3 rfl]
   show _=4 :: ((Pl.putU ((strOfNums ((bs.drop m.toNat).take n.toNat)).size:Int) ++ bytesOf (strOfNums ((bs.drop m.toNat).take n.toNat))) ++ sa.at_ bs (m+n))
   rw [hsz,hbo,List.append_assoc,← sa.at_cut (a:=m) (n:=n) (by omega) (by omega)]
  rw [if_neg k4] at h
  by_cases k5:rd bs a=5
  ·rw [if_pos k5] at h
   by_cases e1:(Pl.qAd bs (a+1)).2.2 ≠ 0
   ·rw [if_pos e1] at h;exact nb h
   rw [if_neg e1] at h
   have e1':(Pl.qAd bs (a+1)).2.2=0:=Classical.byContradiction e1
   have hf:=sa.uint_form hb e1'
   have hok:=Pl.qBb bs hb (a+1) e1'
   by_cases e2:(l - 1) / 1 < (Pl.qAd bs (a+1)).1
   ·rw [if_pos e2] at h;exact nb h
   rw [if_neg e2] at h
   rcases hL:sa.arrL (sa.valS bs (Pl.qAd bs) (Pl.qCJ bs) d) (Pl.qAd bs (a+1)).1.toNat [] (Pl.qAd bs (a+1)).2.1 (l - 1) with ⟨vs,a3,l3⟩ | ⟨e,p⟩
   ·rw [hL] at h
    obtain ⟨ys,g1,g2,g3,g4⟩:=sa.arr_en ih _ _ _ _ _ _ _ ⟨by omega,by omega,by omega,by omega⟩ hL
    injection h with q1 q2 q3
    rw [List.nil_append] at g1
    subst g1;subst q1;subst q2;subst q3
    have hlen:(vs.length:Int)=(Pl.qAd bs (a+1)).1:=by omega
    refine ⟨?_, ?_⟩
    ·rw [hc,k5,hf,g3,en4 rfl]
     show _=5 :: ((Pl.putU (vs.length:Int) ++ (vs.map en).flatten) ++ _)
     rw [hlen,List.append_assoc]
    ·rw [wt_eq]
     show ((1+(⟨#[]⟩:ByteArray).size+(vs.map wt).sum+0:Nat):Int)=_
     have hz:(⟨#[]⟩:ByteArray).size=0:=rfl
     omega
   ·rw [hL] at h;exact nb h
  rw [if_neg k5] at h
  by_cases k6:rd bs a=6
  ·rw [if_pos k6] at h
   by_cases e1:(Pl.qAd bs (a+1)).2.2 ≠ 0
   ·rw [if_pos e1] at h;exact nb h
   rw [if_neg e1] at h
   have e1':(Pl.qAd bs (a+1)).2.2=0:=Classical.byContradiction e1
   have hf:=sa.uint_form hb e1'
   have hok:=Pl.qBb bs hb (a+1) e1'
   by_cases e2:(l - 1) / 2 < (Pl.qAd bs (a+1)).1
   ·rw [if_pos e2] at h;exact nb h
   rw [if_neg e2] at h
   rcases hL:sa.recL bs (Pl.qAd bs) (sa.valS bs (Pl.qAd bs) (Pl.qCJ bs) d) (Pl.qAd bs (a+1)).1.toNat [] [] (Pl.qAd bs (a+1)).2.1 (l - 1) with ⟨⟨ks,vs⟩,a3,l3⟩ | ⟨e,p⟩
   ·rw [hL] at h
    obtain ⟨qs,ys,g1,g2,g3,g4,g5⟩:=sa.rec_en hb hl hU ih _ _ _ _ _ _ _ _ ⟨by omega,by omega,by omega,by omega⟩ hL
    injection h with q1 q2 q3
    rw [List.nil_append,List.nil_append] at g1
    injection g1 with g1 g1b
    subst g1;subst g1b;subst q1;subst q2;subst q3
    have hlen:(vs.length:Int)=(Pl.qAd bs (a+1)).1:=by omega
    refine ⟨?_, ?_⟩
    ·rw [hc,k6,hf,g4,en5 rfl]
     show _=6 :: ((Pl.putU (vs.length:Int) ++ recs (vs.map en) ks) ++ _)
     rw [hlen,List.append_assoc]
    ·rw [wt_eq]
     show ((1+(⟨#[]⟩:ByteArray).size+(vs.map wt).sum+(ks.map fun s=>1+s.size).sum:Nat):Int)=_
     have hz:(⟨#[]⟩:ByteArray).size=0:=rfl
     omega
   ·rw [hL] at h;exact nb h
  rw [if_neg k6] at h
  have k0:rd bs a=0:=by omega
  injection h with e1 e2 e3
  subst e1;subst e2;subst e3
  exact ⟨by rw [hc,k0,en0 rfl];rfl,by rw [sa.wt_leaf];have hz:(⟨#[]⟩:ByteArray).size=0:=rfl;omega⟩
end
section
set_option maxRecDepth 100000
def sa.kOk (ks:List ByteArray):Prop:=(∀ s ∈ ks,s.size≤32)∧∀ i:Nat,i+1 < ks.length→Op.bytesLess (rdOf ByteArray.empty ks (i:Int)).toList (rdOf ByteArray.empty ks ((i+1:Nat):Int)).toList=true
def sa.okV:Nat→S34→Prop
 | 0,_=>False
 | d+1,x=>qAj.b x.f0 x.f1 x.f2 x.f3.length x.f4.length=true∧(x.f0=5→sa.kOk x.f4)∧∀ y ∈ x.f3,sa.okV d y
theorem sa.okV.mk {d:Nat} {f0 f1:Int} {f2:ByteArray} {f3:List S34} {f4:List ByteArray} (h:qAj.b f0 f1 f2 f3.length f4.length=true) (k:f0=5→sa.kOk f4) (s:∀ y ∈ f3,sa.okV d y):sa.okV (d+1) ⟨f0,f1,f2,f3,f4⟩:=⟨h,k,s⟩
theorem sa.rdOf_lt (ks:List ByteArray) (k:ByteArray) (i:Nat) (h:i < ks.length):rdOf ByteArray.empty (ks ++ [k]) (i:Int)=rdOf ByteArray.empty ks (i:Int):=by
 unfold rdOf
 rw [Int.toNat_natCast,List.getD_eq_getElem?_getD,List.getD_eq_getElem?_getD,List.getElem?_append_left h]
theorem sa.rdOf_end (ks:List ByteArray) (k:ByteArray):rdOf ByteArray.empty (ks ++ [k]) ((ks.length:Nat):Int)=k:=by
 unfold rdOf
 rw [Int.toNat_natCast,List.getD_eq_getElem?_getD,List.getElem?_append_right (Nat.le_refl _),Nat.sub_self]
 rfl
theorem sa.kOk.snoc {ks:List ByteArray} {k:ByteArray} (h:sa.kOk ks) (hk:k.size≤32) (hl:0 < ks.length→Op.bytesLess (rdOf ByteArray.empty ks ((ks.length:Int) - 1)).toList k.toList=true):sa.kOk (ks ++ [k]):=by
 refine ⟨fun s hs => ?_,fun i hi => ?_⟩
 ·rcases List.mem_append.1 hs with hs | hs
  ·exact h.1 s hs
  ·rw [List.mem_singleton.1 hs];exact hk
 ·rw [List.length_append,List.length_singleton] at hi
  rw [sa.rdOf_lt ks k i (by omega)]
  by_cases he:i+1 < ks.length
  ·rw [sa.rdOf_lt ks k (i+1) he]
   exact h.2 i he
  ·have e:i+1=ks.length:=by omega
   rw [e,sa.rdOf_end]
   have:=hl (by omega)
   rw [← e,show ((i+1:Nat):Int) - 1=(i:Int) by omega] at this
   exact this
theorem sa.keyS_ok {bs:List Int} {u i:Int→Int × Int × Int} (hU:sa.Uin bs u i) {ks:List ByteArray} {a l a2 l2:Int} {k:ByteArray} (h:sa.keyS bs u ks a l=.ok k a2 l2):k.size≤32∧(0 < ks.length→Op.bytesLess (rdOf ByteArray.empty ks ((ks.length:Int) - 1)).toList k.toList=true):=by
 unfold sa.keyS at h
 by_cases h1:(u a).2.2 ≠ 0
 ·rw [if_pos h1] at h;cases h
 rw [if_neg h1] at h
 by_cases h2:(u a).1 > 32
 ·rw [if_pos h2] at h;cases h
 rw [if_neg h2] at h
 by_cases h3:(u a).1 > (bs.length:Int) - (u a).2.1
 ·rw [if_pos h3] at h;cases h
 rw [if_neg h3] at h
 dsimp only at h
 split at h
 ·cases h
 next hq =>
  split at h
  ·cases h
  ·injection h with e1 e2 e3
   subst e1
   refine ⟨?_,fun hp=>Classical.byContradiction fun hn=>hq ⟨hp,hn⟩⟩
   rw [sa.qB7,List.length_take]
   have:=(hU.R a).1
   omega
theorem sa.recL_ok {bs:List Int} {u i:Int→Int × Int × Int} (hU:sa.Uin bs u i) {p:S34→Prop} {f:Int→Int→sa.R3 S34} (hf:∀ (a l:Int) (x:S34) (a2 l2:Int),f a l=.ok x a2 l2→p x):∀ (k:Nat) (ks:List ByteArray) (acc:List S34) (a l:Int) (vs:List ByteArray × List S34) (a2 l2:Int),(∀ y ∈ acc,p y)→sa.kOk ks→ks.length=acc.length→sa.recL bs u f k ks acc a l=.ok vs a2 l2→(∀ y ∈ vs.2,p y)∧sa.kOk vs.1∧vs.1.length=vs.2.length
 | 0,ks,acc,a,l,vs,a2,l2,hp,hk,hl,h=>by
  unfold sa.recL at h
  injection h with e1 _ _
  subst e1;exact ⟨hp,hk,hl⟩
 | k+1,ks,acc,a,l,vs,a2,l2,hp,hk,hl,h=>by
  unfold sa.recL at h
  rcases hka:sa.keyS bs u ks a l with ⟨kk,a1,l1⟩ | ⟨e,q⟩
  ·rw [hka] at h
   have hks:=sa.keyS_ok hU hka
   dsimp only at h
   rcases hfa:f a1 l1 with ⟨x,a3,l3⟩ | ⟨e,q⟩
   ·rw [hfa] at h
    refine sa.recL_ok hU hf k (ks ++ [kk]) (acc ++ [x]) a3 l3 vs a2 l2 (fun y hy => ?_) (hk.snoc hks.1 hks.2) (by rw [List.length_append,List.length_append,hl];rfl) h
    rcases List.mem_append.1 hy with hy | hy
    ·exact hp y hy
    ·rw [List.mem_singleton.1 hy];exact hf a1 l1 x a3 l3 hfa
   ·rw [hfa] at h;cases h
  ·rw [hka] at h;cases h
theorem sa.kOk_nil:sa.kOk []:=by
 constructor
 ·intro s hs;cases hs
 ·intro i hi;exact absurd hi (by simp)
theorem sa.e_nil:(⟨#[]⟩:ByteArray).toList=[]:=by
 first | rfl | (unfold ByteArray.toList;unfold ByteArray.toList.loop;rfl) | simp
theorem sa.valS_ok {bs:List Int} {u i:Int→Int × Int × Int} (hU:sa.Uin bs u i):∀ (d:Nat) (a l:Int) (x:S34) (a2 l2:Int),sa.valS bs u i d a l=.ok x a2 l2→sa.okV d x
 | 0,a,l,x,a2,l2,h=>by
  rw [sa.valS] at h
  split at h <;> cases h
 | d+1,a,l,x,a2,l2,h=>by
  rw [sa.valS_s] at h
  have leaf:∀ {f0 f1:Int} {f2:ByteArray} {b m:Int},qAj.b f0 f1 f2 0 0=true→f0 ≠ 5→sa.R3.ok (⟨f0,f1,f2,[],[]⟩:S34) b m=.ok x a2 l2→sa.okV (d+1) x:=fun q0 q5 h=>by
   injection h with e1 _ _
   subst e1
   exact sa.okV.mk q0 (fun e=>absurd e q5) (fun y hy=>by cases hy)
  have nb:∀ {e q:Int},sa.R3.bad e q=.ok x a2 l2→sa.okV (d+1) x:=fun h=>by cases h
  by_cases h0:a=(bs.length:Int) ∨ rd bs a > 6
  ·rw [if_pos h0] at h;exact nb h
  rw [if_neg h0] at h
  by_cases h1:1 > l
  ·rw [if_pos h1] at h;exact nb h
  rw [if_neg h1] at h
  by_cases k1:rd bs a=1
  ·rw [if_pos k1] at h;exact leaf (by simp [qAj.b,sa.e_nil,wrap64]) (by decide) h
  rw [if_neg k1] at h
  by_cases k2:rd bs a=2
  ·rw [if_pos k2] at h;exact leaf (by simp [qAj.b,sa.e_nil,wrap64]) (by decide) h
  rw [if_neg k2] at h
  by_cases k3:rd bs a=3
  ·rw [if_pos k3] at h
   by_cases e1:(i (a+1)).2.2 ≠ 0
   ·rw [if_pos e1] at h;exact nb h
   ·rw [if_neg e1] at h;exact leaf (by simp [qAj.b,sa.e_nil,wrap64]) (by decide) h
  rw [if_neg k3] at h
  by_cases k4:rd bs a=4
  ·rw [if_pos k4] at h
   by_cases e1:(u (a+1)).2.2 ≠ 0
   ·rw [if_pos e1] at h;exact nb h
   rw [if_neg e1] at h
   by_cases e2:(l - 1) / 1 < (u (a+1)).1
   ·rw [if_pos e2] at h;exact nb h
   rw [if_neg e2] at h
   by_cases e3:(bs.length:Int) - (u (a+1)).2.1 < (u (a+1)).1
   ·rw [if_pos e3] at h;exact nb h
   ·rw [if_neg e3] at h;exact leaf (by simp [qAj.b,sa.e_nil,wrap64]) (by decide) h
  rw [if_neg k4] at h
  by_cases k5:rd bs a=5
  ·rw [if_pos k5] at h
   by_cases e1:(u (a+1)).2.2 ≠ 0
   ·rw [if_pos e1] at h;exact nb h
   rw [if_neg e1] at h
   by_cases e2:(l - 1) / 1 < (u (a+1)).1
   ·rw [if_pos e2] at h;exact nb h
   rw [if_neg e2] at h
   rcases hL:sa.arrL (sa.valS bs u i d) (u (a+1)).1.toNat [] (u (a+1)).2.1 (l - 1) with ⟨vs,a3,l3⟩ | ⟨e,p⟩
   ·rw [hL] at h
    have hp:=sa.arrL_all (p:=sa.okV d) (sa.valS_ok hU d) _ _ _ _ _ _ _ (fun y hy=>by cases hy) hL
    injection h with e1 _ _
    subst e1
    exact sa.okV.mk (by simp [qAj.b,sa.e_nil,wrap64]) (fun e=>absurd e (by decide)) hp
   ·rw [hL] at h;exact nb h
  rw [if_neg k5] at h
  by_cases k6:rd bs a=6
  ·rw [if_pos k6] at h
   by_cases e1:(u (a+1)).2.2 ≠ 0
   ·rw [if_pos e1] at h;exact nb h
   rw [if_neg e1] at h
   by_cases e2:(l - 1) / 2 < (u (a+1)).1
   ·rw [if_pos e2] at h;exact nb h
   rw [if_neg e2] at h
   rcases hL:sa.recL bs u (sa.valS bs u i d) (u (a+1)).1.toNat [] [] (u (a+1)).2.1 (l - 1) with ⟨⟨ks,vs⟩,a3,l3⟩ | ⟨e,p⟩
   ·rw [hL] at h
    have hp:=sa.recL_ok hU (p:=sa.okV d) (sa.valS_ok hU d) _ _ _ _ _ _ _ _ (fun y hy=>by cases hy) sa.kOk_nil rfl hL
    injection h with e1 _ _
    subst e1
    refine sa.okV.mk ?_ (fun _=>hp.2.1) hp.1
    have:ks.length=vs.length:=hp.2.2
    simp [qAj.b,this,sa.e_nil]
   ·rw [hL] at h;exact nb h
  rw [if_neg k6] at h
  exact leaf (by simp [qAj.b,sa.e_nil,wrap64]) (by decide) h
end
section
set_option maxRecDepth 100000
theorem sa.mx_b {D a:Int} (h0:0≤D) (h1:D≤8) (h2:a≤8):0≤mx D a∧mx D a≤8:=by
 rw [mx_eq];split <;> omega
theorem sa.meas_l {d:Nat} (ih:∀ x:S34,sa.okV d x→∀ ar D W:Int,0≤ar→ar+d≤8→0≤D→D≤8→0≤W→W+(wt x:Int)≤2048→∃ D',0≤D'∧D'≤8∧Ev (fun k=>qAH.w k x.f0 x.f1 x.f2 x.f3 x.f4 ar D W) (true,D',W+(wt x:Int)))
  (f0 f1:Int) (f2:ByteArray) (f3:List S34) (f4:List ByteArray) (hl:f3.length≤9223372036854775000) (h45:f0=5→f4.length=f3.length) (hk:f0=5→sa.kOk f4) (hs:∀ y ∈ f3,sa.okV d y) (ar:Int) (ha:0≤ar) (hb:ar+1+d≤8) :
  ∀ (rem i:Nat),i+rem=f3.length→∀ D W:Int,0≤D→D≤8→0≤W→W+(qB9 f0 f3 f4 i:Int)≤2048→∃ D',0≤D'∧D'≤8∧Ev (fun k=>qAH.l k f0 f1 f2 f3 f4 ar D W (i:Int)) (true,D',W+(qB9 f0 f3 f4 i:Int)):=by
 intro rem
 induction rem with
 | zero =>
  intro i hi D W h0 h1 h2 h3
  have c:¬ ((i:Int) < (f3.length:Int)):=by omega
  have hz:=wrest_end f0 f3 f4 i (by omega) h45
  rw [hz] at h3 ⊢
  refine ⟨D,h0,h1,Ev.step Ev.const (fun k => ?_)⟩
  rw [qAH.l,if_neg c,zT (by omega)]
  simp
 | succ rem ihr =>
  intro i hi D W h0 h1 h2 h3
  have c:(i:Int) < (f3.length:Int):=by omega
  have p:(0:Int)≤(i:Int):=by omega
  have ei:wrap64 ((i:Int)+1)=((i+1:Nat):Int):=by rw [X.w64 _ (by omega) (by omega)];omega
  have ea:wrap64 (ar+1)=ar+1:=X.w64 _ (by omega) (by omega)
  have hrs:=wrest_succ f0 f3 f4 i (by omega) h45
  have hmem:qAR f3 (i:Int) ∈ f3:=by
   have hl:i < f3.length:=by omega
   unfold qAR
   rw [show ((i:Int)).toNat=i from by omega,List.getD_eq_getElem?_getD,List.getElem?_eq_getElem hl]
   exact List.getElem_mem hl
  have hox:=hs _ hmem
  generalize hx:qAR f3 (i:Int)=x at hrs hox
  have child:∀ V:Int,0≤V→V+(wt x:Int)+(qB9 f0 f3 f4 (i+1):Int)≤2048→∃ D',0≤D'∧D'≤8∧Ev (fun k=>(qAH.w k x.f0 x.f1 x.f2 x.f3 x.f4 (ar+1) D V).bind fun r=>if r.1=true then qAH.l k f0 f1 f2 f3 f4 ar r.2.1 r.2.2 ((i+1:Nat):Int) else some (false,r.2.1,r.2.2)) (true,D',V+(wt x:Int)+(qB9 f0 f3 f4 (i+1):Int)):=by
   intro V hV0 hV
   obtain ⟨D1,d0,d1,m1⟩:=ih x hox (ar+1) D V (by omega) (by omega) h0 h1 hV0 (by omega)
   obtain ⟨D2,e0,e1,m2⟩:=ihr (i+1) (by omega) D1 (V+(wt x:Int)) d0 d1 (by omega) hV
   exact ⟨D2,e0,e1,Ev.bind m1 (by simpa using m2)⟩
  by_cases k5:f0=5
  ·rw [if_pos k5] at hrs
   have q4:(i:Int) < (f4.length:Int):=by have:=h45 k5;omega
   have hko:=hk k5
   have hki:rdOf ByteArray.empty f4 (i:Int) ∈ f4:=by
    have hl:i < f4.length:=by omega
    unfold rdOf
    rw [show ((i:Int)).toNat=i from by omega,List.getD_eq_getElem?_getD,List.getElem?_eq_getElem hl]
    exact List.getElem_mem hl
   have hsz:=hko.1 _ hki
   have g1:¬ 32 < ((rdOf ByteArray.empty f4 (i:Int)).size:Int):=by omega
   have g2:¬ (0 < (i:Int)∧(Op.bytesLess ((rdOf ByteArray.empty f4 ((i:Int) - 1)).toList) ((rdOf ByteArray.empty f4 (i:Int)).toList))=false):=by
    rintro ⟨q1,q2⟩
    have:=hko.2 (i - 1) (by omega)
    rw [show i - 1+1=i by omega,show ((i - 1:Nat):Int)=(i:Int) - 1 by omega] at this
    rw [this] at q2
    cases q2
   have et:wrap64 (W+wrap64 (1+((rdOf ByteArray.empty f4 (i:Int)).size:Int)))=W+1+((rdOf ByteArray.empty f4 (i:Int)).size:Int):=by
    rw [X.w64 (1+((rdOf ByteArray.empty f4 (i:Int)).size:Int)) (by omega) (by omega),X.w64 _ (by omega) (by omega)]
    omega
   obtain ⟨D',e0,e1,m⟩:=child (W+1+((rdOf ByteArray.empty f4 (i:Int)).size:Int)) (by omega) (by omega)
   refine ⟨D',e0,e1, ?_⟩
   rw [show W+(qB9 f0 f3 f4 i:Int)=W+1+((rdOf ByteArray.empty f4 (i:Int)).size:Int)+(wt x:Int)+(qB9 f0 f3 f4 (i+1):Int) by omega]
   exact Ev.step m (fun k=>by rw [qAH.l,if_pos c,if_pos p,if_pos k5,if_pos q4,if_neg g1,if_neg g2,hx,ea,et,ei])
  ·rw [if_neg k5] at hrs
   obtain ⟨D',e0,e1,m⟩:=child W h2 (by omega)
   refine ⟨D',e0,e1, ?_⟩
   rw [show W+(qB9 f0 f3 f4 i:Int)=W+(wt x:Int)+(qB9 f0 f3 f4 (i+1):Int) by omega]
   exact Ev.step m (fun k=>by rw [qAH.l,if_pos c,if_pos p,if_neg k5,hx,ea,ei])
theorem sa.len_wt:∀ l:List S34,l.length≤(l.map wt).sum
 | []=>Nat.zero_le _
 | a :: l=>by
  have h1:1≤wt a:=by rw [wt_eq];omega
  have:=sa.len_wt l
  simp only [List.length_cons,List.map_cons,List.sum_cons]
  omega
theorem sa.len_ks:∀ l:List ByteArray,l.length≤(l.map fun s=>1+s.size).sum
 | []=>Nat.zero_le _
 | a :: l=>by
  have:=sa.len_ks l
  simp only [List.length_cons,List.map_cons,List.sum_cons]
  omega
theorem sa.meas_ok:∀ (d:Nat) (x:S34),sa.okV d x→∀ ar D W:Int,0≤ar→ar+d≤8→0≤D→D≤8→0≤W→W+(wt x:Int)≤2048→∃ D',0≤D'∧D'≤8∧Ev (fun k=>qAH.w k x.f0 x.f1 x.f2 x.f3 x.f4 ar D W) (true,D',W+(wt x:Int))
 | 0,x,h=>h.elim
 | d+1,x,h=>by
  intro ar D W h0 h1 h2 h3 h4 h5
  obtain ⟨hf,hk,hs⟩:=h
  have e0:=wt_eq x
  have l3:=sa.len_wt x.f3
  have l4:=sa.len_ks x.f4
  have hlen:=form_len (by omega) (by omega) hf
  have hkeys:((x.f4.map fun s=>1+s.size).sum:Nat)=if x.f0=5 then ((x.f4.drop 0).map fun s=>1+s.size).sum else 0:=by
   split
   ·simp
   ·rename_i k5
    have h40:x.f4=[]:=by
     rcases qCO (by omega) (by omega) hf with z | z | z | z | z | z
     all_goals first | exact List.eq_nil_of_length_eq_zero z.2.2.2.2 | exact List.eq_nil_of_length_eq_zero z.2.2.2 | exact absurd z.1 k5
    rw [h40];rfl
  have e1:(wt x:Int)=1+(x.f2.size:Int)+(qB9 x.f0 x.f3 x.f4 0:Int):=by
   rw [e0,hkeys]
   unfold qB9
   simp only [List.drop_zero]
   omega
  have ea:wrap64 (ar+1)=ar+1:=X.w64 _ (by omega) (by omega)
  have em:mn (x.f2.size:Int) 2048=(x.f2.size:Int):=by rw [mn_eq,if_neg (by omega)]
  have ew:wrap64 (W+wrap64 (1+mn (x.f2.size:Int) 2048))=W+1+(x.f2.size:Int):=by
   rw [em,X.w64 (1+(x.f2.size:Int)) (by omega) (by omega),X.w64 _ (by omega) (by omega)];omega
  have hm:=sa.mx_b (a:=ar+1) h2 h3 (by omega)
  obtain ⟨D',d0,d1,hl⟩:=sa.meas_l (sa.meas_ok d) x.f0 x.f1 x.f2 x.f3 x.f4 (by omega) hlen.1 hk hs ar h0 (by omega) x.f3.length 0 (by omega) (mx D (ar+1)) (W+1+(x.f2.size:Int)) hm.1 hm.2 (by omega) (by omega)
  refine ⟨D',d0,d1, ?_⟩
  rw [show W+(wt x:Int)=W+1+(x.f2.size:Int)+(qB9 x.f0 x.f3 x.f4 0:Int) by omega]
  refine Ev.step hl (fun k => ?_)
  rw [qAH.w,ea,ew,if_neg (by omega),if_neg (by omega),qAj.f,hf]
  rfl
end
section
set_option maxRecDepth 100000
open Go.Proofs.Ytdommiicjpjfpaa
theorem sa.at_len {bs l r:List Int} {a:Int} (h0:0≤a) (h:sa.at_ bs a=l ++ r) (hl:0 < l.length):a+(l.length:Int)+(r.length:Int)=(bs.length:Int):=by
 have:=congrArg List.length h
 unfold sa.at_ at this
 rw [List.length_drop,List.length_append] at this
 omega
end
section
set_option maxRecDepth 100000
open Go.Proofs.Ytdommiicjpjfpaa
theorem sa.mn_le {s:Nat} {W:Int} (h:¬ 2048 < W+1+mn (s:Int) 2048) (hW:0≤W):mn (s:Int) 2048=(s:Int)∧s≤2048:=by
 rw [mn_eq] at h ⊢
 split at h
 ·omega
 ·rename_i hn;rw [if_neg hn];omega
def sa.MW (K:Nat):Prop:=∀ (x:S34) (ar D W D' W':Int),Val x→0≤ar→ar≤8→0≤D→0≤W→W≤4096→qAH.w K x.f0 x.f1 x.f2 x.f3 x.f4 ar D W=some (true,D',W')→sa.okV (8 - ar).toNat x∧W+(wt x:Int)=W'∧W'≤2048∧0≤D'
def sa.ML (K:Nat):Prop:=∀ (f0 f1:Int) (f2:ByteArray) (f3:List S34) (f4:List ByteArray) (ar D W D' W':Int) (i:Nat),(∀ y ∈ f3,Val y)→f3.length≤9223372036854775807→(f0=5→f4.length=f3.length)→(∀ s ∈ f4,s.size≤9223372036854775807)→0≤ar→ar≤7→0≤D→0≤W→W≤2048→i≤f3.length→qAH.l K f0 f1 f2 f3 f4 ar D W (i:Int)=some (true,D',W') →
   (∀ y ∈ f3.drop i,sa.okV (7 - ar).toNat y)∧(f0=5→∀ j:Nat,i≤j→j < f4.length→(rdOf ByteArray.empty f4 (j:Int)).size≤32∧(0 < j→Op.bytesLess (rdOf ByteArray.empty f4 ((j:Int) - 1)).toList (rdOf ByteArray.empty f4 (j:Int)).toList=true))∧W+(qB9 f0 f3 f4 i:Int)=W'∧W'≤2048∧0≤D'
set_option maxHeartbeats 2000000 in
theorem sa.meas_w {K:Nat} (ihl:sa.ML K):sa.MW (K+1):=by
 intro x ar D W D' W' hv h0 h1 h2 h3 h4 h
 obtain ⟨_,a0,b0,a1,b1,l2,l3,l4,k4,k3⟩:=hv
 have ea:wrap64 (ar+1)=ar+1:=X.w64 _ (by omega) (by omega)
 have hm:0≤mn (x.f2.size:Int) 2048∧mn (x.f2.size:Int) 2048≤2048:=by rw [mn_eq];split <;> omega
 have ew:wrap64 (W+wrap64 (1+mn (x.f2.size:Int) 2048))=W+1+mn (x.f2.size:Int) 2048:=by
  rw [X.w64 (1+mn (x.f2.size:Int) 2048) (by omega) (by omega),X.w64 _ (by omega) (by omega)];omega
 rw [qAH.w,ea,ew] at h
 by_cases c1:8 < mx D (ar+1)
 ·rw [if_pos c1] at h;cases h
 rw [if_neg c1] at h
 have ha:ar≤7:=by rw [mx_eq] at c1;split at c1 <;> omega
 have hm0:0≤mx D (ar+1):=by rw [mx_eq];split <;> omega
 by_cases c2:2048 < W+1+mn (x.f2.size:Int) 2048
 ·rw [if_pos c2] at h;cases h
 rw [if_neg c2] at h
 obtain ⟨e2,s2⟩:=sa.mn_le c2 h3
 rw [e2] at h c2
 rw [qAj.f,Option.bind_some] at h
 cases hf:qAj.b x.f0 x.f1 x.f2 x.f3.length x.f4.length with
 | false=>rw [hf,if_neg (by decide)] at h;cases h
 | true =>
  rw [hf,if_pos rfl] at h
  have hlen:=form_len l3 l4 hf
  obtain ⟨g1,g2,g3,g4,g5⟩:=ihl x.f0 x.f1 x.f2 x.f3 x.f4 ar (mx D (ar+1)) (W+1+(x.f2.size:Int)) D' W' 0 k3 l3 hlen.1 k4 h0 ha hm0 (by omega) (by omega) (Nat.zero_le _) h
  have hkeys:((x.f4.map fun s=>1+s.size).sum:Nat)=if x.f0=5 then ((x.f4.drop 0).map fun s=>1+s.size).sum else 0:=by
   split
   ·simp
   ·rename_i k5
    have h40:x.f4=[]:=by
     rcases qCO l3 l4 hf with z | z | z | z | z | z
     all_goals first | exact List.eq_nil_of_length_eq_zero z.2.2.2.2 | exact List.eq_nil_of_length_eq_zero z.2.2.2 | exact absurd z.1 k5
    rw [h40];rfl
  have e1:(wt x:Int)=1+(x.f2.size:Int)+(qB9 x.f0 x.f3 x.f4 0:Int):=by
   rw [wt_eq,hkeys]
   unfold qB9
   simp only [List.drop_zero]
   omega
  refine ⟨?_,by omega,g4,g5⟩
  rw [show (8 - ar).toNat=(7 - ar).toNat+1 by omega]
  refine ⟨hf,fun h5=>⟨fun s hs => ?_,fun i hi => ?_⟩,fun y hy=>g1 y (by rw [List.drop_zero];exact hy)⟩
  ·obtain ⟨j,hj,rfl⟩:=List.getElem_of_mem hs
   have:=(g2 h5 j (Nat.zero_le _) hj).1
   unfold rdOf at this
   rw [Int.toNat_natCast,List.getD_eq_getElem?_getD,List.getElem?_eq_getElem hj] at this
   exact this
  ·have:=(g2 h5 (i+1) (Nat.zero_le _) hi).2 (by omega)
   rw [show ((i+1:Nat):Int) - 1=(i:Int) by omega] at this
   exact this
set_option maxHeartbeats 2000000 in
theorem sa.meas_l2 {K:Nat} (ihw:sa.MW K) (ihl:sa.ML K):sa.ML (K+1):=by
 intro f0 f1 f2 f3 f4 ar D W D' W' i hv hl h45 hs h0 h1 h2 h3 h4 hi h
 rw [qAH.l] at h
 by_cases c:(i:Int) < (f3.length:Int)
 ·rw [if_pos c,if_pos (by omega)] at h
  have ei:wrap64 ((i:Int)+1)=((i+1:Nat):Int):=by rw [X.w64 _ (by omega) (by omega)];omega
  have ea:wrap64 (ar+1)=ar+1:=X.w64 _ (by omega) (by omega)
  have hrs:=wrest_succ f0 f3 f4 i (by omega) h45
  have hd:=at_drop f3 i (by omega)
  have hvx:=hv _ (at_mem f3 i (by omega))
  rw [hd]
  generalize hx:qAR f3 (i:Int)=x at hrs h hvx ⊢
  have key:∀ V:Int,0≤V→V≤4096→((qAH.w K x.f0 x.f1 x.f2 x.f3 x.f4 (ar+1) D V).bind fun r=>if r.1=true then qAH.l K f0 f1 f2 f3 f4 ar r.2.1 r.2.2 ((i+1:Nat):Int) else some (false,r.2.1,r.2.2))=some (true,D',W') →
    (∀ y ∈ x :: f3.drop (i+1),sa.okV (7 - ar).toNat y)∧(f0=5→∀ j:Nat,i+1≤j→j < f4.length→(rdOf ByteArray.empty f4 (j:Int)).size≤32∧(0 < j→Op.bytesLess (rdOf ByteArray.empty f4 ((j:Int) - 1)).toList (rdOf ByteArray.empty f4 (j:Int)).toList=true))∧V+(wt x:Int)+(qB9 f0 f3 f4 (i+1):Int)=W'∧W'≤2048∧0≤D':=by
   intro V v0 v1 hh
   obtain ⟨r,hr,hh⟩:=Option.bind_eq_some_iff.1 hh
   obtain ⟨t,D1,W1⟩:=r
   dsimp only at hh
   cases t with
   | false=>rw [if_neg (by decide)] at hh;cases hh
   | true =>
    rw [if_pos rfl] at hh
    obtain ⟨q1,q2,q3,q4⟩:=ihw x (ar+1) D V D1 W1 hvx (by omega) (by omega) h2 v0 v1 hr
    obtain ⟨g1,g2,g3,g4,g5⟩:=ihl f0 f1 f2 f3 f4 ar D1 W1 D' W' (i+1) hv hl h45 hs h0 h1 q4 (by omega) q3 (by omega) hh
    refine ⟨fun y hy => ?_,g2,by omega,g4,g5⟩
    rcases List.mem_cons.1 hy with rfl | hy
    ·rw [show (8 - (ar+1)).toNat=(7 - ar).toNat by omega] at q1;exact q1
    ·exact g1 y hy
  by_cases k5:f0=5
  ·have q4:(i:Int) < (f4.length:Int):=by have:=h45 k5;omega
   rw [if_pos k5,if_pos q4] at h
   by_cases g1:32 < ((rdOf ByteArray.empty f4 (i:Int)).size:Int)
   ·rw [if_pos g1] at h;cases h
   rw [if_neg g1] at h
   by_cases g2:0 < (i:Int)∧(Op.bytesLess ((rdOf ByteArray.empty f4 ((i:Int) - 1)).toList) ((rdOf ByteArray.empty f4 (i:Int)).toList))=false
   ·rw [if_pos g2] at h;cases h
   rw [if_neg g2] at h
   have et:wrap64 (W+wrap64 (1+((rdOf ByteArray.empty f4 (i:Int)).size:Int)))=W+1+((rdOf ByteArray.empty f4 (i:Int)).size:Int):=by
    rw [X.w64 (1+((rdOf ByteArray.empty f4 (i:Int)).size:Int)) (by omega) (by omega),X.w64 _ (by omega) (by omega)]
    omega
   rw [et,ea,ei] at h
   obtain ⟨p1,p2,p3,p4,p5⟩:=key _ (by omega) (by omega) h
   rw [if_pos k5] at hrs
   refine ⟨p1,fun h5 j hj1 hj2 => ?_,by omega,p4,p5⟩
   by_cases hj:i+1≤j
   ·exact p2 h5 j hj hj2
   ·obtain rfl:j=i:=by omega
    refine ⟨by omega,fun hp => ?_⟩
    cases hb:Op.bytesLess ((rdOf ByteArray.empty f4 ((j:Int) - 1)).toList) ((rdOf ByteArray.empty f4 (j:Int)).toList) with
    | true=>rfl
    | false =>
      have hp2:(0:Int) < (j:Int):=Int.natCast_pos.2 hp
      exact (g2 ⟨hp2,hb⟩).elim
  ·rw [if_neg k5,ea,ei] at h
   obtain ⟨p1,p2,p3,p4,p5⟩:=key W h3 (by omega) h
   rw [if_neg k5] at hrs
   exact ⟨p1,fun h5=>absurd h5 k5,by omega,p4,p5⟩
 ·rw [if_neg c] at h
  injection h with h
  injection h with e1 e2
  injection e2 with e2 e3
  subst e2;subst e3
  have hi2:f3.length≤i:=by omega
  rw [List.drop_eq_nil_of_le hi2,wrest_end f0 f3 f4 i hi2 h45]
  exact ⟨fun y hy=>(by cases hy),fun h5 j hj1 hj2=>absurd (h45 h5) (by omega),by omega,h4,h2⟩
theorem sa.meas_inv:∀ K:Nat,sa.MW K∧sa.ML K
 | 0=>by
  constructor
  ·intro x ar D W D' W' hv h0 h1 h2 h3 h4 h
   rw [qAH.w] at h
   cases h
  ·intro f0 f1 f2 f3 f4 ar D W D' W' i hv hl h45 hs h0 h1 h2 h3 h4 hi h
   rw [qAH.l] at h
   cases h
 | K+1=>⟨sa.meas_w (sa.meas_inv K).2,sa.meas_l2 (sa.meas_inv K).1 (sa.meas_inv K).2⟩
theorem Ev.uniq {α:Type} {g:Nat→Option α} {r s:α} (h:Ev g r) (k:Ev g s):r=s:=by
 obtain ⟨K,hK⟩:=h
 obtain ⟨L,hL⟩:=k
 have h1:=hK (K+L) (by omega)
 have h2:=hL (K+L) (by omega)
 rw [h1] at h2
 exact Option.some.inj h2
def sa.Rt (x:S34):Prop:=sa.okV 8 x∧wt x≤2048
theorem sa.okV_frm:∀ (d:Nat) (x:S34),sa.okV d x→Frm x
 | 0,x,h=>h.elim
 | d+1,x,h=>.mk x h.1 (fun y hy=>sa.okV_frm d y (h.2.2 y hy))
theorem sa.told1 (x:S34) (hv:Val x):(sa.Rt x∧0 < wt x∧Ev (fun k=>qBk.f k x.f0 x.f1 x.f2 x.f3 x.f4) true∧Ev (fun k=>qA8.f k x.f0 x.f1 x.f2 x.f3 x.f4) (wt x:Int)) ∨
  (¬ sa.Rt x∧Ev (fun k=>qBk.f k x.f0 x.f1 x.f2 x.f3 x.f4) false∧Ev (fun k=>qA8.f k x.f0 x.f1 x.f2 x.f3 x.f4) 0):=by
 rcases good x hv 0 0 0 (by omega) (by omega) (by omega) (by omega) (by omega) (by omega) with ⟨D',W',d,m,r,q,hD,hd,hD8,hW0,hW1,hF,hw⟩ | ⟨D',W',m,r⟩
 ·left
  have hm:Ev (fun k=>qAH.f k x.f0 x.f1 x.f2 x.f3 x.f4) (W',D'):=Ev.bind m (by simpa using Ev.const)
  have hW:Ev (fun k=>qA8.f k x.f0 x.f1 x.f2 x.f3 x.f4) W':=Ev.bind hm Ev.const
  have hR:Ev (fun k=>qBk.f k x.f0 x.f1 x.f2 x.f3 x.f4) true:=Ev.bind hW (by rw [zT (by omega)];exact Ev.const)
  obtain ⟨K,hK⟩:=m
  have hi:=(sa.meas_inv K).1 x 0 0 0 D' W' hv (by omega) (by omega) (by omega) (by omega) (by omega) (hK K (Nat.le_refl _))
  have he:W'=(wt x:Int):=by have:=hi.2.1;omega
  exact ⟨⟨hi.1,by omega⟩,by omega,hR,he▸hW⟩
 ·right
  have hm:Ev (fun k=>qAH.f k x.f0 x.f1 x.f2 x.f3 x.f4) (0,0):=Ev.bind m (by simpa using Ev.const)
  have hW:Ev (fun k=>qA8.f k x.f0 x.f1 x.f2 x.f3 x.f4) 0:=Ev.bind hm Ev.const
  have hR:Ev (fun k=>qBk.f k x.f0 x.f1 x.f2 x.f3 x.f4) false:=Ev.bind hW (by rw [zF (by omega)];exact Ev.const)
  refine ⟨fun hc => ?_,hR,hW⟩
  obtain ⟨D2,_,_,hm2⟩:=sa.meas_ok 8 x hc.1 0 0 0 (by omega) (by omega) (by omega) (by omega) (by omega) (by have:=hc.2;omega)
  have:=m.uniq hm2
  injection this with e1 _
  cases e1
end
section
set_option maxRecDepth 100000
open Go.Proofs.Ytdommiicjpjfpaa
theorem sa.uin_of {bs:List Int} (hb:Pl.Bytes bs) (hl:bs.length≤140737488351232):sa.Uin bs (Pl.qAd bs) (Pl.qCJ bs) where
 U:=⟨24,fun a=>Pl.Uint_eq 24 (Nat.le_refl _) bs hb (by omega) a⟩
 I:=⟨24,fun a=>Pl.Int_eq 24 (Nat.le_refl _) bs hb (by omega) a⟩
 R:=fun a=>Pl.qA9 bs hb a
 N:=fun a h=>by have:=Pl.qBb bs hb a h;omega
 M:=fun a h=>by have:=Pl.qBb bs hb a h;show 0≤a∧a < (Pl.qAd bs a).2.1∧(Pl.qAd bs a).2.1≤bs.length;omega
 V:=fun a=>Pl.unzz_range _ (Pl.qA9 bs hb a).1 (Pl.qA9 bs hb a).2
 L:=hl
 B:=hb
def sa.sm:Nat→S34→Prop
 | 0,_=>False
 | d+1,x=>(0≤x.f0∧x.f0≤5)∧(-9223372036854775808≤x.f1∧x.f1≤9223372036854775807)∧x.f2.size≤2048∧x.f3.length≤2048∧x.f4.length≤2048∧(∀ s ∈ x.f4,s.size≤2048)∧∀ y ∈ x.f3,sa.sm d y
theorem sa.sm.val:∀ (d:Nat) {x:S34},sa.sm d x→Val x∧Siz x
 | 0,x,h=>h.elim
 | d+1,x,h=>by
  obtain ⟨h0,h1,h2,h3,h4,k4,k3⟩:=h
  exact ⟨.mk x (by omega) (by omega) h1.1 h1.2 (by omega) (by omega) (by omega) (fun s hs=>by have:=k4 s hs;omega) (fun y hy=>(sa.sm.val d (k3 y hy)).1),.mk x (by omega) (by omega) (by omega) (fun s hs=>by have:=k4 s hs;omega) (fun y hy=>(sa.sm.val d (k3 y hy)).2)⟩
theorem sa.arrL_sm {n:Nat} {p:S34→Prop} {f:Int→Int→sa.R3 S34} (hf:∀ (a l:Int) (x:S34) (a2 l2:Int),sa.Bd n a l→f a l=.ok x a2 l2→p x∧sa.Bd n a2 l2):∀ (k:Nat) (acc:List S34) (a l:Int) (vs:List S34) (a2 l2:Int),sa.Bd n a l→(∀ y ∈ acc,p y)→sa.arrL f k acc a l=.ok vs a2 l2→(∀ y ∈ vs,p y)∧vs.length=acc.length+k
 | 0,acc,a,l,vs,a2,l2,hb,hp,h=>by
  unfold sa.arrL at h
  injection h with e1 _ _
  subst e1;exact ⟨hp,rfl⟩
 | k+1,acc,a,l,vs,a2,l2,hb,hp,h=>by
  unfold sa.arrL at h
  rcases hfa:f a l with ⟨x,a1,l1⟩ | ⟨e,q⟩
  ·rw [hfa] at h
   have hx:=hf a l x a1 l1 hb hfa
   have:=sa.arrL_sm hf k (acc ++ [x]) a1 l1 vs a2 l2 hx.2 (fun y hy=>by
    rcases List.mem_append.1 hy with hy | hy
    ·exact hp y hy
    ·rw [List.mem_singleton.1 hy];exact hx.1) h
   refine ⟨this.1, ?_⟩
   rw [this.2,List.length_append,List.length_singleton]
   omega
  ·rw [hfa] at h;cases h
theorem sa.keyS_sm {bs:List Int} {u i:Int→Int × Int × Int} (hU:sa.Uin bs u i) {ks:List ByteArray} {a l a2 l2:Int} {k:ByteArray} (h:sa.keyS bs u ks a l=.ok k a2 l2):k.size≤2048:=by
 unfold sa.keyS at h
 by_cases h1:(u a).2.2 ≠ 0
 ·rw [if_pos h1] at h;cases h
 rw [if_neg h1] at h
 by_cases h2:(u a).1 > 32
 ·rw [if_pos h2] at h;cases h
 rw [if_neg h2] at h
 by_cases h3:(u a).1 > (bs.length:Int) - (u a).2.1
 ·rw [if_pos h3] at h;cases h
 rw [if_neg h3] at h
 dsimp only at h
 split at h
 ·cases h
 split at h
 ·cases h
 ·injection h with e1 e2 e3
  subst e1
  rw [sa.qB7,List.length_take]
  have:=(hU.R a).1
  omega
theorem sa.recL_sm {bs:List Int} {u i:Int→Int × Int × Int} (hU:sa.Uin bs u i) {p:S34→Prop} {f:Int→Int→sa.R3 S34} (hf:∀ (a l:Int) (x:S34) (a2 l2:Int),sa.Bd bs.length a l→f a l=.ok x a2 l2→p x∧sa.Bd bs.length a2 l2):∀ (k:Nat) (ks:List ByteArray) (acc:List S34) (a l:Int) (vs:List ByteArray × List S34) (a2 l2:Int),sa.Bd bs.length a l→(∀ y ∈ acc,p y)→(∀ s ∈ ks,s.size≤2048)→sa.recL bs u f k ks acc a l=.ok vs a2 l2→(∀ y ∈ vs.2,p y)∧vs.2.length=acc.length+k∧(∀ s ∈ vs.1,s.size≤2048)∧vs.1.length=ks.length+k
 | 0,ks,acc,a,l,vs,a2,l2,hb,hp,hk,h=>by
  unfold sa.recL at h
  injection h with e1 _ _
  subst e1;exact ⟨hp,rfl,hk,rfl⟩
 | k+1,ks,acc,a,l,vs,a2,l2,hb,hp,hk,h=>by
  unfold sa.recL at h
  rcases hka:sa.keyS bs u ks a l with ⟨kk,a1,l1⟩ | ⟨e,q⟩
  ·rw [hka] at h
   have hb1:sa.Bd bs.length a1 l1:=sa.keyS_b hU ⟨hb.2.2.1,hb.2.2.2⟩ hka
   have hks:=sa.keyS_sm hU hka
   dsimp only at h
   rcases hfa:f a1 l1 with ⟨x,a3,l3⟩ | ⟨e,q⟩
   ·rw [hfa] at h
    have hx:=hf a1 l1 x a3 l3 hb1 hfa
    have:=sa.recL_sm hU hf k (ks ++ [kk]) (acc ++ [x]) a3 l3 vs a2 l2 hx.2 (fun y hy=>by
     rcases List.mem_append.1 hy with hy | hy
     ·exact hp y hy
     ·rw [List.mem_singleton.1 hy];exact hx.1) (fun s hs=>by
     rcases List.mem_append.1 hs with hs | hs
     ·exact hk s hs
     ·rw [List.mem_singleton.1 hs];exact hks) h
    refine ⟨this.1, ?_,this.2.2.1, ?_⟩
    ·rw [this.2.1,List.length_append,List.length_singleton];omega
    ·rw [this.2.2.2,List.length_append,List.length_singleton];omega
   ·rw [hfa] at h;cases h
  ·rw [hka] at h;cases h
theorem sa.sm.mk {d:Nat} {f0 f1:Int} {f2:ByteArray} {f3:List S34} {f4:List ByteArray} (h0:0≤f0∧f0≤5) (h1 : -9223372036854775808≤f1∧f1≤9223372036854775807) (h2:f2.size≤2048) (h3:f3.length≤2048) (h4:f4.length≤2048) (k4:∀ s ∈ f4,s.size≤2048) (k3:∀ y ∈ f3,sa.sm d y):sa.sm (d+1) ⟨f0,f1,f2,f3,f4⟩:=⟨h0,h1,h2,h3,h4,k4,k3⟩
theorem sa.valS_sm {bs:List Int} {u i:Int→Int × Int × Int} (hU:sa.Uin bs u i):∀ (d:Nat) (a l:Int) (x:S34) (a2 l2:Int),sa.Bd bs.length a l→sa.valS bs u i d a l=.ok x a2 l2→sa.sm d x
 | 0,a,l,x,a2,l2,hb,h=>by
  rw [sa.valS] at h
  split at h <;> cases h
 | d+1,a,l,x,a2,l2,hb,h=>by
  rw [sa.valS_s] at h
  have hbb:=hb
  obtain ⟨b1,b2,b3,b4⟩:=hb
  have leaf:∀ {f0 f1:Int} {f2:ByteArray} {b m:Int},(0≤f0∧f0≤5)→(-9223372036854775808≤f1∧f1≤9223372036854775807)→f2.size≤2048→sa.R3.ok (⟨f0,f1,f2,[],[]⟩:S34) b m=.ok x a2 l2→sa.sm (d+1) x:=fun q0 q1 q2 h=>by
   injection h with e1 _ _
   subst e1
   exact sa.sm.mk q0 q1 q2 (Nat.zero_le _) (Nat.zero_le _) (fun s hs=>by cases hs) (fun y hy=>by cases hy)
  have nb:∀ {e q:Int},sa.R3.bad e q=.ok x a2 l2→sa.sm (d+1) x:=fun h=>by cases h
  have hz:(⟨#[]⟩:ByteArray).size≤2048:=by decide
  have ih:∀ (a l:Int) (x:S34) (a2 l2:Int),sa.Bd bs.length a l→sa.valS bs u i d a l=.ok x a2 l2→sa.sm d x∧sa.Bd bs.length a2 l2:=fun a l x a2 l2 q h=>⟨sa.valS_sm hU d a l x a2 l2 q h,sa.valS_b hU d a l x a2 l2 q h⟩
  by_cases h0:a=(bs.length:Int) ∨ rd bs a > 6
  ·rw [if_pos h0] at h;exact nb h
  rw [if_neg h0] at h
  by_cases h1:1 > l
  ·rw [if_pos h1] at h;exact nb h
  rw [if_neg h1] at h
  by_cases k1:rd bs a=1
  ·rw [if_pos k1] at h;exact leaf (by omega) (by omega) hz h
  rw [if_neg k1] at h
  by_cases k2:rd bs a=2
  ·rw [if_pos k2] at h;exact leaf (by omega) (by omega) hz h
  rw [if_neg k2] at h
  by_cases k3:rd bs a=3
  ·rw [if_pos k3] at h
   by_cases e1:(i (a+1)).2.2 ≠ 0
   ·rw [if_pos e1] at h;exact nb h
   ·rw [if_neg e1] at h;exact leaf (by omega) (hU.V _) hz h
  rw [if_neg k3] at h
  by_cases k4:rd bs a=4
  ·rw [if_pos k4] at h
   by_cases e1:(u (a+1)).2.2 ≠ 0
   ·rw [if_pos e1] at h;exact nb h
   rw [if_neg e1] at h
   by_cases e2:(l - 1) / 1 < (u (a+1)).1
   ·rw [if_pos e2] at h;exact nb h
   rw [if_neg e2] at h
   rw [Int.ediv_one] at e2
   by_cases e3:(bs.length:Int) - (u (a+1)).2.1 < (u (a+1)).1
   ·rw [if_pos e3] at h;exact nb h
   ·rw [if_neg e3] at h
    refine leaf (by omega) (by omega) ?_ h
    rw [sa.qB7,List.length_take]
    have:=(hU.R (a+1)).1
    omega
  rw [if_neg k4] at h
  by_cases k5:rd bs a=5
  ·rw [if_pos k5] at h
   by_cases e1:(u (a+1)).2.2 ≠ 0
   ·rw [if_pos e1] at h;exact nb h
   rw [if_neg e1] at h
   by_cases e2:(l - 1) / 1 < (u (a+1)).1
   ·rw [if_pos e2] at h;exact nb h
   rw [if_neg e2] at h
   rw [Int.ediv_one] at e2
   have hN:=hU.N (a+1) (Classical.byContradiction e1)
   rcases hL:sa.arrL (sa.valS bs u i d) (u (a+1)).1.toNat [] (u (a+1)).2.1 (l - 1) with ⟨vs,a3,l3⟩ | ⟨e,p⟩
   ·rw [hL] at h
    have hp:=sa.arrL_sm (p:=sa.sm d) ih _ _ _ _ _ _ _ ⟨by omega,by omega,by omega,by omega⟩ (fun y hy=>by cases hy) hL
    injection h with e1 _ _
    subst e1
    have hlen:vs.length≤2048:=by rw [hp.2];simp;omega
    exact sa.sm.mk (by decide) (by decide) hz hlen (Nat.zero_le _) (fun s hs=>by cases hs) hp.1
   ·rw [hL] at h;exact nb h
  rw [if_neg k5] at h
  by_cases k6:rd bs a=6
  ·rw [if_pos k6] at h
   by_cases e1:(u (a+1)).2.2 ≠ 0
   ·rw [if_pos e1] at h;exact nb h
   rw [if_neg e1] at h
   by_cases e2:(l - 1) / 2 < (u (a+1)).1
   ·rw [if_pos e2] at h;exact nb h
   rw [if_neg e2] at h
   have hN:=hU.N (a+1) (Classical.byContradiction e1)
   have hle:(l - 1) / 2≤l - 1:=Int.ediv_le_self _ (by omega)
   rcases hL:sa.recL bs u (sa.valS bs u i d) (u (a+1)).1.toNat [] [] (u (a+1)).2.1 (l - 1) with ⟨⟨ks,vs⟩,a3,l3⟩ | ⟨e,p⟩
   ·rw [hL] at h
    have hp:=sa.recL_sm hU (p:=sa.sm d) ih _ _ _ _ _ _ _ _ ⟨by omega,by omega,by omega,by omega⟩ (fun y hy=>by cases hy) (fun s hs=>by cases hs) hL
    injection h with e1 _ _
    subst e1
    have hlen:vs.length≤2048:=by have:=hp.2.1;simp at this;omega
    have hlen4:ks.length≤2048:=by have:=hp.2.2.2;simp at this;omega
    exact sa.sm.mk (by decide) (by decide) hz hlen hlen4 hp.2.2.1 hp.1
   ·rw [hL] at h;exact nb h
  rw [if_neg k6] at h
  exact leaf (by omega) (by omega) hz h
theorem sa.keyS_bad {bs:List Int} {u:Int→Int × Int × Int} {ks:List ByteArray} {a l e p:Int} (h:sa.keyS bs u ks a l=.bad e p):e=41 ∨ e=42:=by
 unfold sa.keyS at h
 by_cases h1:(u a).2.2 ≠ 0
 ·rw [if_pos h1] at h;injection h with h _;exact Or.inl h.symm
 rw [if_neg h1] at h
 by_cases h2:(u a).1 > 32
 ·rw [if_pos h2] at h;injection h with h _;exact Or.inl h.symm
 rw [if_neg h2] at h
 by_cases h3:(u a).1 > (bs.length:Int) - (u a).2.1
 ·rw [if_pos h3] at h;injection h with h _;exact Or.inl h.symm
 rw [if_neg h3] at h
 dsimp only at h
 split at h
 ·injection h with h _;exact Or.inl h.symm
 ·split at h
  ·injection h with h _;exact Or.inr h.symm
  ·cases h
theorem sa.takeS_ok {bs:List Int} (hb:Pl.Bytes bs) (hl:bs.length≤140737488351232) {at_:Int} {x:S34} {a2 l2:Int} (hr:sa.takeS bs (Pl.qAd bs) (Pl.qCJ bs) at_=.ok x a2 l2) :
  Val x∧Siz x∧sa.Rt x∧0≤at_∧at_ < a2∧a2≤(bs.length:Int)∧bs.drop at_.toNat=en x ++ bs.drop a2.toNat∧a2 - at_=((en x).length:Int):=by
 have hU:=sa.uin_of hb hl
 unfold sa.takeS at hr
 by_cases h:at_ < 0 ∨ at_ > (bs.length:Int)
 ·rw [if_pos h] at hr
  cases hr
 rw [if_neg h] at hr
 have h0:0≤at_:=by
  have:¬ at_ < 0:=fun e=>h (Or.inl e)
  omega
 have h1:at_≤(bs.length:Int):=by
  have:¬ at_ > (bs.length:Int):=fun e=>h (Or.inr e)
  omega
 have hbd:sa.Bd bs.length at_ 2048:=⟨h0,h1,by omega,by omega⟩
 have hs:=sa.valS_sm hU 8 at_ 2048 x a2 l2 hbd hr
 have hv:=sa.sm.val 8 hs
 have hk:=sa.valS_ok hU 8 at_ 2048 x a2 l2 hr
 obtain ⟨q1,q2⟩:=sa.valS_en hb hl hU 8 at_ 2048 x a2 l2 hbd hr
 obtain ⟨p0,p1,p2,p3⟩:=sa.valS_b hU 8 at_ 2048 x a2 l2 hbd hr
 have hp:=en_pos x
 have ha:=sa.at_len h0 q1 hp
 have hal:(sa.at_ bs a2).length=bs.length - a2.toNat:=by unfold sa.at_;rw [List.length_drop]
 rw [hal] at ha
 exact ⟨hv.1,hv.2,⟨hk,by omega⟩,h0,by omega,p1,q1,by omega⟩
end
section
set_option maxRecDepth 100000
open Go.Proofs.Ytdommiicjpjfpaa
def sa.Pb (n:Nat) (e p:Int):Prop:=(e=41 ∨ e=42)∧0≤p∧p≤(n:Int)
theorem sa.keyS_pl {bs:List Int} {u:Int→Int × Int × Int} {ks:List ByteArray} {a l e p:Int} (hb:sa.Bd bs.length a l) (h:sa.keyS bs u ks a l=.bad e p):sa.Pb bs.length e p:=by
 refine ⟨sa.keyS_bad h, ?_⟩
 have hp:p=a:=by
  unfold sa.keyS at h
  by_cases h1:(u a).2.2 ≠ 0
  ·rw [if_pos h1] at h;injection h with _ h;exact h.symm
  rw [if_neg h1] at h
  by_cases h2:(u a).1 > 32
  ·rw [if_pos h2] at h;injection h with _ h;exact h.symm
  rw [if_neg h2] at h
  by_cases h3:(u a).1 > (bs.length:Int) - (u a).2.1
  ·rw [if_pos h3] at h;injection h with _ h;exact h.symm
  rw [if_neg h3] at h
  dsimp only at h
  split at h
  ·injection h with _ h;exact h.symm
  ·split at h
   ·injection h with _ h;exact h.symm
   ·cases h
 rw [hp]
 exact ⟨hb.1,hb.2.1⟩
theorem sa.arrL_pl {n:Nat} {f:Int→Int→sa.R3 S34} (hf:∀ (a l:Int) (x:S34) (a2 l2:Int),sa.Bd n a l→f a l=.ok x a2 l2→sa.Bd n a2 l2) (hg:∀ a l e p,sa.Bd n a l→f a l=.bad e p→sa.Pb n e p):∀ (k:Nat) (acc:List S34) (a l e p:Int),sa.Bd n a l→sa.arrL f k acc a l=.bad e p→sa.Pb n e p
 | 0,acc,a,l,e,p,hb,h=>by
  unfold sa.arrL at h
  cases h
 | k+1,acc,a,l,e,p,hb,h=>by
  unfold sa.arrL at h
  rcases hfa:f a l with ⟨x,a1,l1⟩ | ⟨e1,q⟩
  ·rw [hfa] at h
   exact sa.arrL_pl hf hg k (acc ++ [x]) a1 l1 e p (hf a l x a1 l1 hb hfa) h
  ·rw [hfa] at h
   injection h with e2 e3
   rw [← e2,← e3]
   exact hg a l e1 q hb hfa
theorem sa.recL_pl {bs:List Int} {u i:Int→Int × Int × Int} (hU:sa.Uin bs u i) {f:Int→Int→sa.R3 S34} (hf:∀ (a l:Int) (x:S34) (a2 l2:Int),sa.Bd bs.length a l→f a l=.ok x a2 l2→sa.Bd bs.length a2 l2) (hg:∀ a l e p,sa.Bd bs.length a l→f a l=.bad e p→sa.Pb bs.length e p):∀ (k:Nat) (ks:List ByteArray) (acc:List S34) (a l e p:Int),sa.Bd bs.length a l→sa.recL bs u f k ks acc a l=.bad e p→sa.Pb bs.length e p
 | 0,ks,acc,a,l,e,p,hb,h=>by
  unfold sa.recL at h
  cases h
 | k+1,ks,acc,a,l,e,p,hb,h=>by
  unfold sa.recL at h
  rcases hk:sa.keyS bs u ks a l with ⟨x,a1,l1⟩ | ⟨e1,q⟩
  ·have hb1:sa.Bd bs.length a1 l1:=sa.keyS_b hU ⟨hb.2.2.1,hb.2.2.2⟩ hk
   rw [hk] at h
   dsimp only at h
   rcases hfa:f a1 l1 with ⟨y,a2,l2⟩ | ⟨e1,q⟩
   ·rw [hfa] at h
    exact sa.recL_pl hU hf hg k (ks ++ [x]) (acc ++ [y]) a2 l2 e p (hf a1 l1 y a2 l2 hb1 hfa) h
   ·rw [hfa] at h
    injection h with e2 e3
    rw [← e2,← e3]
    exact hg a1 l1 e1 q hb1 hfa
  ·rw [hk] at h
   injection h with e2 e3
   rw [← e2,← e3]
   exact sa.keyS_pl hb hk
theorem sa.countS_pl {n:Nat} {u:Int→Int × Int × Int} {t c a l e p:Int} (h0:0≤t) (h1:t≤(n:Int)) (h2:0≤a) (h3:a≤(n:Int)) (h:sa.qBe u t c a l=.bad e p):sa.Pb n e p:=by
 unfold sa.qBe at h
 split at h
 ·injection h with h k;subst h;subst k;exact ⟨Or.inl rfl,h2,h3⟩
 ·split at h
  ·injection h with h k;subst h;subst k;exact ⟨Or.inr rfl,h0,h1⟩
  ·cases h
theorem sa.countS_to {bs:List Int} {u i:Int→Int × Int × Int} (hU:sa.Uin bs u i) {t c a l n a1 l1:Int} (hl:0≤l∧l≤2048) (h:sa.qBe u t c a l=.ok n a1 l1):sa.Bd bs.length a1 l1:=by
 unfold sa.qBe at h
 split at h
 ·cases h
 ·rename_i h1
  split at h
  ·cases h
  ·injection h with e1 e2 e3
   have:=hU.N a (by simpa using h1)
   exact ⟨by omega,by omega,by omega,by omega⟩
theorem sa.valS_pl {bs:List Int} {u i:Int→Int × Int × Int} (hU:sa.Uin bs u i):∀ (d:Nat) (a l e p:Int),sa.Bd bs.length a l→sa.valS bs u i d a l=.bad e p→sa.Pb bs.length e p:=by
 intro d
 induction d with
 | zero =>
  intro a l e p hb h
  unfold sa.valS at h
  split at h
  ·injection h with h k;subst h;subst k;exact ⟨Or.inl rfl,hb.1,hb.2.1⟩
  ·injection h with h k;subst h;subst k;exact ⟨Or.inr rfl,hb.1,hb.2.1⟩
 | succ d ih =>
  intro a l e p hb h
  unfold sa.valS at h
  split at h
  ·injection h with h k;subst h;subst k;exact ⟨Or.inl rfl,hb.1,hb.2.1⟩
  rename_i hne
  have ha1:a+1≤(bs.length:Int):=by
   have h1:a ≠ (bs.length:Int):=fun q=>hne (Or.inl q)
   have:=hb.2.1
   omega
  have h0:=hb.1
  have hle:=hb.2.1
  dsimp only at h
  split at h
  ·injection h with h k;subst h;subst k;exact ⟨Or.inr rfl,hb.1,hb.2.1⟩
  rename_i hl1
  have hl:0≤l - 1∧l - 1≤2048:=⟨by omega,by have:=hb.2.2.2;omega⟩
  split at h
  ·cases h
  split at h
  ·cases h
  split at h
  ·split at h
   ·injection h with h k;subst h;subst k;exact ⟨Or.inl rfl,by omega,ha1⟩
   ·cases h
  split at h
  ·rcases hc:sa.qBe u a 1 (a+1) (l - 1) with ⟨x,a1,l1⟩ | ⟨e1,q⟩
   ·rw [hc] at h
    dsimp only at h
    split at h
    ·injection h with h k;subst h;subst k;exact ⟨Or.inl rfl,by omega,ha1⟩
    ·cases h
   ·rw [hc] at h
    injection h with e2 e3
    rw [← e2,← e3]
    exact sa.countS_pl h0 hle (by omega) ha1 hc
  split at h
  ·rcases hc:sa.qBe u a 1 (a+1) (l - 1) with ⟨x,a1,l1⟩ | ⟨e1,q⟩
   ·have hb1:=sa.countS_to hU hl hc
    rw [hc] at h
    dsimp only at h
    rcases hr:sa.arrL (sa.valS bs u i d) x.toNat [] a1 l1 with ⟨y,a2,l2⟩ | ⟨e1,q⟩
    ·rw [hr] at h;cases h
    ·rw [hr] at h
     injection h with e2 e3
     rw [← e2,← e3]
     exact sa.arrL_pl (sa.valS_b hU d) ih _ _ _ _ _ _ hb1 hr
   ·rw [hc] at h
    injection h with e2 e3
    rw [← e2,← e3]
    exact sa.countS_pl h0 hle (by omega) ha1 hc
  split at h
  ·rcases hc:sa.qBe u a 2 (a+1) (l - 1) with ⟨x,a1,l1⟩ | ⟨e1,q⟩
   ·have hb1:=sa.countS_to hU hl hc
    rw [hc] at h
    dsimp only at h
    rcases hr:sa.recL bs u (sa.valS bs u i d) x.toNat [] [] a1 l1 with ⟨y,a2,l2⟩ | ⟨e1,q⟩
    ·rw [hr] at h;cases h
    ·rw [hr] at h
     injection h with e2 e3
     rw [← e2,← e3]
     exact sa.recL_pl hU (sa.valS_b hU d) ih _ _ _ _ _ _ _ hb1 hr
   ·rw [hc] at h
    injection h with e2 e3
    rw [← e2,← e3]
    exact sa.countS_pl h0 hle (by omega) ha1 hc
  ·cases h
theorem sa.takeS_bad {bs:List Int} (hb:Pl.Bytes bs) (hl:bs.length≤140737488351232) {at_ e p:Int} (hr:sa.takeS bs (Pl.qAd bs) (Pl.qCJ bs) at_=.bad e p):sa.Pb bs.length e p:=by
 unfold sa.takeS at hr
 by_cases h:at_ < 0 ∨ at_ > (bs.length:Int)
 ·rw [if_pos h] at hr
  injection hr with h k;subst h;subst k
  exact ⟨Or.inl rfl,Int.le_refl _,Int.natCast_nonneg _⟩
 rw [if_neg h] at hr
 have h0:0≤at_:=by
  have:¬ at_ < 0:=fun e=>h (Or.inl e)
  omega
 have h1:at_≤(bs.length:Int):=by
  have:¬ at_ > (bs.length:Int):=fun e=>h (Or.inr e)
  omega
 exact sa.valS_pl (sa.uin_of hb hl) 8 at_ 2048 e p ⟨h0,h1,by omega,by omega⟩ hr
end
section
set_option maxHeartbeats 4000000
set_option maxRecDepth 100000
open Go.Proofs.Ytdommiicjpjfpaa Go.Proofs.Ytdommiicjpjfpaa.Pl
def sa.ke:Kd S51:=Kd.iso (Kd.pair Kd.string sa.kt) (fun x:S51=>(x.f0,x.f1))
theorem sa.ke_C {w:World} {A:Option Addr} {n:Nat} {xs:List S51} (h:sa.ke.C w A n xs):k51.C w A n xs:=h
theorem sa.ke_M {w:World} {base:Nat} {ok:Nat→Prop} {k:ByteArray} {x:S34} {v3 v4:Value} (h:sa.kt.M w base ok x [.int .i64 x.f0,.int .i64 x.f1,.string x.f2,v3,v4]):sa.ke.M w base ok ⟨k,x⟩ [.string k,.int .i64 x.f0,.int .i64 x.f1,.string x.f2,v3,v4] :=
 ⟨[.string k],[.int .i64 x.f0,.int .i64 x.f1,.string x.f2,v3,v4],rfl,rfl,h⟩
section
variable {ops:Array Oper} {rest:List Oper} {o:Oper} {a:Act} {Q:Exit→Act→World→Prop}
end
def sa.RB7 (w:World) (g:Nat) (B:Option Addr) (n cb:Nat) (at_ all:Int) (vl:Value):Prop:=w.heap[g]?=some (.cells #[.slice B n cb,.int .i64 at_,.int .i64 all,vl] 75 (0,0))
theorem sa.RB7.below {w w1:World} {g:Nat} {B:Option Addr} {n cb:Nat} {at_ all:Int} {vl:Value} (h:sa.RB7 w g B n cb at_ all vl) (hb:Below w.heap.size w w1):sa.RB7 w1 g B n cb at_ all vl:=qAX h hb
def sa.hv (x:S51):Int:=1+(x.f0.size:Int)+(wt x.f1:Int)
def sa.entF (bs:List Int) (at_ all:Int) (l:List S51):sa.R3 (List S51) :=
 if (qBX bs at_ 32).2.2 ≠ 0 then .bad 71 at_
 else if (qBX bs at_ 32).1.toList=[] ∨ (0 < l.length∧¬ Op.bytesLess (qAJ l ((l.length:Int) - 1)).f0.toList (qBX bs at_ 32).1.toList=true) then .bad 70 at_
 else match sa.takeS bs (qAd bs) (qCJ bs) (qBX bs at_ 32).2.1 with
  | .bad _ p=>.bad 71 p
  | .ok x a2 _=>if all+sa.hv ⟨(qBX bs at_ 32).1,x⟩ > 32768 then .bad 70 at_ else .ok (l ++ [⟨(qBX bs at_ 32).1,x⟩]) a2 (all+sa.hv ⟨(qBX bs at_ 32).1,x⟩)
def sa.EntT (r:sa.R3 (List S51)) (w0:World) (g:Nat) (B:Option Addr) (n cb:Nat) (e:Ending) (w':World):Prop :=
 match r with
 | .bad c p=>e=.returned (.tuple #[.int .i64 p,.int .i64 c])∧Below w0.heap.size w0 w'
 | .ok l a2 all=>e=.returned (.tuple #[.int .i64 0,.int .i64 0])∧Below w0.heap.size w0 w'∧∃ vl,sa.RB7 w' g B n cb a2 all vl∧sa.ke.R 51 w' w0.heap.size (fun k=>k ≠ g) vl l
end
section
set_option maxRecDepth 100000
open Go.Proofs.Ytdommiicjpjfpaa
theorem sa.okV_deep:∀ (d:Nat) (x:S34),sa.okV d x→sa.deepL d x.f3
 | 0,x,h=>h.elim
 | d+1,x,h=>fun y hy=>sa.okV_deep d y (h.2.2 y hy)
theorem sa.sum_len {α:Type} (f:α→Nat) (hf:∀ x,1≤f x):∀ (l:List α),l.length≤(l.map f).sum
 | []=>Nat.le_refl _
 | x :: l=>by
  have:=sa.sum_len f hf l
  have:=hf x
  simp only [List.map_cons,List.sum_cons,List.length_cons]
  omega
theorem sa.sum_mem {α:Type} (f:α→Nat):∀ {l:List α} {x:α},x ∈ l→f x≤(l.map f).sum
 | y :: l,x,h=>by
  simp only [List.map_cons,List.sum_cons]
  rcases List.mem_cons.1 h with rfl | h
  ·omega
  ·have:=sa.sum_mem f h
   omega
theorem sa.wt_one (x:S34):1≤wt x:=by rw [wt_eq];omega
theorem sa.sm_of:∀ (d:Nat) (x:S34),Val x→sa.okV d x→wt x≤2048→sa.sm d x
 | 0,x,_,h,_=>h.elim
 | d+1,x,hv,ho,hw=>by
  obtain ⟨_,a0,b0,a1,b1,l2,l3,l4,k4,k3⟩:=hv
  have e:=wt_eq x
  have h3:=sa.sum_len wt sa.wt_one x.f3
  have h4:=sa.sum_len (fun s:ByteArray=>1+s.size) (fun s=>by omega) x.f4
  have hf:0≤x.f0∧x.f0≤5:=by
   rcases qCO l3 l4 ho.1 with z | z | z | z | z | z <;> (have:=z.1;omega)
  refine ⟨hf,⟨a1,b1⟩,by omega,by omega,by omega,fun s hs => ?_,fun y hy=>sa.sm_of d y (k3 y hy) (ho.2.2 y hy) ?_⟩
  ·have:=sa.sum_mem (fun s:ByteArray=>1+s.size) hs
   try dsimp only at this
   omega
  ·have:=sa.sum_mem wt hy
   omega
end
section
set_option maxHeartbeats 4000000
set_option maxRecDepth 100000
def sa.szL (B:Nat):Nat→List S34→Prop
 | 0,_=>False
 | d+1,xs=>xs.length≤B∧∀ x ∈ xs,sa.szL B d x.f3∧x.f4.length≤5 * B+2
def sa.Gm (t:Nat) (mark:ByteArray) (cs cs':Array Value):Prop:=(t=34→∀ i:Nat,(∀ j,j < 5→cs'[i * 5+j]?=cs[i * 5+j]?) ∨ sa.grp cs' (i * 5) (.int .i64 2) (.int .i64 77) (.string ⟨#[]⟩) (.slice none 0 0) (.slice none 0 0))∧(t=9→∀ i:Nat,cs'[i]?=cs[i]? ∨ cs'[i]?=some (.string mark))
theorem sa.Gm.refl (t:Nat) (mark:ByteArray) (cs:Array Value):sa.Gm t mark cs cs:=⟨fun _ i=>Or.inl fun _ _=>rfl,fun _ i=>Or.inl rfl⟩
theorem sa.Gm.trans {t:Nat} {mark:ByteArray} {c1 c2 c3:Array Value} (h:sa.Gm t mark c1 c2) (k:sa.Gm t mark c2 c3):sa.Gm t mark c1 c3:=by
 refine ⟨fun ht i => ?_,fun ht i => ?_⟩
 ·rcases k.1 ht i with e | e
  ·rcases h.1 ht i with f | ⟨f0,f1,f2,f3,f4⟩
   ·exact Or.inl fun j hj=>(e j hj).trans (f j hj)
   ·exact Or.inr ⟨(e 0 (by omega)).trans f0,(e 1 (by omega)).trans f1,(e 2 (by omega)).trans f2,(e 3 (by omega)).trans f3,(e 4 (by omega)).trans f4⟩
  ·exact Or.inr e
 ·rcases k.2 ht i with e | e
  ·rcases h.2 ht i with f | f
   ·exact Or.inl (e.trans f)
   ·exact Or.inr (e.trans f)
  ·exact Or.inr e
structure sa.SimW (Y:Nat→Prop) (mark:ByteArray) (w w1:World):Prop where
 os:w1.os=w.os
 tape:w1.tape=w.tape
 output:w1.output=w.output
 size:w.heap.size≤w1.heap.size
 out:∀ k,k < w.heap.size→¬ Y k→w1.heap[k]?=w.heap[k]?
 ins:∀ k,Y k→∀ (cs:Array Value) (t:Nat),w.heap[k]?=some (.cells cs t (0,0))→∃ cs':Array Value,w1.heap[k]?=some (.cells cs' t (0,0))∧cs'.size=cs.size∧sa.Gm t mark cs cs'
section
variable {Y:Nat→Prop} {mark:ByteArray} {w w1 w2:World}
theorem sa.SimW.of_below (h:Below w.heap.size w w1):sa.SimW Y mark w w1:=⟨h.os,h.tape,h.output,h.size,fun k hk _=>h.block k hk,fun k _ cs t hc=>⟨cs,qAX hc h,rfl,sa.Gm.refl _ _ _⟩⟩
theorem sa.SimW.refl (Y:Nat→Prop) (mark:ByteArray) (w:World):sa.SimW Y mark w w:=sa.SimW.of_below (Below.refl _ _)
theorem sa.SimW.trans (h:sa.SimW Y mark w w1) (k:sa.SimW Y mark w1 w2):sa.SimW Y mark w w2:=by
 refine ⟨k.os.trans h.os,k.tape.trans h.tape,k.output.trans h.output,Nat.le_trans h.size k.size,fun i hi hy=>(k.out i (Nat.lt_of_lt_of_le hi h.size) hy).trans (h.out i hi hy),fun i hy cs t hc => ?_⟩
 obtain ⟨c1,e1,e2,e3⟩:=h.ins i hy cs t hc
 obtain ⟨c2,f1,f2,f3⟩:=k.ins i hy c1 t e1
 exact ⟨c2,f1,f2.trans e2,e3.trans f3⟩
theorem sa.SimW.blocks (h:sa.SimW Y mark w w1) (hs:w1.heap.size≤w2.heap.size) (ho:w2.os=w1.os) (ht:w2.tape=w1.tape) (hp:w2.output=w1.output) (hb:∀ i,i < w.heap.size→w2.heap[i]?=w1.heap[i]?):sa.SimW Y mark w w2 :=
 ⟨ho.trans h.os,ht.trans h.tape,hp.trans h.output,Nat.le_trans h.size hs,fun i hi hy=>(hb i hi).trans (h.out i hi hy),fun i hy cs t hc=>by
  obtain ⟨c1,e1,e2,e3⟩:=h.ins i hy cs t hc
  exact ⟨c1,(hb i (qAe hc)).trans e1,e2,e3⟩⟩
theorem sa.SimW.grown (h:sa.SimW Y mark w w1) {row:Option Nat} (hg:w1.grownBy w2 row) (hr:∀ k,row=some k→w.heap.size≤k):sa.SimW Y mark w w2 :=
 h.blocks hg.size hg.os hg.tape hg.output (fun i hi=>hg.block i (Nat.lt_of_lt_of_le hi h.size) (fun e=>by have:=hr i e.symm;omega))
theorem sa.SimW.storeG (h:sa.SimW Y mark w w1) {b j:Nat} {cs1 cs':Array Value} (hy:Y b) (hbl:b < w.heap.size) (hb:w1.heap[b]?=some (.cells cs1 34 (0,0))) (hgr:w1.grownBy w2 (some b))
  (h1:w2.heap[b]?=some (.cells cs' 34 (0,0))) (hsz:cs'.size=cs1.size) (hn:sa.grp cs' (j * 5) (.int .i64 2) (.int .i64 77) (.string ⟨#[]⟩) (.slice none 0 0) (.slice none 0 0)) (hrest:∀ q,q < j * 5 ∨ j * 5+5≤q→cs'[q]?=cs1[q]?):sa.SimW Y mark w w2:=by
 have hne:∀ i,i < w.heap.size→i ≠ b→w2.heap[i]?=w1.heap[i]?:=fun i hi hib=>hgr.block i (Nat.lt_of_lt_of_le hi h.size) (fun e=>hib (Option.some.inj e))
 refine ⟨hgr.os.trans h.os,hgr.tape.trans h.tape,hgr.output.trans h.output,Nat.le_trans h.size hgr.size,fun i hi hi2=>(hne i hi (fun e=>hi2 (e▸hy))).trans (h.out i hi hi2),fun i hi cs t hc => ?_⟩
 obtain ⟨c1,e1,e2,e3⟩:=h.ins i hi cs t hc
 by_cases hib:i=b
 ·subst hib
  rw [hb] at e1
  injection e1 with e1
  injection e1 with e1 et
  subst e1;subst et
  refine ⟨cs',h1,hsz.trans e2,e3.trans ⟨fun _ q => ?_,fun h9=>absurd h9 (by decide)⟩⟩
  by_cases hq:q=j
  ·subst hq;exact Or.inr hn
  ·exact Or.inl fun r hr=>hrest _ (by omega)
 ·exact ⟨c1,(hne i (qAe hc) hib).trans e1,e2,e3⟩
theorem sa.SimW.setK (h:sa.SimW Y mark w w1) {b j:Nat} {cs1:Array Value} (hy:Y b) (hbl:b < w.heap.size) (hb:w1.heap[b]?=some (.cells cs1 9 (0,0))) (hj:j < cs1.size):sa.SimW Y mark w (w1.setCell ⟨b,j,none⟩ (.string mark)):=by
 have hne:∀ i,i ≠ b→(w1.setCell ⟨b,j,none⟩ (.string mark)).heap[i]?=w1.heap[i]?:=fun i hib=>Below.heap_setCell w1 ⟨b,j,none⟩ (.string mark) i hib
 refine ⟨h.os,h.tape,h.output,by rw [Deep.nblk_setCell];exact h.size,fun i hi hi2=>(hne i (fun e=>hi2 (e▸hy))).trans (h.out i hi hi2),fun i hi cs t hc => ?_⟩
 obtain ⟨c1,e1,e2,e3⟩:=h.ins i hi cs t hc
 by_cases hib:i=b
 ·subst hib
  rw [hb] at e1
  injection e1 with e1
  injection e1 with e1 et
  subst e1;subst et
  refine ⟨_,qAy hb j (.string mark) rfl,by simpa using e2,e3.trans ⟨fun h25=>absurd h25 (by decide),fun _ q => ?_⟩⟩
  by_cases hq:q=j
  ·subst hq;exact Or.inr (by simp [hj])
  ·exact Or.inl (by simp [Array.getElem?_setIfInBounds,show ¬ j=q from fun e=>hq e.symm])
 ·exact ⟨c1,(hne i hib).trans e1,e2,e3⟩
theorem sa.KRow.simW (hS:sa.SimW Y mark w w1) {v:Value} {ks:List ByteArray} (h:sa.KRow w Y v ks):∃ ks',ks'.length=ks.length∧sa.KRow w1 Y v ks':=by
 rcases h with ⟨rfl,rfl⟩ | ⟨b,c,cs,rfl,hy,hh,hl,hsz,hmx,hc⟩
 ·exact ⟨[],rfl,Or.inl ⟨rfl,rfl⟩⟩
 ·obtain ⟨c1,e1,e2,e3⟩:=hS.ins b hy cs 9 hh
  have key:∀ i:Fin ks.length,∃ k',c1[i.val]?=some (.string k'):=fun i=>by
   rcases e3.2 rfl i.val with e | e
   ·exact ⟨ks[i.val],by rw [e];exact hc i.val _ (List.getElem?_eq_getElem i.isLt)⟩
   ·exact ⟨_,e⟩
  refine ⟨List.ofFn fun i=>Classical.choose (key i),by simp,Or.inr ⟨b,c,c1,by simp,hy,e1,by simpa using hl,by omega,hmx,fun i k hk => ?_⟩⟩
  have hi:i < ks.length:=by
   have:=(List.getElem?_eq_some_iff.1 hk).1
   simpa using this
  have:=Classical.choose_spec (key ⟨i,hi⟩)
  rw [List.getElem?_ofFn] at hk
  simp only [hi,dite_true] at hk
  rw [← Option.some.inj hk]
  exact this
theorem sa.VRow.simW {B:Nat} (hS:sa.SimW Y mark w w1):∀ (d:Nat) {v:Value} {xs:List S34},sa.VRow w Y d v xs→sa.szL B d xs→∃ xs',xs'.length=xs.length∧sa.VRow w1 Y d v xs'∧sa.szL B d xs'
 | 0,v,xs,h,_=>h.elim
 | d+1,v,xs,h,hb=>by
  rcases h with ⟨rfl,rfl⟩ | ⟨b,c,cs,rfl,hy,hh,hl,hsz,hmx,hc⟩
  ·exact ⟨[],rfl,Or.inl ⟨rfl,rfl⟩,Nat.zero_le _,fun x hx=>by cases hx⟩
  ·obtain ⟨c1,e1,e2,e3⟩:=hS.ins b hy cs 34 hh
   have key:∀ i:Fin xs.length,∃ x':S34,(∃ u3 u4,sa.grp c1 (i.val * 5) (.int .i64 x'.f0) (.int .i64 x'.f1) (.string x'.f2) u3 u4∧sa.VRow w1 Y d u3 x'.f3∧sa.KRow w1 Y u4 x'.f4)∧sa.szL B d x'.f3∧x'.f4.length≤5 * B+2:=fun i=>by
    have hx:=List.getElem?_eq_getElem i.isLt
    obtain ⟨u3,u4,hg,r3,r4⟩:=hc i.val _ hx
    have hB:=hb.2 _ (List.getElem_mem i.isLt)
    rcases e3.1 rfl i.val with e | e
    ·obtain ⟨l3,q1,q2,q3⟩:=sa.VRow.simW hS d r3 hB.1
     obtain ⟨l4,p1,p2⟩:=sa.KRow.simW hS r4
     refine ⟨⟨xs[i.val].f0,xs[i.val].f1,xs[i.val].f2,l3,l4⟩,⟨u3,u4,⟨(e 0 (by omega)).trans hg.1,(e 1 (by omega)).trans hg.2.1,(e 2 (by omega)).trans hg.2.2.1,(e 3 (by omega)).trans hg.2.2.2.1,(e 4 (by omega)).trans hg.2.2.2.2⟩,q2,p2⟩,q3,by rw [p1];exact hB.2⟩
    ·cases d with
     | zero=>exact r3.elim
     | succ d=>exact ⟨⟨2,77,⟨#[]⟩,[],[]⟩,⟨_,_,e,sa.VRow.nil _ _ _,Or.inl ⟨rfl,rfl⟩⟩,⟨Nat.zero_le _,fun x hx=>by cases hx⟩,Nat.zero_le _⟩
   refine ⟨List.ofFn fun i=>Classical.choose (key i),by simp,Or.inr ⟨b,c,c1,by simp,hy,e1,by simpa using hl,by omega,hmx,fun i x hx => ?_⟩,by simpa using hb.1,fun x hx => ?_⟩
   ·have hi:i < xs.length:=by
     have:=(List.getElem?_eq_some_iff.1 hx).1
     simpa using this
    have:=(Classical.choose_spec (key ⟨i,hi⟩)).1
    rw [List.getElem?_ofFn] at hx
    simp only [hi,dite_true] at hx
    rw [← Option.some.inj hx]
    exact this
   ·obtain ⟨i,rfl⟩:=List.mem_ofFn.1 hx
    exact (Classical.choose_spec (key i)).2
end
def sa.Row (w:World) (t size:Nat) (Z:Nat→Prop) (v:Value) (n:Nat):Prop :=
 (v=.slice none 0 0∧n=0) ∨ ∃ b c cs,v=.slice (some ⟨b,0,none⟩) n c∧Z b∧w.heap[b]?=some (.cells cs t (0,0))∧n≤c∧c * size≤cs.size
theorem sa.VRow.row {w:World} {Y Z:Nat→Prop} (hZ:∀ k,Y k→Z k):∀ {d:Nat} {v:Value} {xs:List S34},sa.VRow w Y d v xs→sa.Row w 34 5 Z v xs.length
 | 0,v,xs,h=>h.elim
 | d+1,v,xs,h=>by
  rcases h with ⟨rfl,rfl⟩ | ⟨b,c,cs,rfl,hy,hh,hl,hsz,hmx,hc⟩
  ·exact Or.inl ⟨rfl,rfl⟩
  ·exact Or.inr ⟨b,c,cs,rfl,hZ b hy,hh,hl,hsz⟩
theorem sa.KRow.row {w:World} {Y Z:Nat→Prop} (hZ:∀ k,Y k→Z k) {v:Value} {ks:List ByteArray} (h:sa.KRow w Y v ks):sa.Row w 9 1 Z v ks.length:=by
 rcases h with ⟨rfl,rfl⟩ | ⟨b,c,cs,rfl,hy,hh,hl,hsz,hmx,hc⟩
 ·exact Or.inl ⟨rfl,rfl⟩
 ·exact Or.inr ⟨b,c,cs,rfl,hZ b hy,hh,hl,by omega⟩
section
variable {P:Program} {ops:Array Oper} {rest:List Oper} {Q:Exit→Act→World→Prop}
theorem sa.st25L {oi:Oper} {a:Act} {W:World} (t:TypeId) (hgd:oi.guard=none) (hN:oi.dst=none) (p:Tmp) (x:Operand) (ho:oi.op=.store t (.tmp p) x) (hinf:(P.info? t).map (·.size)=some 5) (b o:Nat) (haddr:a.eval (.tmp p)=.pointer (some ⟨b,o,none⟩)) (v0 v1 v2 v3 v4:Value) (hx:a.eval x=.agg #[v0,v1,v2,v3,v4]) (h1:∀ q ∈ [v0,v1,v2,v3,v4],q.oneCell'=true) (cur:Array Value) (e:TypeId) (hsz:o+5≤cur.size) (hh:W.heap[b]?=some (.cells cur e (0,0)))
  (h:∀ W1 cur',W1.heap[b]?=some (.cells cur' e (0,0))→cur'.size=cur.size→sa.grp cur' o v0 v1 v2 v3 v4→(∀ j,j < o ∨ o+5≤j→cur'[j]?=cur[j]?)→W.grownBy W1 (some b)→wpList P ops Q rest a W1):wpList P ops Q (oi :: rest) a W:=by
 refine wpList_step fun K hK => ?_
 have:=sa.st25 (P:=P) (ops:=ops) (Q:=Q) (K:=K) t (by simp [Region.wanted,hgd]) hN p x ho hinf b o haddr v0 v1 v2 v3 v4 hx h1 cur e hsz hh (fun W1 cur' q1 q2 q3 q4 q5=>hK _ _ (h W1 cur' q1 q2 q3 q4 q5))
 rw [hN]
 exact this
end
end
section
set_option maxHeartbeats 4000000
set_option maxRecDepth 100000
section
variable {P:Program}
theorem sa.run_row {W:World} (t ty e:TypeId) (size bytes:Nat) (z:Value) (ht:P.underlying t=some (.slice e)) (hinfo:(P.info? e).map (fun i=>(i.zero,i.size,i.bytes))=some (some z,size,bytes)) (hz:z.cells.size=size) (hs0:0 < size)
  {Z:Nat→Prop} {v:Value} {n m:Nat} (h0:0 < m) (news:List Value) (hn:news.length=m * size) (h1:∀ u ∈ news,u.oneCell'=true) (hr:sa.Row W e size Z v n) (hb:(n+m) * bytes≤140737488355328) (hb1:n+m≤maxLen) (src:Addr) (cap:Nat) (hnew:∀ j u,news[j]?=some u→W.cell? (src.add j)=some u) :
  ∃ b c cs v1 W1,(Builtin.append_ #[t,t] ty #[v,.slice (some src) m cap]).run P W=.ok v1 W1∧v1=.slice (some ⟨b,0,none⟩) (n+m) c∧W1.heap[b]?=some (.cells cs e (0,0))∧n+m≤c∧c * size≤cs.size ∧
   ((∃ cs0,Z b∧W.heap[b]?=some (.cells cs0 e (0,0))∧cs.size=cs0.size∧(∀ j,j < m * size→cs[n * size+j]?=news[j]?)∧(∀ j,j < n * size ∨ n * size+m * size≤j→cs[j]?=cs0[j]?)∧W.grownBy W1 (some b)) ∨
    (W.heap.size≤b∧W.grownBy W1 none)):=by
 obtain ⟨i0,hi0,hi1,hi2,hi3⟩:=info_parts hinfo
 have cont:∀ (olds:List Value) (v':Value) (w':World),(Builtin.append_ #[t,t] ty #[v,.slice (some src) m cap]).run P W=.ok v' w'→w'.ownsRow W.heap.size e size v' (n+m) (olds ++ news)→W.grownBy w' none→∃ b c cs v1 W1,(Builtin.append_ #[t,t] ty #[v,.slice (some src) m cap]).run P W=.ok v1 W1∧v1=.slice (some ⟨b,0,none⟩) (n+m) c∧W1.heap[b]?=some (.cells cs e (0,0))∧n+m≤c∧c * size≤cs.size ∧
   ((∃ cs0,Z b∧W.heap[b]?=some (.cells cs0 e (0,0))∧cs.size=cs0.size∧(∀ j,j < m * size→cs[n * size+j]?=news[j]?)∧(∀ j,j < n * size ∨ n * size+m * size≤j→cs[j]?=cs0[j]?)∧W.grownBy W1 (some b)) ∨
    (W.heap.size≤b∧W.grownBy W1 none)):=fun olds v' w' hrun ho hg=>by
  rcases ho.2 with ⟨_,q0⟩ | ⟨b,c,cur,rfl,hbb,hh,hle,hmx,hcs,_⟩
  ·omega
  ·exact ⟨b,c,cur,_,w',hrun,rfl,hh,hle,by omega,Or.inr ⟨hbb,hg⟩⟩
 rcases hr with ⟨rfl,rfl⟩ | ⟨b,c,cs,rfl,hZ,hh,hle,hcs⟩
 ·obtain ⟨v',w',hrun,r1,r2,_⟩:=run_append_own (P:=P) W W.heap.size t ty e i0 z size bytes ht hi0 hi1 hi2 hi3 hz hs0 (.slice none 0 0) 0 [] (World.ownsRow_nil W _ e size) src m cap news hn hnew h1 (by omega) hb (Nat.le_refl _)
  exact cont [] v' w' hrun r1 r2
 ·by_cases hfit:n+m≤c
  ·have hmul:=Nat.mul_le_mul_right size hfit
   rw [Nat.add_mul] at hmul
   have hrun:=run_append_room_cells (P:=P) (w:=W) t ty e i0 ht hi0 b 0 n c src m cap news (by rw [hi2];exact hn) hnew h1 hfit (fun j hj=>by
    rw [hi2,sa.cell_of hh (Array.getElem?_eq_getElem (by omega))]
    rfl) (fun j hj=>qAC hh _)
   rw [hi2,Nat.zero_add] at hrun
   obtain ⟨cur',c1,c2,c3⟩:=qBw news (n * size) W cs hh (by omega)
   obtain ⟨s1,s2,s3,s4⟩:=qBq b news (n * size) W
   have hlen:(cs.toList.take (n * size)).length=n * size:=by rw [List.length_take,Array.length_toList];omega
   have hat:∀ j,cur'[j]?=(cs.toList.take (n * size) ++ news ++ cs.toList.drop (n * size+m * size))[j]?:=fun j=>by rw [← Array.getElem?_toList,c3,hn]
   refine ⟨b,c,cur',_,_,hrun,rfl,c1,hfit,by omega,Or.inl ⟨cs,hZ,hh,c2,fun j hj => ?_,fun j hj => ?_,⟨s1,s2,s3,by omega,fun k hk hne=>qBx _ _ k (fun e=>hne (by rw [e]))⟩⟩⟩
   ·rw [hat,List.append_assoc,List.getElem?_append_right (by omega),hlen,Nat.add_sub_cancel_left,List.getElem?_append_left (by omega)]
   ·rw [hat]
    rcases hj with hj | hj
    ·rw [List.append_assoc,List.getElem?_append_left (by omega),List.getElem?_take,if_pos hj,Array.getElem?_toList]
    ·rw [List.append_assoc,List.getElem?_append_right (by omega),hlen,List.getElem?_append_right (by omega),List.getElem?_drop]
     have e2:n * size+m * size+(j - n * size - news.length)=j:=by omega
     rw [e2,Array.getElem?_toList]
  ·have holds:∀ j u,(cs.toList.take (n * size))[j]?=some u→W.cell? ((⟨b,0,none⟩:Addr).add j)=some u:=fun j u hj=>by
    rw [Addr.add_lit,Nat.zero_add]
    exact sa.cell_of hh (sa.take_at rfl hj)
   have hnc:n * size≤cs.size:=Nat.le_trans (Nat.mul_le_mul_right _ hle) hcs
   obtain ⟨v',w',hrun,r1,r2⟩:=run_append_arg_grows (P:=P) W t ty e i0 z size bytes ht hi0 hi1 hi2 hi3 hz hs0 ⟨b,0,none⟩ n c (cs.toList.take (n * size)) (by rw [List.length_take,Array.length_toList];omega) holds src m cap news hn hnew (by omega) hb1 hb
   exact cont _ v' w' hrun r1 r2
section
variable {ops:Array Oper} {o:Oper} {rest:List Oper} {a:Act} {Q:Exit→Act→World→Prop} {W:World}
theorem sa.append_is (hgd:o.guard=none) (s x:Operand) (t:TypeId) (hop:o.op=Op.call { callee:=Callee.builtin Builtin.append,args:=#[s,x],argTypes:=#[t,t] }) {v u v1:Value} {W1:World} (hs:a.eval s=v) (hx:a.eval x=u) (hrun:(Builtin.append_ #[t,t] o.type #[v,u]).run P W=.ok v1 W1)
  (h:wpList P ops Q rest (a.put o.dst v1) W1):wpList P ops Q (o :: rest) a W:=by
 refine wpList_plain hgd fun K hK => ?_
 unfold Oper.wp execOp
 simp only [hop,resolve,invoke,builtin,Sem.run_bind,Sem.run_pure,Result.andThen_ok,List.map_toArray,List.map_cons,List.map_nil,hs,hx,hrun]
 exact hK _ _ h
theorem sa.append_st {Kc:Act→World→Prop} (hw:Region.wanted o (yielded ops a.tmps)=true) (s x:Operand) (t:TypeId) (hop:o.op=Op.call { callee:=Callee.builtin Builtin.append,args:=#[s,x],argTypes:=#[t,t] }) {v u v1:Value} {W1:World} (hs:a.eval s=v) (hx:a.eval x=u) (hrun:(Builtin.append_ #[t,t] o.type #[v,u]).run P W=.ok v1 W1)
  (h:Kc (a.put o.dst v1) W1):if Region.wanted o (yielded ops a.tmps)=true then Oper.wp P o a W Kc Q else Kc (a.put o.dst undef) W:=by
 rw [if_pos hw]
 unfold Oper.wp
 simp [execOp,hop,resolve,invoke,builtin,hs,hx,hrun,Result.andThen]
 exact h
end
end
def sa.mkV:List Value:=[.int .i64 2,.int .i64 77,.string ⟨#[]⟩,.slice none 0 0,.slice none 0 0]
theorem sa.SimW.over {Y:Nat→Prop} {mark:ByteArray} {w W W1:World} {b t:Nat} {cs cs':Array Value} (hS:sa.SimW Y mark w W) (hYl:∀ k,Y k→k < w.heap.size) (hZ:Y b ∨ w.heap.size≤b) (hb:W.heap[b]?=some (.cells cs t (0,0))) (h1:W1.heap[b]?=some (.cells cs' t (0,0))) (hsz:cs'.size=cs.size) (hgm:sa.Gm t mark cs cs') (hg:W.grownBy W1 (some b)):sa.SimW Y mark w W1:=by
 rcases hZ with hy | hge
 ·have hne:∀ i,i < w.heap.size→i ≠ b→W1.heap[i]?=W.heap[i]?:=fun i hi hib=>hg.block i (Nat.lt_of_lt_of_le hi hS.size) (fun e=>hib (Option.some.inj e))
  refine ⟨hg.os.trans hS.os,hg.tape.trans hS.tape,hg.output.trans hS.output,Nat.le_trans hS.size hg.size,fun i hi hi2=>(hne i hi (fun e=>hi2 (e▸hy))).trans (hS.out i hi hi2),fun i hi c0 t0 hc => ?_⟩
  obtain ⟨c1,e1,e2,e3⟩:=hS.ins i hi c0 t0 hc
  by_cases hib:i=b
  ·subst hib
   rw [hb] at e1
   injection e1 with e1
   injection e1 with e1 et
   subst e1;subst et
   exact ⟨cs',h1,hsz.trans e2,e3.trans hgm⟩
  ·exact ⟨c1,(hne i (qAe hc) hib).trans e1,e2,e3⟩
 ·exact hS.grown hg (fun k e=>by rw [← Option.some.inj e];exact hge)
theorem sa.Gm.vals {mark:ByteArray} {cs cs':Array Value} {n m:Nat} (hin:∀ i,i < m→sa.grp cs' ((n+i) * 5) (.int .i64 2) (.int .i64 77) (.string ⟨#[]⟩) (.slice none 0 0) (.slice none 0 0)) (hrest:∀ q,q < n * 5 ∨ n * 5+m * 5≤q→cs'[q]?=cs[q]?):sa.Gm 34 mark cs cs':=by
 refine ⟨fun _ i => ?_,fun h=>absurd h (by decide)⟩
 by_cases h:n≤i∧i < n+m
 ·have:=hin (i - n) (by omega)
  rw [show n+(i - n)=i by omega] at this
  exact Or.inr this
 ·exact Or.inl fun j hj=>hrest _ (by omega)
theorem sa.Gm.keys {mark:ByteArray} {cs cs':Array Value} {n m:Nat} (hin:∀ i,i < m→cs'[n+i]?=some (.string mark)) (hrest:∀ q,q < n ∨ n+m≤q→cs'[q]?=cs[q]?):sa.Gm 9 mark cs cs':=by
 refine ⟨fun h=>absurd h (by decide),fun _ i => ?_⟩
 by_cases h:n≤i∧i < n+m
 ·have:=hin (i - n) (by omega)
  rw [show n+(i - n)=i by omega] at this
  exact Or.inr this
 ·exact Or.inl (hrest _ (by omega))
theorem sa.runV {Y:Nat→Prop} {mark:ByteArray} {w W:World} {v:Value} {n B cap:Nat} (ty:TypeId) (hYl:∀ k,Y k→k < w.heap.size) (hS:sa.SimW Y mark w W) (hr:sa.Row W 34 5 Y v n) (hb:n≤1759218604390) (hblk:W.heap[B]?=some (.cells (sa.mkV ++ sa.mkV ++ sa.mkV ++ sa.mkV).toArray 34 (0,0))) :
  ∃ b c cs W1,(Builtin.append_ #[31,31] ty #[v,.slice (some ⟨B,0,none⟩) 4 cap]).run Try.prog W=.ok (.slice (some ⟨b,0,none⟩) (n+4) c) W1∧W1.heap[b]?=some (.cells cs 34 (0,0))∧5≤cs.size∧(Y b ∨ W.heap.size≤b)∧sa.SimW Y mark w W1∧(∀ k,k < W.heap.size→k ≠ b→W1.heap[k]?=W.heap[k]?)∧(∀ c0 t f,W.heap[b]?=some (.cells c0 t f)→t=34):=by
 have hl:(sa.mkV ++ sa.mkV ++ sa.mkV ++ sa.mkV).length=4 * 5:=rfl
 obtain ⟨b,c,cs,v1,W1,hrun,rfl,hh,hle,hcs,hor⟩:=sa.run_row (P:=Try.prog) (W:=W) 31 ty 34 5 80 (.agg #[(.int .i64 0),(.int .i64 0),(.string ⟨#[]⟩),(.slice none 0 0),(.slice none 0 0)]) Try.underlying31 (by kernel_rfl) rfl (by decide) (m:=4) (by decide) (sa.mkV ++ sa.mkV ++ sa.mkV ++ sa.mkV) hl (fun u hu=>by
  simp only [sa.mkV,List.mem_append,List.mem_cons,List.not_mem_nil,or_false] at hu
  rcases hu with ((h | h) | h) | h <;> rcases h with rfl | rfl | rfl | rfl | rfl <;> rfl) hr (by omega) (by simp only [maxLen];omega) ⟨B,0,none⟩ cap (fun j u hj=>by rw [Addr.add_lit,Nat.zero_add];exact sa.cell_of hblk (by simpa using hj))
 refine ⟨b,c,cs,W1,hrun,hh,by omega, ?_⟩
 rcases hor with ⟨cs0,hZ,hb0,hsz,hin,hrest,hg⟩ | ⟨hge,hg⟩
 ·refine ⟨Or.inl hZ,hS.over hYl (Or.inl hZ) hb0 hh hsz (sa.Gm.vals (n:=n) (m:=4) (fun i hi => ?_) (fun q hq=>hrest q (by omega))) hg,fun k hk hn=>hg.block k hk (fun e=>hn (Option.some.inj e)),fun c0 t f h=>by rw [hb0] at h;injection h with h;injection h with _ h _;exact h.symm⟩
  have g:∀ j,j < 5→cs[(n+i) * 5+j]?=sa.mkV[j]?:=fun j hj=>by
   rw [show (n+i) * 5+j=n * 5+(i * 5+j) by omega,hin _ (by omega)]
   obtain rfl | rfl | rfl | rfl:i=0 ∨ i=1 ∨ i=2 ∨ i=3:=by omega
   all_goals (obtain rfl | rfl | rfl | rfl | rfl:j=0 ∨ j=1 ∨ j=2 ∨ j=3 ∨ j=4:=by omega) <;> rfl
  exact ⟨g 0 (by omega),g 1 (by omega),g 2 (by omega),g 3 (by omega),g 4 (by omega)⟩
 ·exact ⟨Or.inr hge,hS.grown hg (fun k e=>by cases e),fun k hk _=>hg.block k hk (by simp),fun c0 t f h=>by have:=qAe h;omega⟩
theorem sa.runK {Y:Nat→Prop} {mark:ByteArray} {w W:World} {v:Value} {n B cap:Nat} (ty:TypeId) (hYl:∀ k,Y k→k < w.heap.size) (hS:sa.SimW Y mark w W) (hr:sa.Row W 9 1 Y v n) (hb:n≤8796093021952) (hblk:W.heap[B]?=some (.cells #[.string mark,.string mark,.string mark,.string mark] 9 (0,0))) :
  ∃ b c cs W1,(Builtin.append_ #[32,32] ty #[v,.slice (some ⟨B,0,none⟩) 4 cap]).run Try.prog W=.ok (.slice (some ⟨b,0,none⟩) (n+4) c) W1∧W1.heap[b]?=some (.cells cs 9 (0,0))∧1≤cs.size∧(Y b ∨ W.heap.size≤b)∧sa.SimW Y mark w W1∧(∀ k,k < W.heap.size→k ≠ b→W1.heap[k]?=W.heap[k]?)∧(∀ c0 t f,W.heap[b]?=some (.cells c0 t f)→t=9):=by
 obtain ⟨b,c,cs,v1,W1,hrun,rfl,hh,hle,hcs,hor⟩:=sa.run_row (P:=Try.prog) (W:=W) 32 ty 9 1 16 (.string ⟨#[]⟩) Try.underlying32 (by kernel_rfl) rfl (by decide) (m:=4) (by decide) [.string mark,.string mark,.string mark,.string mark] rfl (fun u hu=>by
  simp only [List.mem_cons,List.not_mem_nil,or_false] at hu
  rcases hu with rfl | rfl | rfl | rfl <;> rfl) hr (by omega) (by simp only [maxLen];omega) ⟨B,0,none⟩ cap (fun j u hj=>by rw [Addr.add_lit,Nat.zero_add];exact sa.cell_of hblk (by simpa using hj))
 refine ⟨b,c,cs,W1,hrun,hh,by omega, ?_⟩
 rcases hor with ⟨cs0,hZ,hb0,hsz,hin,hrest,hg⟩ | ⟨hge,hg⟩
 ·refine ⟨Or.inl hZ,hS.over hYl (Or.inl hZ) hb0 hh hsz (sa.Gm.keys (n:=n) (m:=4) (fun i hi => ?_) (fun q hq=>hrest q (by omega))) hg,fun k hk hn=>hg.block k hk (fun e=>hn (Option.some.inj e)),fun c0 t f h=>by rw [hb0] at h;injection h with h;injection h with _ h _;exact h.symm⟩
  have:=hin i (by omega)
  rw [Nat.mul_one] at this
  rw [this]
  obtain rfl | rfl | rfl | rfl:i=0 ∨ i=1 ∨ i=2 ∨ i=3:=by omega
  all_goals rfl
 ·exact ⟨Or.inr hge,hS.grown hg (fun k e=>by cases e),fun k hk _=>hg.block k hk (by simp),fun c0 t f h=>by have:=qAe h;omega⟩
theorem sa.KRow.elemS {w:World} {Y:Nat→Prop} {n c:Nat} {A:Option Addr} {ks:List ByteArray} (h:sa.KRow w Y (.slice A n c) ks) {j:Nat} (hj:j < n) (hn:ks.length=n):∃ b cs k,A=some ⟨b,0,none⟩∧Y b∧w.heap[b]?=some (.cells cs 9 (0,0))∧cs[j]?=some (.string k):=by
 rcases h with ⟨_,rfl⟩ | ⟨b,c',cs,e,hy,hh,hl,hsz,hm,hc⟩
 ·simp at hn;omega
 ·injection e with e1 e2 e3
  exact ⟨b,cs,_,e1,hy,hh,hc j _ (List.getElem?_eq_getElem (by omega))⟩
theorem sa.mark52 (w:World):Calls Try.prog 34 #[] w fun e w'=>e=.returned (.agg #[.int .i64 2,.int .i64 77,.string ⟨#[]⟩,.slice none 0 0,.slice none 0 0])∧Below w.heap.size w w':=by
 have hu25:=Try.underlying34
 go_enter Try.func34,Try.ntmps34
 go_wp2
 refine bodyPost_ret (v:=.agg #[.int .i64 2,.int .i64 77,.string ⟨#[]⟩,.slice none 0 0,.slice none 0 0]) (by simp [results,Try.results34,go_sem]) rfl ⟨rfl, ?_⟩
 exact qAE (Below.refl _ _) _
end
end Go.Proofs.Ytdommiicjpjfpaa.X
