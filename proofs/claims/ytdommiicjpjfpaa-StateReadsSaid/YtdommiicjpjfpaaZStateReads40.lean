import Derived.Test.YtdommiicjpjfpaaZStateReads3
import Derived.Test.YtdommiicjpjfpaaZStateReads2
import Derived.WalkLawsBesides
import Derived.Laws.Pointers
import Derived.Shelf.Abstract
import Derived.Deep.DeepMust
import Derived.Deep.QuietTactic
import Derived.BigQuiet
import Derived.ChangeArms
import Derived.Test.YtdommiicjpjfpaaZStateReads36
import Derived.Test.YtdommiicjpjfpaaZStateReads39
import Derived.Laws.Rows
import Derived.Test.YtdommiicjpjfpaaZStateReads31
import Derived.Test.YtdommiicjpjfpaaZStateReads28
set_option linter.unusedVariables false
set_option linter.unusedSimpArgs false
namespace Go.Proofs.Ytdommiicjpjfpaa.X
open Go.RowKit Go.Proofs.YtdommiicjpjfpaaW.PrintWords Go.Proofs.YtdommiicjpjfpaaW.PrintLast Go.Proofs.YtdommiicjpjfpaaW.PrintMore Go.Proofs.YtdommiicjpjfpaaW
section
set_option maxHeartbeats 4000000
set_option maxRecDepth 100000
open Go.Proofs.Ytdommiicjpjfpaa Go.Proofs.Ytdommiicjpjfpaa.Pl
theorem sa.ke_stays {w w1:World} {base:Nat} {ok:Nat→Prop} {v:Value} {xs:List S51} (h:sa.ke.R 51 w base ok v xs) (hm:∀ k,base≤k→k < w.heap.size→w1.heap[k]?=w.heap[k]?):∃ ok',sa.ke.R 51 w1 base ok' v xs :=
 ⟨_,Kd.R_step (Kd.qBd h) (fun k ho hk=>hm k ho.2.1 hk)⟩
theorem sa.SpL.up {w W:World} {Y:Nat→Prop} {b n:Nat} (h:sa.SpL w w Y b n) (hbz:b < w.heap.size) (hb:Below w.heap.size w W):sa.SpL W W Y b n:=by
 obtain ⟨cs,h1,h2,h3⟩:=h.row
 refine ⟨rfl,rfl,rfl,Nat.le_refl _,fun _ _ _ _=>rfl,cs,(hb.block b hbz).trans h1,h2,fun i hi => ?_⟩
 obtain ⟨k,x,u3,u4,g,e⟩:=h3 i hi
 exact ⟨k,x,u3,u4,g,e.move (fun k _ hlt=>hb.block k hlt)⟩
structure sa.Fr7 (m h:Nat) (W w':World):Prop where
 os:w'.os=W.os
 tape:w'.tape=W.tape
 output:w'.output=W.output
 size:W.heap.size≤w'.heap.size
 out:∀ k,k < W.heap.size→(k < m ∨ h≤k)→w'.heap[k]?=W.heap[k]?
theorem sa.Fr7.low {m h p:Nat} {W w':World} (f:sa.Fr7 m h W w') (hp:p≤m) (hs:p≤W.heap.size):Below p W w':=⟨f.os,f.tape,f.output,f.size,fun k hk=>f.out k (by omega) (Or.inl (by omega))⟩
theorem sa.Fr7.mid {m h p:Nat} {ok:Nat→Prop} {v:Value} {xs:List S51} {w W w':World} (f:sa.Fr7 m h W w') (r:sa.ke.R 51 w p ok v xs) (hp:h≤p) (hb:Below w.heap.size w W):∃ ok',sa.ke.R 51 w' p ok' v xs :=
 sa.ke_stays r (fun k h1 h2=>(f.out k (Nat.lt_of_lt_of_le h2 hb.size) (Or.inr (Nat.le_trans hp h1))).trans (hb.block k h2))
theorem sa.spoil_any {w:World} {base:Nat} {ok:Nat→Prop} {v:Value} {xs:List S51} (h:sa.ke.R 51 w base ok v xs) (hs:∀ x ∈ xs,sa.sm 8 x.f1) (hl:xs.length≤1000) :
  ∃ A c,v=.slice A xs.length c∧xs.length≤c∧k51.C w A xs.length xs∧∀ W,Below w.heap.size w W→Calls Try.prog 20 #[.slice A xs.length c] W (fun e w'=>e=.returned (.tuple #[])∧sa.Fr7 base w.heap.size W w'):=by
 obtain ⟨A,c,rfl⟩:=Kd.qA0 h
 refine ⟨A,c,rfl,(Kd.R_reads' h).2.1,sa.ke_C (Kd.R_reads' h).2.2,fun W hW => ?_⟩
 rcases sa.ke_open h hs with ⟨A',c',e⟩ | ⟨b,cap,e,h1,h2,h3⟩
 ·injection e with _ e2 _
  rw [e2]
  refine (sa.spoil20n W A c).mono ?_
  rintro e w' ⟨rfl,rfl⟩
  exact ⟨rfl,rfl,rfl,rfl,Nat.le_refl _,fun _ _ _=>rfl⟩
 ·injection e with e1 e2 e3
  subst e1
  refine (sa.spoil20 (w:=W) (Y:=fun k=>base≤k∧k < w.heap.size∧k ≠ b) (b:=b) (n:=xs.length) (cap:=c) (fun k hk=>Nat.lt_of_lt_of_le hk.2.1 hW.size) (fun hk=>hk.2.2 rfl) hl (h3.up h2 hW)).mono ?_
  rintro e w' ⟨rfl,q⟩
  refine ⟨rfl,q.os,q.tape,q.output,q.size,fun k hk hm=>q.out k hk (fun hy => ?_) (fun hy => ?_)⟩
  ·have:=hy.1;have:=hy.2.1;omega
  ·omega
theorem sa.pad8 {bs:List Int} {n:Nat} (hn:bs.length=n) {y:List Int} (hy:bs.take (min bs.length (List.replicate (n+8) (0:Int)).length) ++ (List.replicate (n+8) 0).drop (min bs.length (List.replicate (n+8) (0:Int)).length)=y):y.length=n+8∧y.take n=bs∧(∀ j:Nat,j < n+8→rd y (j:Int)=if j < n then rd bs (j:Int) else 0):=by
 rw [List.length_replicate,hn,Nat.min_eq_left (by omega)] at hy
 have e1:bs.take n=bs:=by rw [← hn];exact List.take_length
 rw [e1] at hy
 subst hy
 have e2:(List.drop n (List.replicate (n+8) (0:Int))).length=8:=by rw [List.length_drop,List.length_replicate];omega
 refine ⟨by rw [List.length_append,e2,hn],by rw [← hn,List.take_left'] ;rfl,fun j hj => ?_⟩
 unfold rd
 rw [Int.toNat_natCast,List.getD_eq_getElem?_getD,List.getD_eq_getElem?_getD]
 by_cases h:j < n
 ·rw [if_pos h,List.getElem?_append_left (by omega)]
 ·rw [if_neg h,List.getElem?_append_right (by omega),List.getElem?_drop,List.getElem?_replicate]
  rw [if_pos (by omega)]
  rfl
set_option maxHeartbeats 16000000 in
theorem sa.reads6 {bs:List Int} (hb:Bytes bs) (hl:bs.length≤140737488351232) {w:World} {A:Option Addr} {c:Nat} (hC:(Kd.int .u8).C w A bs.length bs) (hc:bs.length≤c) :
  Calls Try.prog 6 #[.slice A bs.length c] w fun e w'=>e=.returned (.bool true)∧Below w.heap.size w w':=by
 have HC:=zA hC
 have HLL:=zA hl
 obtain ⟨cc,pp,l,hd⟩:∃ cc pp l,sa.decF bs=(cc,pp,l):=⟨_,_,_,rfl⟩
 have hgood:(∀ x ∈ l,Val x.f1∧Siz x.f1)∧(∀ x ∈ l,sa.sm 8 x.f1)∧l.length≤128:=by
  by_cases hz:cc=0
  ·subst hz
   obtain ⟨hrs,hvs,_,_⟩:=sa.decF_sound hb hl hd
   exact ⟨hvs,fun x hx=>sa.sm_of 8 x.f1 (hvs x hx).1 (hrs.1 x hx).1.1 (hrs.1 x hx).1.2,hrs.2.2.2⟩
  ·obtain ⟨rfl,_,_⟩:=sa.decF_bad hb hl hd hz
   exact ⟨fun x hx=>(by cases hx),fun x hx=>(by cases hx),Nat.zero_le _⟩
 have DC:=zA (fun (W:World) (A2:Option Addr) (c2:Nat) (q:(Kd.int .u8).C W A2 bs.length bs) (qc:bs.length≤c2)=>sa.dec22 hb hl q qc)
 have RC:=zA (fun (W:World) (hW:Below w.heap.size w W)=>sa.dec23 hb hl (Kd.qAc hC hW) hc)
 rw [hd] at DC RC
 dsimp only at DC RC
 obtain ⟨t,⟨K,hK⟩,ht⟩:=ent_ev l l (by have:=hgood.2.2;omega) hgood.1 (fun x hx=>(hgood.1 x hx).1)
 obtain rfl:t=true:=ht.2 rfl
 have EC:=zA (fun (W:World) (A2:Option Addr) (c2:Nat) (A3:Option Addr) (c3:Nat) (q:k51.C W A2 l.length l) (qc:l.length≤c2) (q2:k51.C W A3 l.length l) (qc2:l.length≤c3)=>qAM.calls K A2 c2 l A3 c3 l true W q qc q2 qc2 (hK K (Nat.le_refl _)))
 have SPL:=zA (fun (W:World) (base:Nat) (ok:Nat→Prop) (v:Value) (q:sa.ke.R 51 W base ok v l)=>sa.spoil_any q hgood.2.1 (by have:=hgood.2.2;omega))
 have CB:=zA hc
 clear hd hgood hK ht hb hC hc
 obtain ⟨n,hn⟩:∃ n,bs.length=n:=⟨_,rfl⟩
 have HN:=zA hn
 rw [hn] at hl HC HLL DC RC CB ⊢
 have HS0:=zA (show wrap64 ((n:Int)+8)=(n:Int)+8 by unfold wrap64;omega)
 obtain ⟨i0,hi0,_⟩:=info_parts info5
 have HCT:=zA (fun (A:Option Addr) (c2:Nat) (h:n+8≤c2)=>cut_to (P:=Try.prog) 44 5 .i64 Try.underlying44 hi0 A (n+8) c2 (n:Int) (by omega) (by omega) h)
 clear hl hn hi0
 have tk1:=zA True.intro
 have tk2:=zA True.intro
 go_enter Try.func6,Try.ntmps6
 go_wp2_with (first | (go_at_call 9;refine (sa.shown9 _).mono ?_;rintro e_ w2 ⟨rfl,hb⟩;have B1:=zA hb;clear hb) | ((with_reducible refine qAl (N:=20) rfl ?_);refine XWords.R_make_c (Kd.int .u8) (w0:=w2) w2.heap.size 5 rfl (N:=20) rfl 44 _ _ rfl (wrap64 ((n:Int)+8)) (wrap64 ((n:Int)+8)) rfl rfl Try.underlying44 (.int .u8 0) 1 info5 rfl (by decide) (by omega) 0 (ok:=fun _=>True) (okp:=fun _=>True) rfl (fun _ hk=>hk) trivial (by rw [HS0.out];omega) (Int.le_refl _) (by rw [HS0.out];have:=HLL.out;omega) (Below.refl _ _) (Nat.le_refl _) ?_;intro v1 w1 ho hb hg_ hnew_;clear hg_ hnew_;rw [HS0.out,show ((n:Int)+8).toNat=n+8 by omega] at ho;have HO1:=zA ho;have HB1:=zA hb;clear ho hb) | ((with_reducible refine qBh (b:=.copy) (xs:=#[.tmp 21,.tmp 22]) rfl ?_);refine XWords.R_copy_row (enc:=(Value.int .u8)) (h1:=fun _=>rfl) 0 (w0:=w2) w2.heap.size rfl (.tmp 21) (.tmp 22) 44 44 5 rfl Try.underlying44 (by kernel_rfl) v1 (List.replicate (n+8) 0) bs A n c (fun _=>True) rfl rfl HO1.out (Kd.qAc (Kd.qAc HC.out B1.out) HB1.out) HB1.out (fun _ _=>trivial) HB1.out.size (by omega) ?_;intro w3 ho hb hg hat;have HO2:=zA ho;have HB2:=zA hb;clear ho hb hg hat;obtain ⟨y,hy⟩:∃ y,bs.take (min bs.length (List.replicate (n+8) (0:Int)).length) ++ (List.replicate (n+8) 0).drop (min bs.length (List.replicate (n+8) (0:Int)).length)=y:=⟨_,rfl⟩;have hye:=sa.pad8 HN.out hy;rw [hy] at HO2;clear hy;obtain ⟨g,cap,hv,_,_,_⟩:=Kd.R_form HO2.out (by omega);rw [hye.1] at hv;subst hv;have HCAP:=zA (show n+8≤cap from (Kd.R_reads' HO2.out).2.1);have HRD:=zA hye.2.2;have hct:=HCT.out (some ⟨g,0,none⟩) cap HCAP.out;rw [Int.toNat_natCast] at hct;have hyc:=(Kd.R_reads' HO2.out).2.2;have hbc:=Kd.C_take hyc (m:=n) (by omega);rw [hye.2.1,HN.out] at hbc;rw [hye.1] at hyc;obtain ⟨ad,had⟩:∃ ad,ad=(⟨g,0,none⟩:Addr):=⟨_,rfl⟩;rw [← had] at hct hyc hbc ⊢;have INC:=zA (fun (W:World) (hW:Below w3.heap.size w3 W)=>Kd.qAc hbc hW);have INY:=zA (fun (W:World) (hW:Below w3.heap.size w3 W)=>Kd.qAc hyc hW);have W3:=zA (qAO B1.out HB2.out);have AC:=zA (fun (W:World) (hW:Below w3.heap.size w3 W)=>Kd.qAc HC.out (qAO W3.out hW));clear hye hyc hbc had HO2 HO1 HB1 HB2 HCT) | (go_at_call 22;clear tk1;refine (DC.out _ (some ad) cap (INC.out _ (Below.refl _ _)) (by have:=HCAP.out;omega)).mono ?_;rintro e_ w4 ⟨hb4,v4,rfl,r4⟩;obtain ⟨A4,c4,e4,l4,k4,sp4⟩:=SPL.out _ _ _ _ r4;subst e4;have B4:=zA hb4;have L4:=zA l4;have K4:=zA k4;have SP4:=zA sp4;clear hb4 r4 l4 k4 sp4) | (go_at_call 23;refine (RC.out _ (qAO W3.out B4.out)).mono ?_;rintro e_ w5 ⟨hb5,v5,rfl,r5⟩;obtain ⟨A5,c5,e5⟩:=Kd.qA0 r5;subst e5;have R5:=zA r5;have B5:=zA (qAO B4.out hb5);have C5:=zA hb5;clear hb5 r5) | (go_at_call 19;clear tk2;refine (EC.out _ A4 c4 A5 c5 (Kd.qAc K4.out C5.out) L4.out (sa.ke_C (Kd.R_reads' R5.out).2.2) (Kd.R_reads' R5.out).2.1).mono ?_;rintro e_ w6 ⟨rfl,hb6⟩;have B6:=zA (qAO B5.out hb6);have C6:=zA (qAO C5.out hb6);have D6:=zA hb6;clear hb6) | (go_at_call 20;refine (SP4.out _ C6.out).mono ?_;rintro e_ w7 ⟨rfl,f7⟩;have B7:=zA (B6.out.trans (f7.low (Nat.le_refl _) B6.out.size));obtain ⟨ok7,r7⟩:=f7.mid R5.out (Nat.le_refl _) D6.out;have R7:=zA r7;clear f7 r7) | (go_at_call 22;refine (DC.out _ (some ad) cap (INC.out _ B7.out) (by have:=HCAP.out;omega)).mono ?_;rintro e_ w8 ⟨hb8,v8,rfl,r8⟩;obtain ⟨A8,c8,e8⟩:=Kd.qA0 r8;subst e8;have B8:=zA (qAO B7.out hb8);have K8:=zA (sa.ke_C (Kd.R_reads' r8).2.2);have L8:=zA (Kd.R_reads' r8).2.1;have K7:=zA (Kd.qAc (sa.ke_C (Kd.R_reads' R7.out).2.2) hb8);have L7:=zA (Kd.R_reads' R7.out).2.1;clear hb8 r8))
 go_loopw [15] (fun v15 wr=>∃ j:Nat,v15=.int .i64 (j:Int)∧qAA (j≤n+8)∧qAA (Below w8.heap.size w8 wr)) (fun v15 _=>(n+8) - (intOf v15).toNat)
 case atStart=>exact ⟨0,rfl,⟨Nat.zero_le _⟩,⟨Below.refl _ _⟩⟩
 case round =>
  obtain ⟨j,rfl,HJ0,HW⟩:=hrel
  have HWL:=zA (qAO B8.out HW.out)
  by_cases hlt:j < n+8
  ·have i1:decide ((j:Int) < ((n+8:Nat):Int))=true:=zT (by omega)
   have i1b:decide ((j:Int) < (n:Int)+8)=true:=zT (by omega)
   have i2:decide (j < n+8)=true:=zT hlt
   have i3:(j < n+8)=True:=eq_true hlt
   have t3:(j:Int) < ((n+8:Nat):Int):=by omega
   have t3b:(j:Int) < (n:Int)+8:=by omega
   have HWR:=zA (show wrap64 ((j:Int)+1)=(j:Int)+1 by have:=HLL.out;unfold wrap64;omega)
   have HM:=zA (sa.meas j (n+8) hlt HWR.out)
   have HJ:=zA (show j+1≤n+8 by omega)
   obtain ⟨ad1,ea,hz⟩:=Kd.qBQ (INY.out _ HWL.out) (j:Int) (by omega) (by omega)
   have ea2:=Option.some.inj ea
   rw [← ea2,Int.toNat_natCast,HRD.out j hlt] at hz
   clear ea ea2
   by_cases hjn:j < n
   ·rw [if_pos hjn] at hz
    obtain ⟨ad2,ea,hz2⟩:=Kd.qBQ (AC.out _ HWL.out) (j:Int) (by omega) (by omega)
    rw [Int.toNat_natCast] at hz2
    subst ea
    have q1:decide ((j:Int) < (n:Int))=true:=zT (by omega)
    have q2:decide (j < n)=true:=zT hjn
    have q3:(j < n)=True:=eq_true hjn
    have q4:decide ((j:Int) ≥ (n:Int))=false:=zF (by omega)
    have q5:decide ((n:Int)≤(j:Int))=false:=zF (by omega)
    have q6:decide (n≤j)=false:=zF (by omega)
    have q7:(j:Int) < (n:Int):=by omega
    generalize rd bs (j:Int)=xx at hz hz2
    clear hlt hjn
    go_wp2
    go_quiet (fail)
    go_wp2
    go_roundw
    case rel=>exact ⟨j+1,by rw [HWR.out];rfl,HJ,⟨qAD HW.out _⟩⟩
    case measure=>exact HM.out
   ·rw [if_neg hjn] at hz
    have q1:decide ((j:Int) < (n:Int))=false:=zF (by omega)
    have q2:decide (j < n)=false:=zF hjn
    have q3:(j < n)=False:=eq_false hjn
    have q4:decide ((j:Int) ≥ (n:Int))=true:=zT (by omega)
    have q5:decide ((n:Int)≤(j:Int))=true:=zT (by omega)
    have q6:decide (n≤j)=true:=zT (by omega)
    clear hlt hjn
    go_wp2
    go_quiet (fail)
    go_wp2
    go_roundw
    case rel=>exact ⟨j+1,by rw [HWR.out];rfl,HJ,⟨qAD HW.out _⟩⟩
    case measure=>exact HM.out
  ·have i1:decide ((j:Int) < ((n+8:Nat):Int))=false:=zF (by omega)
   have i1b:decide ((j:Int) < (n:Int)+8)=false:=zF (by omega)
   have i2:decide (j < n+8)=false:=zF hlt
   have i3:(j < n+8)=False:=eq_false hlt
   clear hlt
   go_wp2_with (first | (go_at_call 19;refine (EC.out _ A8 c8 A5 c5 (Kd.qAc K8.out HW.out) L8.out (Kd.qAc K7.out HW.out) L7.out).mono ?_;rintro e_ w9 ⟨rfl,hb9⟩;have B9:=zA (qAO HWL.out hb9);clear hb9))
   go_ret
   exact ⟨rfl,qAO W3.out B9.out⟩
end
section
set_option maxHeartbeats 4000000
set_option maxRecDepth 100000
open Go.ChangeShapes Go.WideShapes Go.ChangeAt Go.RowKit
theorem el_int {H:Type} {enc:TypeId × Value→H} {P:Program} {w:World} {held:Bool} {spare:Nat→Bool} {k:IntKind} {e:TypeId} (he:P.underlying e=some (.int k)):∀ n cs (y:DataW H × List MemPlace),DataW.trod enc P w 0 spare held n e cs=some y→∃ x,(Kd.int k).K w x cs∧(Lit.int k x).wf=true:=fun n cs y hy=>by
 obtain ⟨s,q,_,z⟩:=DataW.trod_int he hy
 exact ⟨s,q,z⟩
section
variable {H:Type} {enc:TypeId × Value→H} {w:World} {held:Bool} {spare:Nat→Bool}
end
end
end Go.Proofs.Ytdommiicjpjfpaa.X
