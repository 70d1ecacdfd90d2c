import Derived.Test.YtdommiicjpjfpaaZStateReads3
import Derived.Test.YtdommiicjpjfpaaZStateReads2
import Derived.WalkLawsBesides
import Derived.Laws.Pointers
import Derived.Shelf.Abstract
import Derived.Deep.DeepMust
import Derived.Deep.QuietTactic
import Derived.BigQuiet
import Derived.ChangeArms
import Derived.Lib.SlBytesConst
import Derived.Test.YtdommiicjpjfpaaZStateReads34
import Derived.Test.YtdommiicjpjfpaaZStateReads22
import Derived.Test.YtdommiicjpjfpaaZStateReads31
import Derived.Laws.Rows
import Derived.Test.YtdommiicjpjfpaaZStateReads35
import Derived.Test.YtdommiicjpjfpaaZStateReads4
set_option linter.unusedVariables false
set_option linter.unusedSimpArgs false
namespace Go.Proofs.Ytdommiicjpjfpaa.X
open Go.RowKit Go.Proofs.YtdommiicjpjfpaaW.PrintWords Go.Proofs.YtdommiicjpjfpaaW.PrintLast Go.Proofs.YtdommiicjpjfpaaW.PrintMore Go.Proofs.YtdommiicjpjfpaaW
section
set_option maxHeartbeats 4000000
set_option maxRecDepth 100000
open Go.Proofs.Ytdommiicjpjfpaa Go.Proofs.Ytdommiicjpjfpaa.Pl
def sa.Ri (x:S51):Prop:=sa.Rt x.f1∧x.f0.toList ≠ []∧(x.f0.size:Int)≤32
def sa.Up (l:List S51):Prop:=∀ i,i+1 < l.length→Op.bytesLess (qAJ l (i:Int)).f0.toList (qAJ l ((i:Int)+1)).f0.toList=true
def sa.hvs:List S51→Int
 | []=>0
 | x :: l=>sa.hv x+sa.hvs l
def sa.RS (l:List S51):Prop:=(∀ x ∈ l,sa.Ri x)∧sa.Up l∧sa.hvs l≤32768∧l.length≤128
theorem sa.hv_pos (x:S51):0 < sa.hv x:=by unfold sa.hv;omega
theorem sa.hvs_pos:∀ l:List S51,0≤sa.hvs l
 | []=>Int.le_refl _
 | x :: l=>by
  have:=sa.hvs_pos l
  have:=sa.hv_pos x
  unfold sa.hvs
  omega
theorem sa.hvs_app:∀ (l m:List S51),sa.hvs (l ++ m)=sa.hvs l+sa.hvs m
 | [],m=>by simp [sa.hvs]
 | x :: l,m=>by
  have:=sa.hvs_app l m
  show sa.hv x+sa.hvs (l ++ m)=sa.hv x+sa.hvs l+sa.hvs m
  omega
theorem sa.heavy_all (x:S51) (hv:Val x.f1) (hs:x.f0.size≤140737488351232):(sa.Ri x∧Ev (fun k=>qBF.f k x.f0 x.f1.f0 x.f1.f1 x.f1.f2 x.f1.f3 x.f1.f4) (sa.hv x)) ∨ (¬ sa.Ri x∧Ev (fun k=>qBF.f k x.f0 x.f1.f0 x.f1.f1 x.f1.f2 x.f1.f3 x.f1.f4) 0):=by
 rcases sa.told1 x.f1 hv with ⟨hr,hp,_,hw⟩ | ⟨hn,_,hw⟩
 ·have hw2:=hr.2
  by_cases h0:x.f0.toList=[]
  ·refine Or.inr ⟨fun h=>h.2.1 h0, ?_⟩
   refine Ev.bind hw ?_
   rw [if_neg (by omega),if_pos h0]
   exact Ev.const
  by_cases h1:(x.f0.size:Int) > 32
  ·refine Or.inr ⟨fun h=>by have:=h.2.2;omega, ?_⟩
   refine Ev.bind hw ?_
   rw [if_neg (by omega),if_neg h0,if_pos h1]
   exact Ev.const
  ·refine Or.inl ⟨⟨hr,h0,by omega⟩, ?_⟩
   refine Ev.bind hw ?_
   rw [if_neg (by omega),if_neg h0,if_neg h1]
   have e:wrap64 (wrap64 (1+(x.f0.size:Int))+(wt x.f1:Int))=sa.hv x:=by unfold sa.hv wrap64;omega
   rw [e]
   exact Ev.const
 ·refine Or.inr ⟨fun h=>hn h.1, ?_⟩
  refine Ev.bind hw ?_
  rw [if_pos rfl]
  exact Ev.const
theorem sa.rd_take (l:List S51) (i:Nat) (hi:i < l.length):l.take (i+1)=l.take i ++ [qAJ l (i:Int)]:=by
 have e:qAJ l (i:Int)=l[i]:=by
  unfold qAJ
  rw [Int.toNat_natCast,List.getD_eq_getElem?_getD,List.getElem?_eq_getElem hi]
  rfl
 rw [List.take_add_one,List.getElem?_eq_getElem hi,e]
 rfl
theorem sa.rd_mem (l:List S51) (i:Nat) (hi:i < l.length):qAJ l (i:Int) ∈ l:=by
 have e:qAJ l (i:Int)=l[i]:=by
  unfold qAJ
  rw [Int.toNat_natCast,List.getD_eq_getElem?_getD,List.getElem?_eq_getElem hi]
  rfl
 rw [e]
 exact List.getElem_mem hi
theorem sa.hvs_take (l:List S51) (i:Nat):sa.hvs (l.take i)≤sa.hvs l:=by
 have h:=sa.hvs_app (l.take i) (l.drop i)
 rw [List.take_append_drop] at h
 have:=sa.hvs_pos (l.drop i)
 omega
theorem sa.right_ev (l:List S51) (hv:∀ x ∈ l,Val x.f1∧x.f0.size≤140737488351232) (hl:l.length≤9223372036854775000):∃ b,Ev (fun k=>qAi.f k l) b∧(b=true ↔ sa.RS l):=by
 have main:∀ (d i:Nat),i+d=l.length→(∀ x ∈ l.take i,sa.Ri x)→(∀ j,j+1 < i→Op.bytesLess (qAJ l (j:Int)).f0.toList (qAJ l ((j:Int)+1)).f0.toList=true)→sa.hvs (l.take i)≤32768→∃ b,Ev (fun k=>qAi.l0 k l (sa.hvs (l.take i)) l (l.length:Int) (i:Int)) b∧(b=true ↔ sa.RS l):=by
  intro d
  induction d with
  | zero =>
   intro i hi hR hU hw
   refine ⟨decide ((l.length:Int)≤128),Ev.step Ev.const (fun k=>by rw [qAi.l0,if_neg (by omega)]), ?_⟩
   rw [List.take_of_length_le (by omega)] at hR hw
   rw [decide_eq_true_iff]
   exact ⟨fun h=>⟨hR,fun j hj=>hU j (by omega),hw,by omega⟩,fun h=>by have:=h.2.2.2;omega⟩
  | succ d ih =>
   intro i hi hR hU hw
   have hil:i < l.length:=by omega
   have hx:=sa.rd_mem l i hil
   have ht:=sa.rd_take l i hil
   have hno:∀ (a b:Int),Ev (fun k=>qAi.j1 k l a b l (l.length:Int) (i:Int) true) false:=fun a b=>Ev.step Ev.const (fun k=>by rw [qAi.j1,if_pos rfl])
   have hstep:∀ (F:Nat→Int→Option Bool) (b:Bool) (v:Int),(∀ k t,F k t=if t=0 then qAi.j1 k l (sa.hvs (l.take i)) t l (l.length:Int) (i:Int) true else if (i:Int) > 0 then (if 0≤wrap64 ((i:Int) - 1) then (if wrap64 ((i:Int) - 1) < (l.length:Int) then qAi.j1 k l (sa.hvs (l.take i)) t l (l.length:Int) (i:Int) (!(Op.bytesLess ((qAJ l (wrap64 ((i:Int) - 1))).f0).toList ((qAJ l (i:Int)).f0).toList)) else none) else none) else qAi.j1 k l (sa.hvs (l.take i)) t l (l.length:Int) (i:Int) false) →
     Ev (fun k=>qBF.f k ((qAJ l (i:Int)).f0) ((qAJ l (i:Int)).f1.f0) ((qAJ l (i:Int)).f1.f1) ((qAJ l (i:Int)).f1.f2) ((qAJ l (i:Int)).f1.f3) ((qAJ l (i:Int)).f1.f4)) v→Ev (fun k=>F k v) b→Ev (fun k=>qAi.l0 k l (sa.hvs (l.take i)) l (l.length:Int) (i:Int)) b:=fun F b v hF h1 h2 =>
    Ev.step (Ev.bind (F:=F) h1 h2) (fun k=>by
     rw [qAi.l0,if_pos (by omega),if_pos (by omega),if_pos (by omega)]
     congr 1
     funext t
     rw [hF])
   have hgo:∀ (b:Bool),Ev (fun k=>qAi.l0 k l (sa.hvs (l.take (i+1))) l (l.length:Int) ((i+1:Nat):Int)) b→sa.hvs (l.take (i+1))≤32768→Ev (fun k=>qAi.j1 k l (sa.hvs (l.take i)) (sa.hv (qAJ l (i:Int))) l (l.length:Int) (i:Int) false) b:=fun b h hle=>by
    have e:sa.hvs (l.take (i+1))=sa.hvs (l.take i)+sa.hv (qAJ l (i:Int)):=by rw [ht,sa.hvs_app];simp [sa.hvs]
    have h0:=sa.hvs_pos (l.take i)
    have h1:=sa.hv_pos (qAJ l (i:Int))
    have hw1:wrap64 (sa.hvs (l.take i)+sa.hv (qAJ l (i:Int)))=sa.hvs (l.take (i+1)):=by unfold wrap64;omega
    have hw2:wrap64 ((i:Int)+1)=((i+1:Nat):Int):=by unfold wrap64;omega
    refine Ev.step h (fun k => ?_)
    rw [qAi.j1,if_neg (by decide),hw1,if_neg (by omega),hw2]
   have hbig:sa.hvs (l.take (i+1)) > 32768→sa.hv (qAJ l (i:Int))≤4000→Ev (fun k=>qAi.j1 k l (sa.hvs (l.take i)) (sa.hv (qAJ l (i:Int))) l (l.length:Int) (i:Int) false) false:=fun hgt h4=>by
    have e:sa.hvs (l.take (i+1))=sa.hvs (l.take i)+sa.hv (qAJ l (i:Int)):=by rw [ht,sa.hvs_app];simp [sa.hvs]
    have h0:=sa.hvs_pos (l.take i)
    have h1:=sa.hv_pos (qAJ l (i:Int))
    have hw1:wrap64 (sa.hvs (l.take i)+sa.hv (qAJ l (i:Int)))=sa.hvs (l.take (i+1)):=by unfold wrap64;omega
    refine Ev.step (Ev.const (r:=false)) (fun k => ?_)
    rw [qAi.j1,if_neg (by decide),hw1,if_pos hgt]
   rcases sa.heavy_all _ (hv _ hx).1 (hv _ hx).2 with ⟨hri,hh⟩ | ⟨hri,hh⟩
   ·have h4:sa.hv (qAJ l (i:Int))≤4000:=by have:=hri.1.2;have:=hri.2.2;unfold sa.hv;omega
    have h1:=sa.hv_pos (qAJ l (i:Int))
    have hRn:∀ x ∈ l.take (i+1),sa.Ri x:=fun x hx2=>by
     rw [ht] at hx2
     rcases List.mem_append.1 hx2 with hx2 | hx2
     ·exact hR x hx2
     ·rw [show x=_ by simpa using hx2];exact hri
    have hlast:∀ (hUn:∀ j,j+1 < i+1→Op.bytesLess (qAJ l (j:Int)).f0.toList (qAJ l ((j:Int)+1)).f0.toList=true),∃ b,Ev (fun k=>qAi.j1 k l (sa.hvs (l.take i)) (sa.hv (qAJ l (i:Int))) l (l.length:Int) (i:Int) false) b∧(b=true ↔ sa.RS l):=fun hUn=>by
     by_cases hle:sa.hvs (l.take (i+1))≤32768
     ·obtain ⟨b,h,hb⟩:=ih (i+1) (by omega) hRn hUn hle
      exact ⟨b,hgo b h hle,hb⟩
     ·exact ⟨false,hbig (by omega) h4,⟨fun h=>by (cases h),fun h=>by have:=h.2.2.1;have:=sa.hvs_take l (i+1);omega⟩⟩
    rcases Nat.eq_zero_or_pos i with h0 | h0
    ·subst h0
     obtain ⟨b,h,hb⟩:=hlast (fun j hj=>by omega)
     exact ⟨b,hstep _ b _ (fun k t=>rfl) hh (Ev.congr h (fun k=>by rw [if_neg (by omega),if_neg (by omega)])),hb⟩
    ·obtain ⟨p,rfl⟩:∃ p,i=p+1:=⟨i - 1,by omega⟩
     have hwp:wrap64 (((p+1:Nat):Int) - 1)=(p:Int):=by unfold wrap64;omega
     cases hlt:Op.bytesLess (qAJ l (p:Int)).f0.toList (qAJ l ((p+1:Nat):Int)).f0.toList with
     | true =>
      obtain ⟨b,h,hb⟩:=hlast (fun j hj=>by
       by_cases e:j=p
       ·subst e
        rw [show (j:Int)+1=((j+1:Nat):Int) by omega]
        exact hlt
       ·exact hU j (by omega))
      exact ⟨b,hstep _ b _ (fun k t=>rfl) hh (Ev.congr h (fun k=>by rw [if_neg (by omega),if_pos (by omega),hwp,if_pos (by omega),if_pos (by omega),hlt];rfl)),hb⟩
     | false =>
      refine ⟨false,hstep _ false _ (fun k t=>rfl) hh (Ev.congr (hno _ _) (fun k=>by rw [if_neg (by omega),if_pos (by omega),hwp,if_pos (by omega),if_pos (by omega),hlt];rfl)),⟨fun h=>by (cases h),fun h => ?_⟩⟩
      have:=h.2.1 p (by omega)
      rw [show (p:Int)+1=((p+1:Nat):Int) by omega,hlt] at this
      cases this
   ·refine ⟨false,hstep _ false _ (fun k t=>rfl) hh (Ev.congr (hno _ _) (fun k=>by rw [if_pos rfl])),⟨fun h=>by (cases h),fun h=>absurd (h.1 _ hx) hri⟩⟩
 obtain ⟨b,h,hb⟩:=main l.length 0 (by omega) (fun x hx=>by simp at hx) (fun j hj=>by omega) (by simp [sa.hvs])
 exact ⟨b,h,hb⟩
theorem sa.wenc_ev (x:S34) (hv:Val x) (hr:sa.Rt x):Ev (fun k=>qCC.f k x.f0 x.f1 x.f2 x.f3 x.f4) (en x,0):=by
 rcases sa.told1 x hv with ⟨_,_,hR,_⟩ | ⟨hn,_,_⟩
 ·have hlen:=(en_len x hv).1
  have hw:=hr.2
  have hp:=put_ev x hv (sa.okV_frm 8 x hr.1) [] (by simp only [List.length_nil];omega)
  refine Ev.bind (F:=fun k ok=>if ok=true then (qBC.f []).bind fun b=>(qAU.f k b x.f0 x.f1 x.f2 x.f3 x.f4).bind fun r=>some (r,0) else some ([],40)) hR ?_
  refine Ev.congr (h:=fun k=>(qAU.w k [] x.f0 x.f1 x.f2 x.f3 x.f4).bind fun r=>some (r,0)) (Ev.bind (F:=fun k r=>some (r,0)) hp Ev.const) (fun k => ?_)
  rw [if_pos rfl]
  rfl
 ·exact absurd hr hn
def sa.e51 (x:S51):List Int:=X.str x.f0 ++ en x.f1
def sa.enS (l:List S51):List Int:=[83,83,84,49] ++ lst sa.e51 l
def sa.EncS (l:List S51) (w:World) (e:Ending) (w':World):Prop :=
 (¬ sa.RS l∧e=.returned (.tuple #[.slice none 0 0,.int .i64 70])∧Below w.heap.size w w') ∨
 (sa.RS l∧∃ v,e=.returned (.tuple #[v,.int .i64 0])∧(Kd.int .u8).R 5 w' w.heap.size (fun _=>True) v (sa.enS l)∧Below w.heap.size w w')
theorem sa.encS_bad {l:List S51} {w w':World} {e:Ending} (h:¬ sa.RS l) (he:e=.returned (.tuple #[.slice none 0 0,.int .i64 70])) (hb:Below w.heap.size w w'):sa.EncS l w e w':=Or.inl ⟨h,he,hb⟩
theorem sa.encS_ok {l:List S51} {w w':World} {e:Ending} {v:Value} {d:List Int} (h:sa.RS l) (he:e=.returned (.tuple #[v,.int .i64 0])) (hd:d=sa.enS l) (hr:(Kd.int .u8).R 5 w' w.heap.size (fun _=>True) v d) (hb:Below w.heap.size w w'):sa.EncS l w e w':=Or.inr ⟨h,v,he,hd▸hr,hb⟩
theorem sa.magic_row (W:World):(Kd.int .u8).C (W.alloc (.cells #[.int .u8 83,.int .u8 83,.int .u8 84,.int .u8 49] 5 (4,5))) (some ⟨W.heap.size,0,none⟩) 4 [83,83,84,49] :=
 Kd.C_of_reads (enc:=Value.int .u8) (d:=(0:Int)) (h1:=fun _=>rfl) ⟨rfl,by decide,fun _=>⟨_,rfl,fun j hj=>by
  have hj:j < 4:=hj
  rw [add_plain,cell_of_row _ W.heap.size j _ 5 (4,5) (heap_alloc_new W _)]
  obtain rfl | rfl | rfl | rfl:j=0 ∨ j=1 ∨ j=2 ∨ j=3:=by omega
  all_goals rfl⟩⟩
theorem sa.flat_le {α:Type} (c:α→List Int) (m:Nat):∀ (l:List α),(∀ x ∈ l,(c x).length≤m)→((l.map c).flatten).length≤m * l.length
 | [],_=>by simp
 | x :: l,h=>by
  have h1:=sa.flat_le c m l (fun y hy=>h y (List.mem_cons_of_mem _ hy))
  have h2:=h x List.mem_cons_self
  simp only [List.map_cons,List.flatten_cons,List.length_append,List.length_cons]
  rw [Nat.mul_add,Nat.mul_one]
  omega
theorem sa.e51_len {x:S51} (hv:Val x.f1) (h:sa.Ri x):(sa.e51 x).length≤30000:=by
 have h1:=(en_len x.f1 hv).1
 have h2:=h.1.2
 have h3:=h.2.2
 have h4:=qBr (x.f0.size:Int)
 unfold sa.e51 X.str
 simp only [List.length_append,qBM]
 omega
set_option maxHeartbeats 8000000 in
theorem sa.enc24 {l:List S51} {A:Option Addr} {c:Nat} (w:World) (hA:k51.C w A l.length l) (hc:l.length≤c) (hv:∀ x ∈ l,Val x.f1∧x.f0.size≤140737488351232) (hl:l.length≤9223372036854775000) :
  Calls Try.prog 24 #[.slice A l.length c] w (sa.EncS l w):=by
 have hu51:=Try.underlying51
 have hu44:=Try.underlying44
 have hu34:=Try.underlying34
 obtain ⟨b,⟨K,hK⟩,hb⟩:=sa.right_ev l hv hl
 have RC:=zA (qAi.calls K A c l b w hA hc (hK K (Nat.le_refl _)))
 cases b with
 | false =>
  have hn:¬ sa.RS l:=fun h=>by cases hb.2 h
  clear hb hK
  go_enter Try.func24,Try.ntmps24
  go_wp2_with (first | (go_at_call 25;refine RC.out.mono ?_;rintro e_ w2 ⟨rfl,hb⟩;have B2:=zA hb;clear hb))
  go_ret2
  exact sa.encS_bad hn rfl B2.out
 | true =>
  have hR:=hb.1 rfl
  have HR:=zA hR
  have HA:=zA hA
  have HV:=zA hv
  have HN:=zA hR.2.2.2
  have hw:IntKind.u64.wrap (l.length:Int)=(l.length:Int):=u64w _ (by omega) (by have:=hR.2.2.2;omega)
  have PUT:=zA (fun (W:World) (B:Option Addr) (hC:(Kd.int .u8).C W B 4 [83,83,84,49])=>show Calls Try.prog 46 #[.slice B 4 4,.int .u64 (l.length:Int)] W (fun e w'=>∃ v,e=.returned v∧(Kd.int .u8).R 5 w' W.heap.size (fun _=>True) v ([83,83,84,49] ++ putU (l.length:Int))∧Below W.heap.size W w') from qAt.calls 10 B 4 [83,83,84,49] (l.length:Int) ([83,83,84,49] ++ putU (l.length:Int)) W hC (by decide) (qCT 10 [83,83,84,49] (l.length:Int) (Nat.le_refl _) (by omega) (by have:=hR.2.2.2;omega) (by simp)))
  have kc:=fun (w:World) (C:Array Value) (n c:Nat)=>Lib.run_convert_bytes_const (P:=Try.prog) w 44 5 C n c Try.underlying44 Try.underlying5
  clear hb hK hA hc hv hl hR
  go_enter Try.func24,Try.ntmps24
  go_wp2_with (first | (go_at_call 25;refine RC.out.mono ?_;rintro e_ w2 ⟨rfl,hb⟩;have B2:=zA hb;clear hb) | (go_at_call 46;refine (PUT.out _ _ (sa.magic_row w2)).mono ?_;rintro e_ w3 ⟨v3,rfl,hr,hb⟩;have B3:=zA (qAO (qAE B2.out _) hb);have R3:=zA (Kd.qB6 hr (Nat.le_trans B2.out.size (qAE (Below.refl w2.heap.size w2) _).size));clear hr hb))
  go_loopw [20,4] (fun v20 v4 wr=>∃ (j:Nat) (d:List Int),v20=.int .i64 (j:Int)∧qAA (j≤l.length∧d=[83,83,84,49] ++ (putU (l.length:Int) ++ ((l.take j).map sa.e51).flatten))∧qAA ((Kd.int .u8).R 5 wr w.heap.size (fun _=>True) v4 d)∧qAA (Below w.heap.size w wr)) (fun v20 _ _=>l.length - (intOf v20).toNat)
  case atStart=>exact ⟨0,[83,83,84,49] ++ putU (l.length:Int),rfl,⟨Nat.zero_le _,by simp⟩,R3,B3⟩
  case round =>
   clear R3 B3 B2
   obtain ⟨j,d,rfl,HJ,HO,HB⟩:=hrel
   obtain ⟨B,cb,e4⟩:=Kd.qA0 HO.out
   subst e4
   by_cases hlt:j < l.length
   ·have k1:decide ((j:Int) < (l.length:Int))=true:=zT (by omega)
    have k2:decide (j < l.length)=true:=zT hlt
    have k3:(j < l.length)=True:=eq_true hlt
    have k4:(j:Int) < (l.length:Int):=by omega
    have HWR:=zA (show wrap64 ((j:Int)+1)=(j:Int)+1 from by have:=HN.out;unfold wrap64;omega)
    have hx:=sa.rd_mem l j hlt
    have ht:=sa.rd_take l j hlt
    have hlen:d.length≤5000000:=by
     have h1:=sa.flat_le sa.e51 30000 (l.take j) (fun y hy=>sa.e51_len (HV.out y (List.mem_of_mem_take hy)).1 (HR.out.1 y (List.mem_of_mem_take hy)))
     have h2:=qBr (l.length:Int)
     have h3:(l.take j).length≤128:=by rw [List.length_take];have:=HN.out;omega
     have h4:30000 * (l.take j).length≤30000 * 128:=Nat.mul_le_mul_left _ h3
     rw [HJ.out.2]
     simp only [List.length_append,List.length_cons,List.length_nil]
     omega
    obtain ⟨ad,A4,c4,A5,c5,ea,h0,h1,h2,h3,h4,h5,l4,g4,l5,g5⟩:=qCI (Kd.qAc HA.out HB.out) (j:Int) (by omega) k4
    subst ea
    rw [Int.toNat_natCast] at h0 h1 h2 h3 h4 h5
    generalize qAJ l (j:Int)=x at *
    have hri:=HR.out.1 x hx
    have hvx:=(HV.out x hx).1
    obtain ⟨KE,hKE⟩:=sa.wenc_ev x.f1 hvx hri.1
    have EN:=zA (fun (W:World) (q4:k34.C W A4 x.f1.f3.length x.f1.f3) (q5:Kd.string.C W A5 x.f1.f4.length x.f1.f4)=>qCC.calls KE x.f1.f0 x.f1.f1 x.f1.f2 A4 c4 x.f1.f3 A5 c5 x.f1.f4 (en x.f1) 0 W q4 l4 q5 l5 (hKE KE (Nat.le_refl _)))
    have hel:(en x.f1).length≤30000:=by have h1:=(en_len x.f1 hvx).1;have h2:=hri.1.2;omega
    have PTX:=zA (fun (W:World) (hC:(Kd.int .u8).C W B d.length d) (hcb:d.length≤cb)=>qBT.calls 10 B cb d x.f0 (d ++ putU x.f0.size ++ bytesOf x.f0) W hC hcb (PutText_eq 10 d x.f0 (Nat.le_refl _) (by have:=hri.2.2;omega)))
    have HD2:=zA (show (d ++ putU x.f0.size ++ bytesOf x.f0) ++ en x.f1=[83,83,84,49] ++ (putU (l.length:Int) ++ ((l.take (j+1)).map sa.e51).flatten) from by
     rw [HJ.out.2,ht]
     simp [sa.e51,X.str])
    have hpl:=qBr (x.f0.size:Int)
    have HL2:=zA (show ((d ++ putU x.f0.size ++ bytesOf x.f0).length+(en x.f1).length) * 1≤140737488355328 from by
     have:=hri.2.2
     simp only [List.length_append,qBM]
     omega)
    generalize d ++ putU x.f0.size ++ bytesOf x.f0=d2 at *
    have G4:=zA g4;have G5:=zA g5
    have LB:=zA (show (wr.alloc (.cells #[.string x.f0,.int .i64 x.f1.f0,.int .i64 x.f1.f1,.string x.f1.f2,.slice A4 x.f1.f3.length c4,.slice A5 x.f1.f4.length c5] 51)).heap[wr.heap.size]?=some (.cells #[.string x.f0,.int .i64 x.f1.f0,.int .i64 x.f1.f1,.string x.f1.f2,.slice A4 x.f1.f3.length c4,.slice A5 x.f1.f4.length c5] 51 (0,0)) by simpa using heap_alloc_new wr _)
    have HJ2:=zA (show j+1≤l.length from hlt)
    clear hlt hx ht hlen hri hvx hKE hel hpl g4 g5 l4 l5 HJ
    go_wp2_with (first | (go_at_call 47;refine (EN.out _ (Kd.qAh G4.out _) (Kd.qAh G5.out _)).mono ?_;rintro e_ w5 ⟨Av,cv,rfl,hr,hle,hb⟩;have RV:=zA hr;have BV:=zA hb;have LB5:=zA (qAX LB.out hb);have O5:=zA (Kd.qAp (Kd.qBW HO.out (.cells #[.string x.f0,.int .i64 x.f1.f0,.int .i64 x.f1.f1,.string x.f1.f2,.slice A4 x.f1.f3.length c4,.slice A5 x.f1.f4.length c5] 51)) hb);have B5:=zA (qAY (qAE HB.out (.cells #[.string x.f0,.int .i64 x.f1.f0,.int .i64 x.f1.f1,.string x.f1.f2,.slice A4 x.f1.f3.length c4,.slice A5 x.f1.f4.length c5] 51)) (qAE HB.out _).size hb);clear hr hle hb h0 h1 h2 h3 h4 h5;have y0:=(qAB LB5.out 0).trans rfl) | (go_at_call 48;refine (PTX.out _ (Kd.R_reads' O5.out).2.2 (Kd.R_reads' O5.out).2.1).mono ?_;rintro e_ w6 ⟨v6,rfl,hr,hb⟩;have R6:=zA (Kd.qB6 hr B5.out.size);have RV6:=zA (Kd.qAc RV.out hb);have B6:=zA (qAY B5.out B5.out.size hb);clear hr hb y0) | ((with_reducible refine qBh (b:=.append) (xs:=#[.tmp 33,.tmp 34]) rfl ?_);at_builtin;refine Kd.R_append_rows (Kd.int .u8) (w0:=w) w.heap.size rfl (.tmp 33) (.tmp 34) 44 5 (.int .u8 0) 1 rfl Try.underlying44 info5 rfl (by decide) (by omega) v6 d2 (en x.f1) _ _ _ (fun _=>True) (fun _=>False) rfl rfl ?aO ?aR (fun _ _ h=>h) (fun _ h=>h.elim) ?aF ?aB ?aS ?aL ?_;(case aO=>exact R6.out);(case aR=>exact RV6.out);(case aF=>exact fun _ _=>trivial);(case aB=>exact B6.out);(case aS=>exact B6.out.size);(case aL=>exact HL2.out);intro v7 w7 ho hb hg hat;have R7:=zA ho;have B7:=zA hb;clear ho hb hg hat))
    go_roundw
    case rel=>exact ⟨j+1,_,by rw [HWR.out];rfl,⟨HJ2.out,HD2.out⟩,R7,B7⟩
    case measure =>
     rw [HWR.out]
     show l.length - ((j:Int)+1).toNat < l.length - ((j:Int)).toNat
     have:=HJ2.out
     omega
   ·have k1:decide ((j:Int) < (l.length:Int))=false:=zF (by omega)
    have k2:decide (j < l.length)=false:=zF hlt
    have k3:(j < l.length)=False:=eq_false hlt
    have HD:=zA (show d=sa.enS l from by
     rw [HJ.out.2,List.take_of_length_le (by omega)]
     rfl)
    clear hlt
    go_wp2
    go_ret2
    exact sa.encS_ok HR.out rfl HD.out HO.out HB.out
end
section
set_option maxHeartbeats 1000000
set_option maxRecDepth 100000
open Go.Proofs.Ytdommiicjpjfpaa Go.Proofs.Ytdommiicjpjfpaa.Pl
def sa.flat (l:List S51):List Int:=(l.map sa.e51).flatten
theorem sa.flat_app (l m:List S51):sa.flat (l ++ m)=sa.flat l ++ sa.flat m:=by unfold sa.flat;simp
theorem sa.flat_one (x:S51):sa.flat [x]=sa.e51 x:=by unfold sa.flat;simp
theorem sa.rd_left (l m:List S51) (i:Nat) (h:i < l.length):qAJ (l ++ m) (i:Int)=qAJ l (i:Int):=by
 unfold qAJ
 rw [Int.toNat_natCast,List.getD_eq_getElem?_getD,List.getD_eq_getElem?_getD,List.getElem?_append_left h]
theorem sa.rd_mid (l m:List S51) (x:S51):qAJ (l ++ x :: m) ((l.length:Nat):Int)=x:=by
 unfold qAJ
 rw [Int.toNat_natCast,List.getD_eq_getElem?_getD,List.getElem?_append_right (Nat.le_refl _),Nat.sub_self]
 rfl
theorem sa.up_snoc {l:List S51} {x:S51} (h:sa.Up l) (hx:0 < l.length→Op.bytesLess (qAJ l ((l.length:Int) - 1)).f0.toList x.f0.toList=true):sa.Up (l ++ [x]):=by
 intro i hi
 rw [List.length_append,List.length_singleton] at hi
 by_cases e:i+1 < l.length
 ·rw [show (i:Int)+1=((i+1:Nat):Int) by omega,sa.rd_left l [x] i (by omega),sa.rd_left l [x] (i+1) e]
  have:=h i e
  rwa [show (i:Int)+1=((i+1:Nat):Int) by omega] at this
 ·have hl:i+1=l.length:=by omega
  have h1:=hx (by omega)
  rw [show (i:Int)+1=((l.length:Nat):Int) by omega,sa.rd_mid l [] x,sa.rd_left l [x] i (by omega)]
  rwa [show (l.length:Int) - 1=(i:Int) by omega] at h1
theorem sa.entF_told {bs:List Int} (hb:Bytes bs) (hl:bs.length≤140737488351232) {a all:Int} {l l2:List S51} {a2 all2:Int} (h:sa.entF bs a all l=.ok l2 a2 all2) :
  ∃ x,l2=l ++ [x]∧sa.Ri x∧Val x.f1∧Siz x.f1∧(0 < l.length→Op.bytesLess (qAJ l ((l.length:Int) - 1)).f0.toList x.f0.toList=true)∧all2=all+sa.hv x∧all2≤32768∧0≤a∧a≤a2∧a2≤(bs.length:Int)∧bs.drop a.toNat=sa.e51 x ++ bs.drop a2.toNat:=by
 unfold sa.entF at h
 have ht:=fun q=>textAt_ok (l:=bs) hb (a:=a) (most:=32) q
 have hs:=fun q=>textAt_small (l:=bs) hb (a:=a) (most:=32) (by omega) q
 generalize qBX bs a 32=t at *
 obtain ⟨s,n1,e1⟩:=t
 dsimp only at h ht hs
 by_cases h1:e1 ≠ 0
 ·rw [if_pos h1] at h;cases h
 rw [if_neg h1] at h
 have he:e1=0:=Classical.byContradiction h1
 obtain ⟨q0,q1,q2,q3⟩:=ht he
 have hsz:=hs he
 by_cases h2:s.toList=[] ∨ (0 < l.length∧¬ Op.bytesLess (qAJ l ((l.length:Int) - 1)).f0.toList s.toList=true)
 ·rw [if_pos h2] at h;cases h
 rw [if_neg h2] at h
 have hne:s.toList ≠ []:=fun q=>h2 (Or.inl q)
 have hup:0 < l.length→Op.bytesLess (qAJ l ((l.length:Int) - 1)).f0.toList s.toList=true:=fun q=>Classical.byContradiction fun r=>h2 (Or.inr ⟨q,r⟩)
 rcases hr:sa.takeS bs (qAd bs) (qCJ bs) n1 with ⟨x,b2,l3⟩ | ⟨ee,pp⟩
 ·rw [hr] at h
  dsimp only at h
  obtain ⟨v1,v2,v3,v4,v5,v6,v7,_⟩:=sa.takeS_ok hb hl hr
  split at h
  ·cases h
  ·rename_i hq
   injection h with g1 g2 g3
   subst g1;subst g2;subst g3
   refine ⟨⟨s,x⟩,rfl,⟨v3,hne,hsz⟩,v1,v2,hup,rfl,by omega,q0,by omega,v6, ?_⟩
   rw [q3,v7]
   unfold sa.e51 X.str
   simp only [List.append_assoc]
 ·rw [hr] at h;cases h
theorem sa.decL_told {bs:List Int} (hb:Bytes bs) (hl:bs.length≤140737488351232):∀ (k:Nat) (a all:Int) (l l2:List S51) (a2 all2:Int),sa.decL bs k a all l=.ok l2 a2 all2→(∀ x ∈ l,sa.Ri x∧Val x.f1∧Siz x.f1)→sa.Up l→all=sa.hvs l→all≤32768→0≤a→a≤(bs.length:Int) →
  (∀ x ∈ l2,sa.Ri x∧Val x.f1∧Siz x.f1)∧sa.Up l2∧all2=sa.hvs l2∧all2≤32768∧0≤a2∧a2≤(bs.length:Int)∧l2.length=l.length+k∧sa.flat l ++ bs.drop a.toNat=sa.flat l2 ++ bs.drop a2.toNat
 | 0,a,all,l,l2,a2,all2,h,hR,hU,hw,hw2,h0,h1=>by
  unfold sa.decL at h
  injection h with e1 e2 e3
  subst e1;subst e2;subst e3
  exact ⟨hR,hU,hw,hw2,h0,h1,rfl,rfl⟩
 | k+1,a,all,l,l2,a2,all2,h,hR,hU,hw,hw2,h0,h1=>by
  unfold sa.decL at h
  rcases hr:sa.entF bs a all l with ⟨l3,a3,all3⟩ | ⟨ee,pp⟩
  ·rw [hr] at h
   dsimp only at h
   obtain ⟨x,rfl,x1,x2,x3,x4,x5,x6,x7,x8,x9,x10⟩:=sa.entF_told hb hl hr
   obtain ⟨y1,y2,y3,y4,y5,y6,y7,y8⟩:=sa.decL_told hb hl k a3 all3 (l ++ [x]) l2 a2 all2 h (fun y hy=>by
    rcases List.mem_append.1 hy with hy | hy
    ·exact hR y hy
    ·rw [show y=x by simpa using hy];exact ⟨x1,x2,x3⟩) (sa.up_snoc hU x4) (by rw [sa.hvs_app,x5,hw];simp [sa.hvs]) x6 (by omega) x9
   refine ⟨y1,y2,y3,y4,y5,y6,by rw [y7,List.length_append,List.length_singleton];omega, ?_⟩
   rw [← y8,sa.flat_app,sa.flat_one,x10,List.append_assoc]
  ·rw [hr] at h;cases h
theorem sa.decF_sound {bs:List Int} (hb:Bytes bs) (hl:bs.length≤140737488351232) {p:Int} {l:List S51} (h:sa.decF bs=(0,p,l)):sa.RS l∧(∀ x ∈ l,Val x.f1∧Siz x.f1)∧sa.enS l=bs∧p=0:=by
 unfold sa.decF at h
 by_cases h1:(bs.length:Int) < 4 ∨ bs.take 4 ≠ [83,83,84,49]
 ·rw [if_pos h1] at h;injection h with h _;cases h
 rw [if_neg h1] at h
 have hm:bs.take 4=[83,83,84,49]:=Classical.byContradiction fun q=>h1 (Or.inr q)
 by_cases h2:(qAd bs 4).2.2 ≠ 0
 ·rw [if_pos h2] at h;injection h with h _;cases h
 rw [if_neg h2] at h
 have hu:=qBb bs hb 4 (Classical.byContradiction h2)
 have hr:=qA9 bs hb 4
 by_cases h3:(qAd bs 4).1 > 128
 ·rw [if_pos h3] at h;injection h with h _;cases h
 rw [if_neg h3] at h
 generalize qAd bs 4=u at *
 obtain ⟨n1,nx,e1⟩:=u
 dsimp only at h hu hr h3
 rcases hd:sa.decL bs n1.toNat nx 0 [] with ⟨l2,a2,all2⟩ | ⟨cc,pp⟩
 ·rw [hd] at h
  dsimp only at h
  obtain ⟨y1,y2,y3,y4,y5,y6,y7,y8⟩:=sa.decL_told hb hl _ _ _ _ _ _ _ hd (fun x hx=>by simp at hx) (fun i hi=>by simp at hi) rfl (by omega) (by omega) (by omega)
  by_cases h5:a2 < (bs.length:Int)
  ·rw [if_pos h5] at h;injection h with h _;cases h
  rw [if_neg h5] at h
  injection h with _ h
  injection h with g1 g2
  subst g2
  refine ⟨⟨fun x hx=>(y1 x hx).1,y2,by omega,by rw [y7];simp;omega⟩,fun x hx=>(y1 x hx).2, ?_,g1.symm⟩
  have hd0:bs.drop a2.toNat=[]:=List.drop_eq_nil_of_le (by omega)
  rw [hd0,List.append_nil] at y8
  have hfl:bs.drop nx.toNat=sa.flat l2:=by rw [← y8];simp [sa.flat]
  have hln:(l2.length:Int)=n1:=by rw [y7];simp;omega
  unfold sa.enS X.lst
  rw [hln,show (l2.map sa.e51).flatten=bs.drop nx.toNat from hfl.symm,← hm,← hu.2.2.2.2]
  have e2:(bs.drop 4).take (nx - 4).toNat ++ bs.drop nx.toNat=bs.drop 4:=by
   conv=>rhs;rw [← List.take_append_drop (nx - 4).toNat (bs.drop 4)]
   rw [List.drop_drop]
   congr 2
   omega
  rw [show ((4:Int)).toNat=4 from rfl,e2,List.take_append_drop]
 ·rw [hd] at h
  dsimp only at h
  injection h with hc h
  exfalso
  have hbad:∀ (k:Nat) (a all:Int) (l:List S51),sa.decL bs k a all l=.bad cc pp→cc ≠ 0:=by
   intro k
   induction k with
   | zero=>intro a all l q;unfold sa.decL at q;cases q
   | succ k ih =>
    intro a all l q
    unfold sa.decL at q
    rcases hr2:sa.entF bs a all l with ⟨l3,a3,all3⟩ | ⟨ee,pp⟩
    ·rw [hr2] at q;exact ih a3 all3 l3 q
    ·rw [hr2] at q
     injection q with q1 q2
     subst q1
     unfold sa.entF at hr2
     split at hr2
     ·injection hr2 with r1 _;omega
     split at hr2
     ·injection hr2 with r1 _;omega
     split at hr2
     ·injection hr2 with r1 _;omega
     ·split at hr2
      ·injection hr2 with r1 _;omega
      ·cases hr2
  exact hbad _ _ _ _ hd hc
theorem sa.decL_place {bs:List Int} (hb:Bytes bs) (hl:bs.length≤140737488351232) {cc pp:Int}:∀ (k:Nat) (a all:Int) (l:List S51),0≤a→a≤(bs.length:Int)→sa.decL bs k a all l=.bad cc pp→0≤pp∧pp≤(bs.length:Int):=by
 intro k
 induction k with
 | zero=>intro a all l _ _ q;unfold sa.decL at q;cases q
 | succ k ih =>
  intro a all l h0 h1 q
  unfold sa.decL at q
  rcases hr2:sa.entF bs a all l with ⟨l3,a3,all3⟩ | ⟨ee,p2⟩
  ·rw [hr2] at q
   obtain ⟨x,_,_,_,_,_,_,_,_,h5,h6,_⟩:=sa.entF_told hb hl hr2
   exact ih a3 all3 l3 (by omega) h6 q
  ·rw [hr2] at q
   injection q with q1 q2
   subst q2
   unfold sa.entF at hr2
   split at hr2
   ·injection hr2 with _ r1;omega
   split at hr2
   ·injection hr2 with _ r1;omega
   split at hr2
   ·rename_i hk
    injection hr2 with _ r1
    subst r1
    exact (sa.takeS_bad hb hl hk).2
   ·split at hr2
    ·injection hr2 with _ r1;omega
    ·cases hr2
theorem sa.decF_bad {bs:List Int} (hb:Bytes bs) (hl:bs.length≤140737488351232) {c p:Int} {l:List S51} (h:sa.decF bs=(c,p,l)) (hc:c ≠ 0):l=[]∧0≤p∧p≤(bs.length:Int):=by
 unfold sa.decF at h
 by_cases h1:(bs.length:Int) < 4 ∨ bs.take 4 ≠ [83,83,84,49]
 ·rw [if_pos h1] at h;injection h with _ h;injection h with e1 e2;exact ⟨e2.symm,by omega,by omega⟩
 rw [if_neg h1] at h
 have h4:4≤(bs.length:Int):=Int.not_lt.1 fun q=>h1 (Or.inl q)
 by_cases h2:(qAd bs 4).2.2 ≠ 0
 ·rw [if_pos h2] at h;injection h with _ h;injection h with e1 e2;exact ⟨e2.symm,by omega,by omega⟩
 rw [if_neg h2] at h
 have hu:=qBb bs hb 4 (Classical.byContradiction h2)
 by_cases h3:(qAd bs 4).1 > 128
 ·rw [if_pos h3] at h;injection h with _ h;injection h with e1 e2;exact ⟨e2.symm,by omega,by omega⟩
 rw [if_neg h3] at h
 rcases hd:sa.decL bs (qAd bs 4).1.toNat (qAd bs 4).2.1 0 [] with ⟨l2,a2,all2⟩ | ⟨cc,pp⟩
 ·rw [hd] at h
  dsimp only at h
  obtain ⟨_,_,_,_,y5,y6,_,_⟩:=sa.decL_told hb hl _ _ _ _ _ _ _ hd (fun x hx=>by simp at hx) (fun i hi=>by simp at hi) rfl (by omega) (by omega) (by omega)
  by_cases h5:a2 < (bs.length:Int)
  ·rw [if_pos h5] at h;injection h with _ h;injection h with e1 e2;exact ⟨e2.symm,by omega,by omega⟩
  ·rw [if_neg h5] at h;injection h with h _;exact absurd h.symm hc
 ·rw [hd] at h
  dsimp only at h
  injection h with _ h
  injection h with e1 e2
  have:=sa.decL_place hb hl _ _ _ _ (by omega) (by omega) hd
  exact ⟨e2.symm,by omega,by omega⟩
end
section
set_option maxHeartbeats 400000
set_option maxRecDepth 100000
open Go.Proofs.Ytdommiicjpjfpaa Go.Proofs.Ytdommiicjpjfpaa.Pl
def sa.x0:S51:=⟨⟨#[98]⟩,⟨1,1,⟨#[]⟩,[],[]⟩⟩
theorem sa.x0_val:Val sa.x0.f1:=Val.mk _ (by decide) (by decide) (by decide) (by decide) (by decide) (by decide) (by decide) (fun s hs=>by cases hs) (fun y hy=>by cases hy)
theorem sa.x0_rt:sa.Rt sa.x0.f1:=by
 refine ⟨sa.okV.mk (d:=7) (by unfold qAj.b;simp [wrap64]) (fun h=>absurd h (by decide)) (fun y hy=>by cases hy), ?_⟩
 rw [show wt sa.x0.f1=1+(⟨#[]⟩:ByteArray).size from sa.wt_leaf 1 1 ⟨#[]⟩]
 decide
theorem sa.x0_rs:sa.RS [sa.x0]:=by
 have hs:(sa.x0.f0.size:Int)=1:=rfl
 have hl:sa.x0.f0.toList=[98]:=by show (⟨#[98]⟩:ByteArray).toList=[98];rw [ByteArray.toList_eq]
 refine ⟨fun x hx => ?_,fun i hi=>by simp at hi, ?_,by simp⟩
 ·rw [show x=sa.x0 by simpa using hx]
  exact ⟨sa.x0_rt,by rw [hl];simp,by omega⟩
 ·have:=sa.x0_rt.2
  show sa.hv sa.x0+0≤32768
  unfold sa.hv
  omega
theorem sa.x0_en:sa.enS [sa.x0]=[83,83,84,49,1,1,98,2]:=by
 unfold sa.enS X.lst sa.e51 X.str
 simp only [List.map_cons,List.map_nil,List.flatten_cons,List.flatten_nil,List.append_nil]
 rw [en1 (x:=sa.x0.f1) rfl]
 rfl
theorem sa.x0_row (w:World):k51.C (w.alloc (.cells #[.string ⟨#[98]⟩,.int .i64 1,.int .i64 1,.string ⟨#[]⟩,.slice none 0 0,.slice none 0 0] 51)) (some ⟨w.heap.size,0,none⟩) 1 [sa.x0]:=by
 refine ⟨rfl,by simp,fun _=>⟨_,rfl,fun j p hj => ?_⟩⟩
 obtain ⟨hj0,hp⟩:=List.getElem?_eq_some_iff.1 hj
 have hj0:j < 1:=hj0
 obtain rfl:j=0:=by omega
 obtain rfl:sa.x0=p:=hp
 refine ⟨[.string ⟨#[98]⟩,.int .i64 1,.int .i64 1,.string ⟨#[]⟩,.slice none 0 0,.slice none 0 0],rfl,k51_mk _ sa.x0 (A4:=none) (c4:=0) (Nat.le_refl _) (Kd.C_nil k34 _) (A5:=none) (c5:=0) (Nat.le_refl _) (Kd.C_nil Kd.string _),fun i u hu => ?_⟩
 rw [add_plain,qAB (qB5 w _) _]
 simpa using hu
theorem sa.encY {l:List S51} {A:Option Addr} {c:Nat} (w:World) (hA:k51.C w A l.length l) (hc:l.length≤c) (hv:∀ x ∈ l,Val x.f1∧x.f0.size≤140737488351232) (hl:l.length≤9223372036854775000) (h:sa.RS l) :
  Calls Try.prog 24 #[.slice A l.length c] w fun e w'=>∃ v,e=.returned (.tuple #[v,.int .i64 0])∧(Kd.int .u8).R 5 w' w.heap.size (fun _=>True) v (sa.enS l)∧Below w.heap.size w w' :=
 (sa.enc24 w hA hc hv hl).mono fun e w' q=>by
  rcases q with q | q
  ·exact absurd h q.1
  ·exact q.2
theorem sa.shown9 (w:World):Calls Try.prog 9 #[] w fun e w'=>e=.returned (.bool true)∧Below w.heap.size w w':=by
 have hu51:=Try.underlying51
 have hu34:=Try.underlying34
 have hx:∀ x ∈ [sa.x0],Val x.f1∧x.f0.size≤140737488351232:=fun x hx=>by
  rw [show x=sa.x0 by simpa using hx]
  exact ⟨sa.x0_val,by show (1:Nat)≤140737488351232;omega⟩
 have EN:=zA (sa.encY (l:=[sa.x0]) (c:=1) _ (sa.x0_row w) (Nat.le_refl _) hx (by show (1:Nat)≤9223372036854775000;omega) sa.x0_rs)
 clear hx
 rw [sa.x0_en] at EN
 have hst:strOfNums [83,83,84,49,1,1,98,2]=⟨#[83,83,84,49,1,1,98,2]⟩:=by rfl
 go_enter Try.func9,Try.ntmps9
 go_wp2_with (first | (go_at_call 24;refine EN.out.mono ?_;rintro e_ w2 ⟨v0,rfl,hr,hb⟩;obtain ⟨A9,c9,e9⟩:=Kd.qA0 hr;subst e9;have R2:=Kd.qB8 (P:=Try.prog) (c:=c9) Try.underlying44 Try.underlying5 Try.underlying9 (Kd.R_reads' hr).2.2;rw [hst] at R2;have R2:(convert 44 9 (.slice A9 8 c9)).run Try.prog w2=.ok (.string ⟨#[83,83,84,49,1,1,98,2]⟩) w2:=R2;have B2:=zA (qAY (qAE (Below.refl w.heap.size w) _) (qAE (Below.refl w.heap.size w) _).size hb);clear hr hb hst))
 go_ret
 exact ⟨rfl,B2.out⟩
end
end Go.Proofs.Ytdommiicjpjfpaa.X
