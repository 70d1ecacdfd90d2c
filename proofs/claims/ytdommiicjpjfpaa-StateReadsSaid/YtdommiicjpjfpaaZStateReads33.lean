import Derived.Test.YtdommiicjpjfpaaZStateReads3
import Derived.Test.YtdommiicjpjfpaaZStateReads2
import Derived.WalkLawsBesides
import Derived.Laws.Pointers
import Derived.Shelf.Abstract
import Derived.Deep.DeepMust
import Derived.Deep.QuietTactic
import Derived.BigQuiet
import Derived.Defers
import Derived.Recover
import Derived.Test.YtdommiicjpjfpaaZStateReads32
import Derived.Test.YtdommiicjpjfpaaZStateReads4
set_option linter.unusedVariables false
set_option linter.unusedSimpArgs false
namespace Go.Proofs.Ytdommiicjpjfpaa.X
open Go.RowKit Go.Proofs.YtdommiicjpjfpaaW.PrintWords Go.Proofs.YtdommiicjpjfpaaW.PrintLast Go.Proofs.YtdommiicjpjfpaaW.PrintMore Go.Proofs.YtdommiicjpjfpaaW
section
set_option maxHeartbeats 4000000
set_option maxRecDepth 100000
def sa.Bd (n:Nat) (a l:Int):Prop:=0≤a∧a≤(n:Int)∧0≤l∧l≤2048
theorem sa.arrL_b {n:Nat} {f:Int→Int→sa.R3 S34} (hf:∀ (a l:Int) (x:S34) (a2 l2:Int),sa.Bd n a l→f a l=.ok x a2 l2→sa.Bd n a2 l2):∀ (k:Nat) (acc:List S34) (a l:Int) (vs:List S34) (a2 l2:Int),sa.Bd n a l→sa.arrL f k acc a l=.ok vs a2 l2→sa.Bd n a2 l2
 | 0,acc,a,l,vs,a2,l2,hb,h=>by
  unfold sa.arrL at h
  injection h with _ e2 e3
  subst e2;subst e3;exact hb
 | k+1,acc,a,l,vs,a2,l2,hb,h=>by
  unfold sa.arrL at h
  rcases hfa:f a l with ⟨x,a1,l1⟩ | ⟨e,p⟩
  ·rw [hfa] at h
   exact sa.arrL_b hf k _ a1 l1 vs a2 l2 (hf a l x a1 l1 hb hfa) h
  ·rw [hfa] at h;cases h
theorem sa.recL_b {bs:List Int} {u i:Int→Int × Int × Int} (hU:sa.Uin bs u i) {f:Int→Int→sa.R3 S34} (hf:∀ (a l:Int) (x:S34) (a2 l2:Int),sa.Bd bs.length a l→f a l=.ok x a2 l2→sa.Bd bs.length a2 l2):∀ (k:Nat) (ks:List ByteArray) (acc:List S34) (a l:Int) (vs:List ByteArray × List S34) (a2 l2:Int),sa.Bd bs.length a l→sa.recL bs u f k ks acc a l=.ok vs a2 l2→sa.Bd bs.length a2 l2
 | 0,ks,acc,a,l,vs,a2,l2,hb,h=>by
  unfold sa.recL at h
  injection h with _ e2 e3
  subst e2;subst e3;exact hb
 | k+1,ks,acc,a,l,vs,a2,l2,hb,h=>by
  unfold sa.recL at h
  rcases hka:sa.keyS bs u ks a l with ⟨kk,a1,l1⟩ | ⟨e,p⟩
  ·rw [hka] at h
   have hb1:sa.Bd bs.length a1 l1:=sa.keyS_b hU ⟨hb.2.2.1,hb.2.2.2⟩ hka
   dsimp only at h
   rcases hfa:f a1 l1 with ⟨x,a3,l3⟩ | ⟨e,p⟩
   ·rw [hfa] at h
    exact sa.recL_b hU hf k _ _ a3 l3 vs a2 l2 (hf a1 l1 x a3 l3 hb1 hfa) h
   ·rw [hfa] at h;cases h
  ·rw [hka] at h;cases h
theorem sa.valS_s (bs:List Int) (u i:Int→Int × Int × Int) (d:Nat) (a l:Int):sa.valS bs u i (d+1) a l =
  if a=(bs.length:Int) ∨ rd bs a > 6 then .bad 41 a
  else if 1 > l then .bad 42 a
  else if rd bs a=1 then .ok ⟨1,0,⟨#[]⟩,[],[]⟩ (a+1) (l - 1)
  else if rd bs a=2 then .ok ⟨1,1,⟨#[]⟩,[],[]⟩ (a+1) (l - 1)
  else if rd bs a=3 then (if (i (a+1)).2.2 ≠ 0 then .bad 41 (a+1) else .ok ⟨2,(i (a+1)).1,⟨#[]⟩,[],[]⟩ (i (a+1)).2.1 (l - 1))
  else if rd bs a=4 then (if (u (a+1)).2.2 ≠ 0 then .bad 41 (a+1) else if (l - 1) / 1 < (u (a+1)).1 then .bad 42 a else if (bs.length:Int) - (u (a+1)).2.1 < (u (a+1)).1 then .bad 41 (a+1) else .ok ⟨3,0,strOfNums ((bs.drop (u (a+1)).2.1.toNat).take (u (a+1)).1.toNat),[],[]⟩ ((u (a+1)).2.1+(u (a+1)).1) (l - 1 - (u (a+1)).1))
  else if rd bs a=5 then (if (u (a+1)).2.2 ≠ 0 then .bad 41 (a+1) else if (l - 1) / 1 < (u (a+1)).1 then .bad 42 a else sa.arrV (sa.arrL (sa.valS bs u i d) (u (a+1)).1.toNat [] (u (a+1)).2.1 (l - 1)))
  else if rd bs a=6 then (if (u (a+1)).2.2 ≠ 0 then .bad 41 (a+1) else if (l - 1) / 2 < (u (a+1)).1 then .bad 42 a else sa.recV (sa.recL bs u (sa.valS bs u i d) (u (a+1)).1.toNat [] [] (u (a+1)).2.1 (l - 1)))
  else .ok ⟨0,0,⟨#[]⟩,[],[]⟩ (a+1) (l - 1):=by
 rw [sa.valS]
 by_cases h0:a=(bs.length:Int) ∨ rd bs a > 6
 ·rw [if_pos h0,if_pos h0]
 rw [if_neg h0,if_neg h0]
 by_cases h1:1 > l
 ·rw [if_pos h1,if_pos h1]
 rw [if_neg h1,if_neg h1]
 by_cases k1:rd bs a=1
 ·rw [if_pos k1,if_pos k1]
 rw [if_neg k1,if_neg k1]
 by_cases k2:rd bs a=2
 ·rw [if_pos k2,if_pos k2]
 rw [if_neg k2,if_neg k2]
 by_cases k3:rd bs a=3
 ·rw [if_pos k3,if_pos k3]
 rw [if_neg k3,if_neg k3]
 by_cases k4:rd bs a=4
 ·rw [if_pos k4,if_pos k4]
  unfold sa.qBe
  by_cases e1:(u (a+1)).2.2 ≠ 0
  ·rw [if_pos e1,if_pos e1]
  rw [if_neg e1,if_neg e1]
  by_cases e2:(l - 1) / 1 < (u (a+1)).1
  ·rw [if_pos e2,if_pos e2]
  rw [if_neg e2,if_neg e2]
 rw [if_neg k4,if_neg k4]
 by_cases k5:rd bs a=5
 ·rw [if_pos k5,if_pos k5]
  unfold sa.qBe
  by_cases e1:(u (a+1)).2.2 ≠ 0
  ·rw [if_pos e1,if_pos e1]
  rw [if_neg e1,if_neg e1]
  by_cases e2:(l - 1) / 1 < (u (a+1)).1
  ·rw [if_pos e2,if_pos e2]
  rw [if_neg e2,if_neg e2]
  dsimp only
  rcases sa.arrL (sa.valS bs u i d) (u (a+1)).1.toNat [] (u (a+1)).2.1 (l - 1) with ⟨x,a3,l3⟩ | ⟨e,p⟩ <;> rfl
 rw [if_neg k5,if_neg k5]
 by_cases k6:rd bs a=6
 ·rw [if_pos k6,if_pos k6]
  unfold sa.qBe
  by_cases e1:(u (a+1)).2.2 ≠ 0
  ·rw [if_pos e1,if_pos e1]
  rw [if_neg e1,if_neg e1]
  by_cases e2:(l - 1) / 2 < (u (a+1)).1
  ·rw [if_pos e2,if_pos e2]
  rw [if_neg e2,if_neg e2]
  dsimp only
  rcases sa.recL bs u (sa.valS bs u i d) (u (a+1)).1.toNat [] [] (u (a+1)).2.1 (l - 1) with ⟨⟨x,y⟩,a3,l3⟩ | ⟨e,p⟩ <;> rfl
 rw [if_neg k6,if_neg k6]
theorem sa.valS_b {bs:List Int} {u i:Int→Int × Int × Int} (hU:sa.Uin bs u i):∀ (d:Nat) (a l:Int) (x:S34) (a2 l2:Int),sa.Bd bs.length a l→sa.valS bs u i d a l=.ok x a2 l2→sa.Bd bs.length a2 l2
 | 0,a,l,x,a2,l2,hb,h=>by
  rw [sa.valS] at h
  split at h <;> cases h
 | d+1,a,l,x,a2,l2,hb,h=>by
  rw [sa.valS_s] at h
  obtain ⟨b1,b2,b3,b4⟩:=hb
  by_cases h0:a=(bs.length:Int) ∨ rd bs a > 6
  ·rw [if_pos h0] at h;cases h
  rw [if_neg h0] at h
  have h0':a ≠ (bs.length:Int):=fun e=>h0 (Or.inl e)
  by_cases h1:1 > l
  ·rw [if_pos h1] at h;cases h
  rw [if_neg h1] at h
  have hone:sa.Bd bs.length (a+1) (l - 1):=⟨by omega,by omega,by omega,by omega⟩
  by_cases k1:rd bs a=1
  ·rw [if_pos k1] at h;injection h with _ e2 e3;subst e2;subst e3;exact hone
  rw [if_neg k1] at h
  by_cases k2:rd bs a=2
  ·rw [if_pos k2] at h;injection h with _ e2 e3;subst e2;subst e3;exact hone
  rw [if_neg k2] at h
  by_cases k3:rd bs a=3
  ·rw [if_pos k3] at h
   by_cases e1:(i (a+1)).2.2 ≠ 0
   ·rw [if_pos e1] at h;cases h
   rw [if_neg e1] at h
   have hN:=hU.M (a+1) (Classical.byContradiction e1)
   injection h with _ e2 e3;subst e2;subst e3;exact ⟨by omega,by omega,by omega,by omega⟩
  rw [if_neg k3] at h
  by_cases k4:rd bs a=4
  ·rw [if_pos k4] at h
   by_cases e1:(u (a+1)).2.2 ≠ 0
   ·rw [if_pos e1] at h;cases h
   rw [if_neg e1] at h
   have hN:=hU.N (a+1) (Classical.byContradiction e1)
   have hR:=hU.R (a+1)
   by_cases e2:(l - 1) / 1 < (u (a+1)).1
   ·rw [if_pos e2] at h;cases h
   rw [if_neg e2] at h
   rw [Int.ediv_one] at e2
   by_cases e3:(bs.length:Int) - (u (a+1)).2.1 < (u (a+1)).1
   ·rw [if_pos e3] at h;cases h
   rw [if_neg e3] at h
   injection h with _ e2 e3;subst e2;subst e3;exact ⟨by omega,by omega,by omega,by omega⟩
  rw [if_neg k4] at h
  by_cases k5:rd bs a=5
  ·rw [if_pos k5] at h
   by_cases e1:(u (a+1)).2.2 ≠ 0
   ·rw [if_pos e1] at h;cases h
   rw [if_neg e1] at h
   have hN:=hU.N (a+1) (Classical.byContradiction e1)
   by_cases e2:(l - 1) / 1 < (u (a+1)).1
   ·rw [if_pos e2] at h;cases h
   rw [if_neg e2] at h
   rcases hL:sa.arrL (sa.valS bs u i d) (u (a+1)).1.toNat [] (u (a+1)).2.1 (l - 1) with ⟨x,a3,l3⟩ | ⟨e,p⟩
   ·rw [hL] at h
    have:=sa.arrL_b (sa.valS_b hU d) _ _ _ _ _ _ _ ⟨by omega,by omega,by omega,by omega⟩ hL
    injection h with _ e2 e3;subst e2;subst e3;exact this
   ·rw [hL] at h;cases h
  rw [if_neg k5] at h
  by_cases k6:rd bs a=6
  ·rw [if_pos k6] at h
   by_cases e1:(u (a+1)).2.2 ≠ 0
   ·rw [if_pos e1] at h;cases h
   rw [if_neg e1] at h
   have hN:=hU.N (a+1) (Classical.byContradiction e1)
   by_cases e2:(l - 1) / 2 < (u (a+1)).1
   ·rw [if_pos e2] at h;cases h
   rw [if_neg e2] at h
   rcases hL:sa.recL bs u (sa.valS bs u i d) (u (a+1)).1.toNat [] [] (u (a+1)).2.1 (l - 1) with ⟨⟨x,y⟩,a3,l3⟩ | ⟨e,p⟩
   ·rw [hL] at h
    have:=sa.recL_b hU (sa.valS_b hU d) _ _ _ _ _ _ _ _ ⟨by omega,by omega,by omega,by omega⟩ hL
    injection h with _ e2 e3;subst e2;subst e3;exact this
   ·rw [hL] at h;cases h
  rw [if_neg k6] at h
  injection h with _ e2 e3;subst e2;subst e3;exact hone
theorem sa.value1 {bs:List Int} {u i:Int→Int × Int × Int} (hU:sa.Uin bs u i) {w0:World} {g:Nat} {A:Option Addr} {c:Nat} (hg:w0.heap.size≤g) (hc:bs.length≤c):∀ (d:Nat),d≤8→∀ (within:Int),within=8 - (d:Int)→∀ (w:World) (a l:Int),Below w0.heap.size w0 w→sa.Blk w g A bs.length c a l→(Kd.int .u8).C w A bs.length bs→0≤a→a≤(bs.length:Int)→0≤l→l≤2048 →
  Calls Try.prog 73 #[.pointer (some ⟨g,0,none⟩),.int .i64 within] w (sa.GotV (sa.valS bs u i d a l) w0 w g A bs.length c):=by
 intro d
 induction d with
 | zero =>
  intro _ within hw w a l hb hB hC ha0 ha1 hl0 hl1
  rw [sa.valS]
  by_cases h0:a=(bs.length:Int) ∨ rd bs a > 6
  ·rw [if_pos h0]
   rcases h0 with h0 | h0
   ·exact sa.val_b1 hU hb hg hB hC hc within h0
   ·by_cases h00:a=(bs.length:Int)
    ·exact sa.val_b1 hU hb hg hB hC hc within h00
    ·exact sa.val_b2 hU hb hg hB hC hc within ha0 (by omega) h0
  rw [if_neg h0]
  exact sa.val_bd hU hb hg hB hC hc within (by subst hw;rfl) ha0 (by have:a ≠ (bs.length:Int):=fun e=>h0 (Or.inl e);omega) (by have:¬ rd bs a > 6:=fun e=>h0 (Or.inr e);omega)
 | succ d ih =>
  intro hd within hw w a l hb hB hC ha0 ha1 hl0 hl1
  rw [sa.valS_s]
  by_cases h0:a=(bs.length:Int) ∨ rd bs a > 6
  ·rw [if_pos h0]
   rcases h0 with h0 | h0
   ·exact sa.val_b1 hU hb hg hB hC hc within h0
   ·by_cases h00:a=(bs.length:Int)
    ·exact sa.val_b1 hU hb hg hB hC hc within h00
    ·exact sa.val_b2 hU hb hg hB hC hc within ha0 (by omega) h0
  rw [if_neg h0]
  have ha2:a < (bs.length:Int):=by
   have:a ≠ (bs.length:Int):=fun e=>h0 (Or.inl e)
   omega
  have hx:rd bs a≤6:=by
   have:¬ rd bs a > 6:=fun e=>h0 (Or.inr e)
   omega
  have hw8:(within == 8)=false:=beq_eq_false_iff_ne.2 (by omega)
  by_cases h1:1 > l
  ·rw [if_pos h1]
   exact sa.val_bw hU hb hg hB hC hc within hw8 ha0 ha2 hx h1
  rw [if_neg h1]
  have hl:1≤l:=by omega
  by_cases k1:rd bs a=1
  ·rw [if_pos k1];exact sa.val_t1 hU hb hg hB hC hc within hw8 ha0 ha2 hl hl1 k1
  rw [if_neg k1]
  by_cases k2:rd bs a=2
  ·rw [if_pos k2];exact sa.val_t2 hU hb hg hB hC hc within hw8 ha0 ha2 hl hl1 k2
  rw [if_neg k2]
  by_cases k3:rd bs a=3
  ·rw [if_pos k3]
   by_cases e1:(i (a+1)).2.2 ≠ 0
   ·rw [if_pos e1];exact sa.val_t3N hU hb hg hB hC hc within hw8 ha0 ha2 hl hl1 k3 e1
   ·rw [if_neg e1];exact sa.val_t3 hU hb hg hB hC hc within hw8 ha0 ha2 hl hl1 k3 (Classical.byContradiction e1)
  rw [if_neg k3]
  have hIH:∀ (W:World) (a l:Int),Below w0.heap.size w0 W→sa.Blk W g A bs.length c a l→(Kd.int .u8).C W A bs.length bs→0≤a→a≤(bs.length:Int)→0≤l→l≤2048→Calls Try.prog 73 #[.pointer (some ⟨g,0,none⟩),.int .i64 (within+1)] W (sa.GotV (sa.valS bs u i d a l) w0 W g A bs.length c):=ih (by omega) (within+1) (by omega)
  have hFB:∀ (a l:Int) (x:S34) (a2 l2:Int),0≤a→a≤(bs.length:Int)→0≤l→l≤2048→sa.valS bs u i d a l=.ok x a2 l2→0≤a2∧a2≤(bs.length:Int)∧0≤l2∧l2≤2048:=fun a l x a2 l2 q1 q2 q3 q4 q=>sa.valS_b hU d a l x a2 l2 ⟨q1,q2,q3,q4⟩ q
  have hwi:0≤within∧within≤8:=by omega
  by_cases k4:rd bs a=4
  ·rw [if_pos k4]
   by_cases e1:(u (a+1)).2.2 ≠ 0
   ·rw [if_pos e1];exact sa.val_t4E hU hb hg hB hC hc within hw8 ha0 ha2 hl hl1 k4 e1
   rw [if_neg e1]
   have e1':(u (a+1)).2.2=0:=Classical.byContradiction e1
   by_cases e2:(l - 1) / 1 < (u (a+1)).1
   ·rw [if_pos e2];exact sa.val_t4S hU hb hg hB hC hc within hw8 ha0 ha2 hl hl1 k4 e1' e2
   rw [if_neg e2]
   by_cases e3:(bs.length:Int) - (u (a+1)).2.1 < (u (a+1)).1
   ·rw [if_pos e3];exact sa.val_t4C hU hb hg hB hC hc within hw8 ha0 ha2 hl hl1 k4 e1' (Int.not_lt.1 e2) e3
   ·rw [if_neg e3];exact sa.val_t4 hU hb hg hB hC hc within hw8 ha0 ha2 hl hl1 k4 e1' (Int.not_lt.1 e2) (Int.not_lt.1 e3)
  rw [if_neg k4]
  by_cases k5:rd bs a=5
  ·rw [if_pos k5]
   by_cases e1:(u (a+1)).2.2 ≠ 0
   ·rw [if_pos e1];exact sa.val_t5E hU hb hg hB hC hc within hw8 ha0 ha2 hl hl1 k5 e1
   rw [if_neg e1]
   have e1':(u (a+1)).2.2=0:=Classical.byContradiction e1
   by_cases e2:(l - 1) / 1 < (u (a+1)).1
   ·rw [if_pos e2];exact sa.val_t5S hU hb hg hB hC hc within hw8 ha0 ha2 hl hl1 k5 e1' e2
   ·rw [if_neg e2];exact sa.val_t5 hU hb hg hB hC hc within hw8 ha0 ha2 hl hl1 k5 e1' (Int.not_lt.1 e2) hwi _ hFB hIH
  rw [if_neg k5]
  by_cases k6:rd bs a=6
  ·rw [if_pos k6]
   by_cases e1:(u (a+1)).2.2 ≠ 0
   ·rw [if_pos e1];exact sa.val_t6E hU hb hg hB hC hc within hw8 ha0 ha2 hl hl1 k6 e1
   rw [if_neg e1]
   have e1':(u (a+1)).2.2=0:=Classical.byContradiction e1
   by_cases e2:(l - 1) / 2 < (u (a+1)).1
   ·rw [if_pos e2];exact sa.val_t6S hU hb hg hB hC hc within hw8 ha0 ha2 hl hl1 k6 e1' e2
   ·rw [if_neg e2];exact sa.val_t6 hU hb hg hB hC hc within hw8 ha0 ha2 hl hl1 k6 e1' (Int.not_lt.1 e2) hwi _ hFB hIH
  rw [if_neg k6]
  have hbx:0≤rd bs a:=by
   have hlt:a.toNat < bs.length:=by omega
   have:rd bs a=bs[a.toNat]:=by unfold rd;rw [List.getD_eq_getElem?_getD,List.getElem?_eq_getElem hlt];rfl
   rw [this]
   exact (hU.B _ (List.getElem_mem hlt)).1
  exact sa.val_t0 hU hb hg hB hC hc within hw8 ha0 ha2 hl hl1 (by omega)
end
section
set_option maxHeartbeats 4000000
set_option maxRecDepth 100000
def sa.KRow (w:World) (Y:Nat→Prop) (v:Value) (ks:List ByteArray):Prop :=
 (v=.slice none 0 0∧ks=[]) ∨ ∃ b c cs,v=.slice (some ⟨b,0,none⟩) ks.length c∧Y b∧w.heap[b]?=some (.cells cs 9 (0,0))∧ks.length≤c∧c≤cs.size∧c≤9223372036854775807∧∀ (i:Nat) k,ks[i]?=some k→cs[i]?=some (.string k)
def sa.grp (cs:Array Value) (o:Nat) (v0 v1 v2 v3 v4:Value):Prop:=cs[o]?=some v0∧cs[o+1]?=some v1∧cs[o+2]?=some v2∧cs[o+3]?=some v3∧cs[o+4]?=some v4
def sa.VRow (w:World) (Y:Nat→Prop):Nat→Value→List S34→Prop
 | 0,_,_=>False
 | d+1,v,xs=>(v=.slice none 0 0∧xs=[]) ∨ ∃ b c cs,v=.slice (some ⟨b,0,none⟩) xs.length c∧Y b∧w.heap[b]?=some (.cells cs 34 (0,0))∧xs.length≤c∧c * 5≤cs.size∧c≤9223372036854775807∧∀ (i:Nat) x,xs[i]?=some x→∃ u3 u4,sa.grp cs (i * 5) (.int .i64 x.f0) (.int .i64 x.f1) (.string x.f2) u3 u4∧sa.VRow w Y d u3 x.f3∧sa.KRow w Y u4 x.f4
def sa.deepL:Nat→List S34→Prop
 | 0,_=>False
 | d+1,xs=>∀ x ∈ xs,sa.deepL d x.f3
theorem sa.deepL_nil (d:Nat):sa.deepL (d+1) []:=fun x hx=>by cases hx
theorem sa.VRow.nil (w:World) (Y:Nat→Prop) (d:Nat):sa.VRow w Y (d+1) (.slice none 0 0) []:=Or.inl ⟨rfl,rfl⟩
theorem sa.seg_at {inner L:List Value} {o n j:Nat} {q:Value} (h:(inner.drop o).take n=L) (hq:L[j]?=some q):inner[o+j]?=some q:=by
 rw [← h,List.getElem?_take] at hq
 split at hq
 ·rwa [List.getElem?_drop] at hq
 ·cases hq
theorem sa.take_at {cur:Array Value} {m j:Nat} {q:Value} {inner:List Value} (h:cur.toList.take m=inner) (hq:inner[j]?=some q):cur[j]?=some q:=by
 rw [← h,List.getElem?_take] at hq
 split at hq
 ·rwa [Array.getElem?_toList] at hq
 ·cases hq
theorem sa.KRow.of_R {w:World} {Y ok:Nat→Prop} {base:Nat} {v:Value} {ks:List ByteArray} (h:Kd.string.R 9 w base ok v ks) (hY:∀ k,ok k→Y k):sa.KRow w Y v ks:=by
 obtain ⟨h0,inner,ho,hr⟩:=h
 rcases ho.2 with ⟨rfl,hn⟩ | ⟨g,cap,cur,rfl,hb,hh,hl,hm,hsz,hi⟩
 ·exact Or.inl ⟨rfl,List.length_eq_zero_iff.1 hn⟩
 ·refine Or.inr ⟨g,cap,cur,rfl,hY g (h0 g rfl),hh,hl, ?_,hm,fun i k hk => ?_⟩
  ·have:cur.size=cap * 1:=hsz
   omega
  ·have h1:(inner.drop (i * 1)).take 1=[.string k]:=hr.2 i k hk
   have h2:=sa.seg_at h1 (j:=0) rfl
   have h3:=sa.take_at hi h2
   rwa [Nat.mul_one,Nat.add_zero] at h3
theorem sa.VRow.of_R {w:World} {Y:Nat→Prop} {base:Nat}:∀ (d:Nat) {ok:Nat→Prop} {v:Value} {xs:List S34},k34.R 34 w base ok v xs→(∀ k,ok k→Y k)→sa.deepL d xs→sa.VRow w Y d v xs
 | 0,ok,v,xs,h,hY,hd=>hd.elim
 | d+1,ok,v,xs,h,hY,hd=>by
  obtain ⟨h0,inner,ho,hr⟩:=h
  rcases ho.2 with ⟨rfl,hn⟩ | ⟨g,cap,cur,rfl,hb,hh,hl,hm,hsz,hi⟩
  ·exact Or.inl ⟨rfl,List.length_eq_zero_iff.1 hn⟩
  ·refine Or.inr ⟨g,cap,cur,rfl,hY g (h0 g rfl),hh,hl, ?_,hm,fun i x hx => ?_⟩
   ·have:cur.size=cap * 5:=hsz
    omega
   ·have hM:=hr.2 i x hx
    obtain ⟨v3,v4,hcs,g3,g4⟩:=k34_openM hM
    have hcs':(inner.drop (i * 5)).take 5=[.int .i64 x.f0,.int .i64 x.f1,.string x.f2,v3,v4]:=hcs
    have hx2:x ∈ xs:=List.mem_of_getElem? hx
    exact ⟨v3,v4,⟨sa.take_at hi (sa.seg_at hcs' (j:=0) rfl),sa.take_at hi (sa.seg_at hcs' (j:=1) rfl),sa.take_at hi (sa.seg_at hcs' (j:=2) rfl),sa.take_at hi (sa.seg_at hcs' (j:=3) rfl),sa.take_at hi (sa.seg_at hcs' (j:=4) rfl)⟩,sa.VRow.of_R d g3 (fun k hk=>hY k hk.1) (hd x hx2),sa.KRow.of_R g4 (fun k hk=>hY k hk.1)⟩
theorem sa.cell_of {w:World} {b i t:Nat} {cs:Array Value} {q:Value} (h:w.heap[b]?=some (.cells cs t (0,0))) (hi:cs[i]?=some q):w.cell? ⟨b,i,none⟩=some q:=by
 have h2:=qAB h i
 rw [h2];exact hi
theorem sa.KRow.C {w:World} {Y:Nat→Prop} {v:Value} {ks:List ByteArray} (h:sa.KRow w Y v ks):∃ A c,v=.slice A ks.length c∧ks.length≤c∧Kd.string.C w A ks.length ks:=by
 rcases h with ⟨rfl,rfl⟩ | ⟨b,c,cs,rfl,_,hh,hl,hsz,hm,hc⟩
 ·exact ⟨none,0,rfl,Nat.le_refl _,rfl,by simp,fun hp=>absurd hp (by decide)⟩
 ·refine ⟨_,c,rfl,hl,rfl,by omega,fun hp=>⟨_,rfl,fun j p hj=>⟨[.string p],rfl,rfl,fun i u hu => ?_⟩⟩⟩
  cases i with
  | succ i=>simp at hu
  | zero =>
   have:u=.string p:=by simpa using hu.symm
   subst this
   have h1:=sa.cell_of hh (hc j p hj)
   have e:(⟨b,0,none⟩:Addr).add (j * Kd.string.sz+0)=⟨b,j,none⟩:=by
    rw [Addr.add_lit]
    show (⟨b,0+(j * 1+0),none⟩:Addr)=_
    rw [show 0+(j * 1+0)=j from by omega]
   rw [e];exact h1
theorem sa.VRow.C {w:World} {Y:Nat→Prop}:∀ (d:Nat) {v:Value} {xs:List S34},sa.VRow w Y d v xs→∃ A c,v=.slice A xs.length c∧xs.length≤c∧k34.C w A xs.length xs
 | 0,v,xs,h=>h.elim
 | d+1,v,xs,h=>by
  rcases h with ⟨rfl,rfl⟩ | ⟨b,c,cs,rfl,_,hh,hl,hsz,hm,hc⟩
  ·exact ⟨none,0,rfl,Nat.le_refl _,rfl,by simp,fun hp=>absurd hp (by decide)⟩
  ·refine ⟨_,c,rfl,hl,rfl,by omega,fun hp=>⟨_,rfl,fun j p hj => ?_⟩⟩
   obtain ⟨u3,u4,⟨q0,q1,q2,q3,q4⟩,r3,r4⟩:=hc j p hj
   obtain ⟨A3,c3,e3,l3,g3⟩:=sa.VRow.C d r3
   obtain ⟨A4,c4,e4,l4,g4⟩:=r4.C
   subst e3;subst e4
   refine ⟨[.int .i64 p.f0,.int .i64 p.f1,.string p.f2,.slice A3 p.f3.length c3,.slice A4 p.f4.length c4],rfl,k34_mk w p l3 g3 l4 g4,fun i u hu => ?_⟩
   have e:∀ i,(⟨b,0,none⟩:Addr).add (j * k34.sz+i)=⟨b,j * 5+i,none⟩:=fun i=>by
    rw [Addr.add_lit]
    show (⟨b,0+(j * 5+i),none⟩:Addr)=_
    rw [Nat.zero_add]
   rw [e]
   match i,hu with
   | 0,hu =>
     have:u=.int .i64 p.f0:=by simpa using hu.symm
     subst this;exact sa.cell_of hh q0
   | 1,hu =>
     have:u=.int .i64 p.f1:=by simpa using hu.symm
     subst this;exact sa.cell_of hh q1
   | 2,hu =>
     have:u=.string p.f2:=by simpa using hu.symm
     subst this;exact sa.cell_of hh q2
   | 3,hu =>
     have:u=.slice A3 p.f3.length c3:=by simpa using hu.symm
     subst this;exact sa.cell_of hh q3
   | 4,hu =>
     have:u=.slice A4 p.f4.length c4:=by simpa using hu.symm
     subst this;exact sa.cell_of hh q4
   | i+5,hu=>simp at hu
theorem sa.KRow.move {w w1:World} {Y Y1:Nat→Prop} {v:Value} {ks:List ByteArray} (h:sa.KRow w Y v ks) (hY:∀ k,Y k→Y1 k) (hm:∀ k,Y k→k < w.heap.size→w1.heap[k]?=w.heap[k]?):sa.KRow w1 Y1 v ks:=by
 rcases h with ⟨rfl,rfl⟩ | ⟨b,c,cs,rfl,hy,hh,hl,hsz,hmx,hc⟩
 ·exact Or.inl ⟨rfl,rfl⟩
 ·exact Or.inr ⟨b,c,cs,rfl,hY b hy,(hm b hy (qAe hh)).trans hh,hl,hsz,hmx,hc⟩
theorem sa.VRow.move {w w1:World} {Y Y1:Nat→Prop} (hY:∀ k,Y k→Y1 k) (hm:∀ k,Y k→k < w.heap.size→w1.heap[k]?=w.heap[k]?):∀ (d:Nat) {v:Value} {xs:List S34},sa.VRow w Y d v xs→sa.VRow w1 Y1 d v xs
 | 0,v,xs,h=>h.elim
 | d+1,v,xs,h=>by
  rcases h with ⟨rfl,rfl⟩ | ⟨b,c,cs,rfl,hy,hh,hl,hsz,hmx,hc⟩
  ·exact Or.inl ⟨rfl,rfl⟩
  ·refine Or.inr ⟨b,c,cs,rfl,hY b hy,(hm b hy (qAe hh)).trans hh,hl,hsz,hmx,fun j p hj => ?_⟩
   obtain ⟨u3,u4,hg,r3,r4⟩:=hc j p hj
   exact ⟨u3,u4,hg,sa.VRow.move hY hm d r3,r4.move hY hm⟩
def sa.qCF:Value→Value
 | .slice A n _=>.slice A n n
 | v=>v
theorem sa.clip2 (v:Value):sa.qCF (sa.qCF v)=sa.qCF v:=by
 cases v <;> rfl
structure sa.SimT (Y:Nat→Prop) (w w1:World):Prop where
 os:w1.os=w.os
 tape:w1.tape=w.tape
 output:w1.output=w.output
 size:w.heap.size≤w1.heap.size
 out:∀ k,k < w.heap.size→¬ Y k→w1.heap[k]?=w.heap[k]?
 ins:∀ k,Y k→k < w.heap.size→w1.heap[k]?=w.heap[k]? ∨ ∃ cs cs':Array Value,w.heap[k]?=some (.cells cs 34 (0,0))∧w1.heap[k]?=some (.cells cs' 34 (0,0))∧cs'.size=cs.size∧∀ i:Nat,cs'[i]?=cs[i]? ∨ cs'[i]?=(cs[i]?).map sa.qCF
theorem sa.SimT.of_below {Y:Nat→Prop} {w w1:World} (h:Below w.heap.size w w1):sa.SimT Y w w1:=⟨h.os,h.tape,h.output,h.size,fun k hk _=>h.block k hk,fun k _ hk=>Or.inl (h.block k hk)⟩
theorem sa.SimT.refl (Y:Nat→Prop) (w:World):sa.SimT Y w w:=sa.SimT.of_below (Below.refl _ _)
theorem sa.SimT.trans {Y:Nat→Prop} {w w1 w2:World} (h:sa.SimT Y w w1) (k:sa.SimT Y w1 w2):sa.SimT Y w w2:=by
 refine ⟨k.os.trans h.os,k.tape.trans h.tape,k.output.trans h.output,Nat.le_trans h.size k.size,fun i hi hy=>(k.out i (Nat.lt_of_lt_of_le hi h.size) hy).trans (h.out i hi hy),fun i hy hi => ?_⟩
 rcases k.ins i hy (Nat.lt_of_lt_of_le hi h.size) with e | ⟨cs1,cs2,e1,e2,e3,e4⟩
 ·rw [e];exact h.ins i hy hi
 ·rcases h.ins i hy hi with f | ⟨ds1,ds2,f1,f2,f3,f4⟩
  ·exact Or.inr ⟨cs1,cs2,f▸e1,e2,e3,e4⟩
  ·rw [f2] at e1
   injection e1 with e1
   injection e1 with e1
   subst e1
   refine Or.inr ⟨ds1,cs2,f1,e2,e3.trans f3,fun j => ?_⟩
   rcases e4 j with q | q <;> rcases f4 j with r | r
   ·exact Or.inl (q.trans r)
   ·exact Or.inr (q.trans r)
   ·exact Or.inr (by rw [q,r])
   ·refine Or.inr ?_
    rw [q,r]
    cases ds1[j]? with
    | none=>rfl
    | some x=>simp [sa.clip2]
theorem sa.SimT.far {Y:Nat→Prop} {w w1 w2:World} (h:sa.SimT Y w w1) {g:Nat} (hgr:w1.grownBy w2 (some g)) (hg:w.heap.size≤g):sa.SimT Y w w2:=by
 have hb:∀ i,i < w.heap.size→w2.heap[i]?=w1.heap[i]?:=fun i hi=>hgr.block i (Nat.lt_of_lt_of_le hi h.size) (fun e=>absurd (Option.some.inj e) (by omega))
 refine ⟨hgr.os.trans h.os,hgr.tape.trans h.tape,hgr.output.trans h.output,Nat.le_trans h.size hgr.size,fun i hi hy=>(hb i hi).trans (h.out i hi hy),fun i hy hi => ?_⟩
 rw [hb i hi]
 exact h.ins i hy hi
theorem sa.SimT.set {Y:Nat→Prop} {w w1:World} (h:sa.SimT Y w w1) {a:Addr} (hg:w.heap.size≤a.block) (v:Value):sa.SimT Y w (w1.setCell a v):=by
 have hb:∀ i,i < w.heap.size→(w1.setCell a v).heap[i]?=w1.heap[i]?:=fun i hi=>Below.heap_setCell w1 a v i (by omega)
 refine ⟨h.os,h.tape,h.output,by rw [Deep.nblk_setCell];exact h.size,fun i hi hy=>(hb i hi).trans (h.out i hi hy),fun i hy hi => ?_⟩
 rw [hb i hi]
 exact h.ins i hy hi
theorem sa.SimT.below {Y:Nat→Prop} {w w1:World} (h:sa.SimT Y w w1) {n:Nat} (hY:∀ k,Y k→n≤k) (hn:n≤w.heap.size):Below n w w1 :=
 ⟨h.os,h.tape,h.output,h.size,fun k hk=>h.out k (by omega) (fun y=>by have:=hY k y;omega)⟩
theorem sa.KRow.simT {Y:Nat→Prop} {w w1:World} (hS:sa.SimT Y w w1) {v:Value} {ks:List ByteArray} (h:sa.KRow w Y v ks):sa.KRow w1 Y v ks∧sa.KRow w1 Y (sa.qCF v) ks:=by
 rcases h with ⟨rfl,rfl⟩ | ⟨b,c,cs,rfl,hy,hh,hl,hsz,hmx,hc⟩
 ·exact ⟨Or.inl ⟨rfl,rfl⟩,Or.inl ⟨rfl,rfl⟩⟩
 ·have h1:w1.heap[b]?=some (.cells cs 9 (0,0)):=by
   rcases hS.ins b hy (qAe hh) with e | ⟨cs1,cs2,e1,_⟩
   ·exact e.trans hh
   ·rw [hh] at e1
    injection e1 with e1
    injection e1 with _ e1
    exact absurd e1 (by decide)
  exact ⟨Or.inr ⟨b,c,cs,rfl,hy,h1,hl,hsz,hmx,hc⟩,Or.inr ⟨b,_,cs,rfl,hy,h1,Nat.le_refl _,by omega,by omega,hc⟩⟩
theorem sa.VRow.simT {Y:Nat→Prop} {w w1:World} (hS:sa.SimT Y w w1):∀ (d:Nat) {v:Value} {xs:List S34},sa.VRow w Y d v xs→sa.VRow w1 Y d v xs∧sa.VRow w1 Y d (sa.qCF v) xs
 | 0,v,xs,h=>h.elim
 | d+1,v,xs,h=>by
  rcases h with ⟨rfl,rfl⟩ | ⟨b,c,cs,rfl,hy,hh,hl,hsz,hmx,hc⟩
  ·exact ⟨Or.inl ⟨rfl,rfl⟩,Or.inl ⟨rfl,rfl⟩⟩
  ·have h1:∃ cs',w1.heap[b]?=some (.cells cs' 34 (0,0))∧cs'.size=cs.size∧∀ i:Nat,cs'[i]?=cs[i]? ∨ cs'[i]?=(cs[i]?).map sa.qCF:=by
    rcases hS.ins b hy (qAe hh) with e | ⟨cs1,cs2,e1,e2,e3,e4⟩
    ·exact ⟨cs,e.trans hh,rfl,fun i=>Or.inl rfl⟩
    ·rw [hh] at e1
     injection e1 with e1
     injection e1 with e1
     subst e1
     exact ⟨cs2,e2,e3,e4⟩
   obtain ⟨cs',h1,h2,h3⟩:=h1
   have hgr:∀ (i:Nat) x,xs[i]?=some x→∃ u3 u4,sa.grp cs' (i * 5) (.int .i64 x.f0) (.int .i64 x.f1) (.string x.f2) u3 u4∧sa.VRow w1 Y d u3 x.f3∧sa.KRow w1 Y u4 x.f4:=fun i x hx=>by
    obtain ⟨u3,u4,⟨q0,q1,q2,q3,q4⟩,r3,r4⟩:=hc i x hx
    have s3:=sa.VRow.simT hS d r3
    have s4:=sa.KRow.simT hS r4
    have keep:∀ j q,cs[j]?=some q→sa.qCF q=q→cs'[j]?=some q:=fun j q e1 e2=>by
     rcases h3 j with e | e
     ·rw [e,e1]
     ·rw [e,e1];simp [e2]
    have t0:=keep _ _ q0 rfl
    have t1:=keep _ _ q1 rfl
    have t2:=keep _ _ q2 rfl
    have t3:cs'[i * 5+3]?=some u3 ∨ cs'[i * 5+3]?=some (sa.qCF u3):=by
     rcases h3 (i * 5+3) with e | e
     ·exact Or.inl (by rw [e,q3])
     ·exact Or.inr (by rw [e,q3];rfl)
    have t4:cs'[i * 5+4]?=some u4 ∨ cs'[i * 5+4]?=some (sa.qCF u4):=by
     rcases h3 (i * 5+4) with e | e
     ·exact Or.inl (by rw [e,q4])
     ·exact Or.inr (by rw [e,q4];rfl)
    rcases t3 with t3 | t3 <;> rcases t4 with t4 | t4
    ·exact ⟨_,_,⟨t0,t1,t2,t3,t4⟩,s3.1,s4.1⟩
    ·exact ⟨_,_,⟨t0,t1,t2,t3,t4⟩,s3.1,s4.2⟩
    ·exact ⟨_,_,⟨t0,t1,t2,t3,t4⟩,s3.2,s4.1⟩
    ·exact ⟨_,_,⟨t0,t1,t2,t3,t4⟩,s3.2,s4.2⟩
   exact ⟨Or.inr ⟨b,c,cs',rfl,hy,h1,hl,by omega,hmx,hgr⟩,Or.inr ⟨b,_,cs',rfl,hy,h1,Nat.le_refl _,by omega,by omega,hgr⟩⟩
theorem sa.SimT.store {Y:Nat→Prop} {w w7 W1:World} (h:sa.SimT Y w w7) {b o:Nat} {cs cs':Array Value} (hy:Y b) (hb:w.heap[b]?=some (.cells cs 34 (0,0))) {v0 v1 v2 v3 v4:Value} (hg:sa.grp cs o v0 v1 v2 v3 v4) (hgr:w7.grownBy W1 (some b))
  (h1:W1.heap[b]?=some (.cells cs' 34 (0,0))) (hsz:cs'.size=cs.size) (hn:sa.grp cs' o (sa.qCF v0) (sa.qCF v1) (sa.qCF v2) (sa.qCF v3) (sa.qCF v4)) (hrest:∀ cs7,w7.heap[b]?=some (.cells cs7 34 (0,0))→∀ j,j < o ∨ o+5≤j→cs'[j]?=cs7[j]?):sa.SimT Y w W1:=by
 have hne:∀ i,i < w.heap.size→i ≠ b→W1.heap[i]?=w7.heap[i]?:=fun i hi hib=>hgr.block i (Nat.lt_of_lt_of_le hi h.size) (fun e=>hib (Option.some.inj e))
 refine ⟨hgr.os.trans h.os,hgr.tape.trans h.tape,hgr.output.trans h.output,Nat.le_trans h.size hgr.size,fun i hi hi2=>(hne i hi (fun e=>hi2 (e▸hy))).trans (h.out i hi hi2),fun i hi hlt => ?_⟩
 by_cases hib:i=b
 ·subst hib
  obtain ⟨cs7,k1,k2⟩:∃ cs7,w7.heap[i]?=some (.cells cs7 34 (0,0))∧∀ j,cs7[j]?=cs[j]? ∨ cs7[j]?=(cs[j]?).map sa.qCF:=by
   rcases h.ins i hy hlt with e | ⟨cs1,cs2,e1,e2,e3,e4⟩
   ·exact ⟨cs,e.trans hb,fun j=>Or.inl rfl⟩
   ·rw [hb] at e1
    injection e1 with e1
    injection e1 with e1
    subst e1
    exact ⟨cs2,e2,e4⟩
  refine Or.inr ⟨cs,cs',hb,h1,hsz,fun j => ?_⟩
  by_cases hj:j < o ∨ o+5≤j
  ·rw [hrest cs7 k1 j hj]
   exact k2 j
  ·obtain ⟨m,rfl,hm⟩:∃ m,j=o+m∧m < 5:=⟨j - o,by omega,by omega⟩
   obtain ⟨q0,q1,q2,q3,q4⟩:=hg
   obtain ⟨p0,p1,p2,p3,p4⟩:=hn
   match m,hm with
   | 0,_=>exact Or.inr (by rw [show o+0=o from rfl,p0,q0];rfl)
   | 1,_=>exact Or.inr (by rw [p1,q1];rfl)
   | 2,_=>exact Or.inr (by rw [p2,q2];rfl)
   | 3,_=>exact Or.inr (by rw [p3,q3];rfl)
   | 4,_=>exact Or.inr (by rw [p4,q4];rfl)
 ·rw [hne i hlt hib]
  exact h.ins i hi hlt
section
variable {P:Program} {ops:Array Oper} {Q:Exit→Act→World→Prop}
theorem sa.st25 {oi:Oper} {a:Act} {W:World} {K:Act→World→Prop} (t:TypeId) (hw:Region.wanted oi (yielded ops a.tmps)=true) (hN:oi.dst=none) (p:Tmp) (x:Operand) (ho:oi.op=.store t (.tmp p) x) (hinf:(P.info? t).map (·.size)=some 5) (b o:Nat) (haddr:a.eval (.tmp p)=.pointer (some ⟨b,o,none⟩)) (v0 v1 v2 v3 v4:Value) (hx:a.eval x=.agg #[v0,v1,v2,v3,v4]) (h1:∀ q ∈ [v0,v1,v2,v3,v4],q.oneCell'=true) (cur:Array Value) (e:TypeId) (hsz:o+5≤cur.size) (hh:W.heap[b]?=some (.cells cur e (0,0)))
  (h:∀ W1 cur',W1.heap[b]?=some (.cells cur' e (0,0))→cur'.size=cur.size→sa.grp cur' o v0 v1 v2 v3 v4→(∀ j,j < o ∨ o+5≤j→cur'[j]?=cur[j]?)→W.grownBy W1 (some b)→K a W1):if Region.wanted oi (yielded ops a.tmps)=true then Oper.wp P oi a W K Q else K (a.put none undef) W:=by
 have hu:(Value.agg #[v0,v1,v2,v3,v4]).cells.toList=[v0,v1,v2,v3,v4]:=by simp [Value.cells]
 have hrun:(Instr.storeAt t (.pointer (some ⟨b,o,none⟩)) (.agg #[v0,v1,v2,v3,v4])).run P W=.ok () (W.setCells b o [v0,v1,v2,v3,v4]) :=
  qCU t _ [v0,v1,v2,v3,v4] hh hu hinf hsz h1
 obtain ⟨cur',c1,c2,c3⟩:=qBw [v0,v1,v2,v3,v4] o W cur hh hsz
 obtain ⟨s1,s2,s3,s4⟩:=qBq b [v0,v1,v2,v3,v4] o W
 have hlen:(cur.toList.take o).length=o:=by rw [List.length_take,Array.length_toList];omega
 have hat:∀ j,cur'[j]?=(cur.toList.take o ++ [v0,v1,v2,v3,v4] ++ cur.toList.drop (o+5))[j]?:=fun j=>by rw [← Array.getElem?_toList,c3];rfl
 have hin:∀ m,m < 5→cur'[o+m]?=[v0,v1,v2,v3,v4][m]?:=fun m hm=>by
  rw [hat,List.append_assoc,List.getElem?_append_right (by omega),hlen,Nat.add_sub_cancel_left,List.getElem?_append_left (by simpa using hm)]
 refine skip_ hw hN (w1:=W.setCells b o [v0,v1,v2,v3,v4]) ?_ (h _ cur' c1 c2 ⟨hin 0 (by omega),hin 1 (by omega),hin 2 (by omega),hin 3 (by omega),hin 4 (by omega)⟩ (fun j hj => ?_) ⟨s1,s2,s3,by omega,fun k hk hne=>qBx _ _ k (fun e=>hne (by rw [e]))⟩)
 ·unfold execOp
  simp only [ho,haddr,hx,Sem.run_bind,Sem.run_pure,Result.andThen_ok,hrun]
 ·rw [hat]
  rcases hj with hj | hj
  ·rw [List.append_assoc,List.getElem?_append_left (by omega),List.getElem?_take,if_pos hj,Array.getElem?_toList]
  ·rw [List.append_assoc,List.getElem?_append_right (by omega),hlen,List.getElem?_append_right (by simp;omega),List.getElem?_drop]
   have e:o+5+(j - o - [v0,v1,v2,v3,v4].length)=j:=by simp;omega
   rw [e,Array.getElem?_toList]
end
end
section
set_option maxHeartbeats 4000000
set_option maxRecDepth 100000
theorem sa.cutc {P:Program} (t e:TypeId) {i:TypeInfo} (ht:P.underlying t=some (.slice e)) (hi:P.info? e=some i) (A:Option Addr) (n c:Nat) (hc:n≤c) :
  ∀ W:World,(Instr.slice t (.slice A n c) none (some (.int .i64 (n:Int))) (some (.int .i64 (n:Int)))).run P W=.ok (.slice A n n) W:=by
 intro W
 have hel:P.elem t=e:=by simp [Program.elem,ht]
 have hu:P.underlying t=some (.slice (P.elem t)):=by rw [hel];exact ht
 have ha:(A.map fun x=>x.add 0)=A:=by cases A <;> simp [Addr.add]
 rw [run_slice_hm W t A n c hu .i64 .i64 n n (by omega) (by omega) (by omega),hel]
 simp [sizeOf,typeInfo,hi,sliced,Result.andThen,ha]
theorem sa.clip56 (A:Option Addr) (n c:Nat) (hc:n≤c) (w:World):Calls Try.prog 93 #[.slice A n c] w fun e w'=>e=.returned (.slice A n n)∧Below w.heap.size w w':=by
 obtain ⟨i0,hi0,_,_,_⟩:=info_parts info9
 have hcut:=sa.cutc (P:=Try.prog) 32 9 Try.underlying32 hi0 A n c hc
 clear hi0
 go_enter Try.func93,Try.ntmps93
 go_wp2
 go_ret
 exact ⟨rfl,Below.refl _ _⟩
theorem sa.clip57 (A:Option Addr) (n c:Nat) (hc:n≤c) (w:World):Calls Try.prog 94 #[.slice A n c] w fun e w'=>e=.returned (.slice A n n)∧Below w.heap.size w w':=by
 obtain ⟨i0,hi0,_,_,_⟩:=info_parts info34
 have hcut:=sa.cutc (P:=Try.prog) 31 34 Try.underlying31 hi0 A n c hc
 clear hi0
 go_enter Try.func94,Try.ntmps94
 go_wp2
 go_ret
 exact ⟨rfl,Below.refl _ _⟩
def sa.five (w:World) (p:Addr) (v0 v1 v2 v3 v4:Value):Prop:=w.cell? p=some v0∧w.cell? ⟨p.block,p.off+1,none⟩=some v1∧w.cell? ⟨p.block,p.off+2,none⟩=some v2∧w.cell? ⟨p.block,p.off+3,none⟩=some v3∧w.cell? ⟨p.block,p.off+4,none⟩=some v4
theorem sa.five.of {w:World} {b o:Nat} {cs:Array Value} {v0 v1 v2 v3 v4:Value} (h:w.heap[b]?=some (.cells cs 34 (0,0))) (hg:sa.grp cs o v0 v1 v2 v3 v4) {ad:Addr} (ha:ad=⟨b,0,none⟩):sa.five w (ad.add o) v0 v1 v2 v3 v4:=by
 subst ha
 rw [Addr.add_lit,Nat.zero_add]
 exact ⟨sa.cell_of h hg.1,sa.cell_of h hg.2.1,sa.cell_of h hg.2.2.1,sa.cell_of h hg.2.2.2.1,sa.cell_of h hg.2.2.2.2⟩
theorem sa.SimT.block {Y:Nat→Prop} {w w1:World} (h:sa.SimT Y w w1) {b:Nat} {cs:Array Value} (hy:Y b) (hb:w.heap[b]?=some (.cells cs 34 (0,0))):∃ cs',w1.heap[b]?=some (.cells cs' 34 (0,0))∧cs'.size=cs.size:=by
 rcases h.ins b hy (qAe hb) with e | ⟨cs1,cs2,e1,e2,e3,_⟩
 ·exact ⟨cs,e.trans hb,rfl⟩
 ·rw [hb] at e1
  injection e1 with e1
  injection e1 with e1
  subst e1
  exact ⟨cs2,e2,e3⟩
theorem sa.VRow.elem {w:World} {Y:Nat→Prop} {d n c:Nat} {A:Option Addr} {xs:List S34} (h:sa.VRow w Y (d+1) (.slice A n c) xs) {j:Nat} (hj:j < n) (hn:xs.length=n):∃ b cs x u3 u4,A=some ⟨b,0,none⟩∧Y b∧w.heap[b]?=some (.cells cs 34 (0,0))∧n≤c∧c * 5≤cs.size∧xs[j]?=some x∧sa.grp cs (j * 5) (.int .i64 x.f0) (.int .i64 x.f1) (.string x.f2) u3 u4∧sa.VRow w Y d u3 x.f3∧sa.KRow w Y u4 x.f4:=by
 rcases h with ⟨_,rfl⟩ | ⟨b,c',cs,e,hy,hh,hl,hsz,hm,hc⟩
 ·simp at hn;omega
 ·injection e with e1 e2 e3
  subst e1;subst e3
  have hx:xs[j]?=some xs[j]:=List.getElem?_eq_getElem (by omega)
  obtain ⟨u3,u4,hg,r3,r4⟩:=hc j _ hx
  exact ⟨b,cs,_,u3,u4,rfl,hy,hh,by omega,hsz,hx,hg,r3,r4⟩
theorem sa.qBu {v:Value} (h:∃ A n c,v=.slice A n c):v.oneCell'=true∧(sa.qCF v).oneCell'=true:=by
 obtain ⟨A,n,c,rfl⟩:=h
 exact ⟨rfl,rfl⟩
theorem sa.tight1 {Y:Nat→Prop}:∀ (d:Nat) (x:S34) (v3 v4:Value) (w:World),(∀ k,Y k→k < w.heap.size)→sa.VRow w Y d v3 x.f3→sa.KRow w Y v4 x.f4 →
  Calls Try.prog 74 #[.agg #[.int .i64 x.f0,.int .i64 x.f1,.string x.f2,v3,v4]] w fun e w'=>e=.returned (.agg #[.int .i64 x.f0,.int .i64 x.f1,.string x.f2,sa.qCF v3,sa.qCF v4])∧sa.SimT Y w w':=by
 intro d
 induction d with
 | zero=>intro x v3 v4 w hY h;exact h.elim
 | succ d ih =>
 rintro ⟨f0,f1,f2,f3,f4⟩ v3 v4 w hY hV hK
 obtain ⟨A4,c4,e4,l4,g4⟩:=hK.C
 obtain ⟨A3,c3,e3,l3,g3⟩:=sa.VRow.C (d+1) hV
 subst e3;subst e4
 dsimp only at *
 have hu25:=Try.underlying34
 have HV:=zA hV
 have HY:=zA hY
 have LM:=zA g3.2.1
 have L3:=zA l3
 have L4:=zA l4
 show Calls Try.prog 74 _ w fun e w'=>e=.returned (.agg #[.int .i64 f0,.int .i64 f1,.string f2,.slice A3 f3.length f3.length,.slice A4 f4.length f4.length])∧sa.SimT Y w w'
 clear hV hY hK g3 g4 l3 l4
 obtain ⟨n,hn⟩:∃ n,f3.length=n:=⟨_,rfl⟩
 obtain ⟨m,hm⟩:∃ m,f4.length=m:=⟨_,rfl⟩
 have HN:=zA hn
 rw [hn] at HV LM L3 ⊢
 rw [hm] at L4 ⊢
 clear hn hm
 go_enter Try.func74,Try.ntmps74
 go_wp2_with (first | ((with_reducible refine qAl (N:=1) rfl ?_);refine qAg ?hg (N:=1) ?hd (cs:=#[.int .i64 f0,.int .i64 f1,.string f2,.slice A3 n c3,.slice A4 m c4]) (t:=34) ?hr ?_;(case hd=>rfl);(case hg=>rfl);(case hr=>first | (go_simp;done) | (go_simp;rfl));intro pb hpb w1 hbox hb1;have BX1:=zA hbox;have HB1:=zA hb1;have HPB:=zA (Nat.le_of_eq hpb.symm);clear hbox hb1 hpb))
 obtain ⟨w2,hw2⟩:∃ w2,w1.alloc (.cells #[.int .i64 0,.int .i64 0,.string ⟨#[]⟩,.slice none 0 0,.slice none 0 0] 34)=w2:=⟨_,rfl⟩
 have RB2:=zA (show w2.heap[w1.heap.size]?=some (.cells #[.int .i64 0,.int .i64 0,.string ⟨#[]⟩,.slice none 0 0,.slice none 0 0] 34 (0,0)) by rw [← hw2];simpa using heap_alloc_new w1 _)
 have BX2:=zA (hw2▸qAP BX1.out (.cells #[.int .i64 0,.int .i64 0,.string ⟨#[]⟩,.slice none 0 0,.slice none 0 0] 34))
 have HB2:=zA (hw2▸HB1.out.alloc HB1.out.size (.cells #[.int .i64 0,.int .i64 0,.string ⟨#[]⟩,.slice none 0 0,.slice none 0 0] 34))
 have HPR:=zA (qAe BX1.out)
 rw [hw2]
 clear hw2 BX1 HB1
 generalize w1.heap.size=rb at *
 refine qAz (n:=10) (S:=fun w'=>w'.cell? ⟨pb,4,none⟩=some (.slice A4 m c4)∧w'.cell? ⟨pb,3,none⟩=some (.slice A3 n c3)) (ds:=[7,9]) #[qF,qF,qF,qF,qF,qF,qF,qF,qF,qF] (by kernel_rfl) rfl rfl ⟨(qAB (qAL BX2.out) 4).trans rfl,(qAB (qAL BX2.out) 3).trans rfl⟩ (fun hHeld => ?_)
 generalize hwd:w2.drew=wd at hHeld ⊢
 have BD:=zA (hwd▸qAL BX2.out)
 have RD:=zA (hwd▸qAL RB2.out)
 have HD:=zA (hwd▸qAK HB2.out)
 clear hwd BX2 RB2 HB2
 refine pU 0 4 ?_
 refine pU 3 7 ?_
 refine tK 1 5 hHeld ?_
 refine tK 4 8 hHeld ?_
 refine one_ (i:=2) (N:=some 6) #[qT,qT,qT,qT,qT,qF,qF,qF,qF,qF] rfl rfl (by kernel_rfl) (by decide) (fun K hK => ?_)
 refine qBZ Try.func93 (by kernel_rfl) rfl #[.slice A4 m c4] (by rfl) rfl rfl (by (try simp only [List.map_toArray,List.map_cons,List.map_nil]);first | done | rfl) ?_
 refine (sa.clip56 A4 m c4 L4.out _).mono ?_
 rintro e w3 ⟨rfl,hb⟩
 refine ⟨_,rfl, ?_⟩
 have BX3:=zA (qAX BD.out hb)
 have RB3:=zA (qAX RD.out hb)
 have HB3:=zA (qAY HD.out HD.out.size hb)
 clear hb BD RD HD
 refine hK.out _ _ ⟨(qAB BX3.out 4).trans rfl,(qAB BX3.out 3).trans rfl⟩ (fun hHeld => ?_)
 clear hK K
 refine qA3 (a' := ?_) ?_ ?_
 rotate_left
 ·show Act.put _ (some 6) _=_
  simp only [Act.put,qs1,qs2,qs3,qAZ,qAb]
  rfl
 refine pU 6 10 ?_
 refine one_ (i:=5) (N:=some 9) #[qT,qT,qT,qT,qT,qT,qT,qF,qF,qF] rfl rfl (by kernel_rfl) (by decide) (fun K hK => ?_)
 refine qBZ Try.func94 (by kernel_rfl) rfl #[.slice A3 n c3] (by rfl) rfl rfl (by (try simp only [List.map_toArray,List.map_cons,List.map_nil]);first | done | rfl) ?_
 refine (sa.clip57 A3 n c3 L3.out _).mono ?_
 rintro e w4 ⟨rfl,hb⟩
 refine ⟨_,rfl, ?_⟩
 have BX4:=zA (qAX BX3.out hb)
 have RB4:=zA (qAX RB3.out hb)
 have HS4:=zA (sa.SimT.of_below (Y:=Y) (qAY HB3.out HB3.out.size hb))
 clear hb BX3 RB3 HB3
 have fv4:=qAC BX4.out 4
 refine hK.out _ _ ⟨(qAB BX4.out 4).trans rfl,(qAB BX4.out 3).trans rfl⟩ (fun hHeld => ?_)
 clear hK K
 refine qA3 (a' := ?_) ?_ ?_
 rotate_left
 ·show Act.put _ (some 9) _=_
  simp only [Act.put,qs1,qs2,qs3,qAZ,qAb]
  rfl
 refine last_ (i:=7) (N:=none) #[qT,qT,qT,qT,qT,qT,qT,qT,qF,qF] rfl rfl (by kernel_rfl) (by decide) (fun K hK => ?_)
 have hc4:=(qAB BX4.out 4).trans rfl
 refine skip_ (w1 := ?_) (by rfl) rfl ?_ ?_
 rotate_left
 ·go_simp
  rfl
 clear fv4 hc4
 have BX4a:=zA (qAy BX4.out 4 (.slice A4 m m) rfl)
 have RB4a:=zA ((Below.heap_setCell _ ⟨pb,4,none⟩ (.slice A4 m m) rb (show rb ≠ pb by have:=HPR.out;omega)).trans RB4.out)
 have HS4a:=zA (HS4.out.set (a:=⟨pb,4,none⟩) HPB.out (.slice A4 m m))
 have fv3:=qAC BX4a.out 3
 have hc3:=(qAB BX4a.out 3).trans rfl
 refine hK.out _ _ ?_
 clear hK K
 refine pU 8 11 ?_
 refine last_ (i:=9) (N:=none) #[qT,qT,qT,qT,qT,qT,qT,qT,qT,qT] rfl rfl (by kernel_rfl) (by decide) (fun K hK => ?_)
 refine skip_ (w1 := ?_) (by rfl) rfl ?_ ?_
 rotate_left
 ·go_simp
  rfl
 clear fv3 hc3
 refine hK.out _ _ ?_
 clear hK K
 refine qBL (by kernel_rfl) ?_
 have BX5:=zA (qAy BX4a.out 3 (.slice A3 n n) rfl)
 have RB5:=zA ((Below.heap_setCell _ ⟨pb,3,none⟩ (.slice A3 n n) rb (show rb ≠ pb by have:=HPR.out;omega)).trans RB4a.out)
 have HS5:=zA (HS4a.out.set (a:=⟨pb,3,none⟩) HPB.out (.slice A3 n n))
 generalize (w4.setCell ⟨pb,4,none⟩ (.slice A4 m m)).setCell ⟨pb,3,none⟩ (.slice A3 n n)=w5 at *
 clear BX4a RB4a HS4a BX4 RB4 HS4
 have hz3:w5.cell? ⟨pb,3,none⟩=some (.slice A3 n n):=(qAB BX5.out 3).trans rfl
 go_wp2
 clear hz3
 go_loopw [15] (fun v15 wr=>∃ j:Nat,v15=.int .i64 (j:Int)∧qAA (j≤n)∧qAA (sa.SimT Y w wr)∧qAA (wr.heap[pb]?=some (.cells #[.int .i64 f0,.int .i64 f1,.string f2,.slice A3 n n,.slice A4 m m] 34 (0,0)))∧qAA (wr.heap[rb]?=some (.cells #[.int .i64 0,.int .i64 0,.string ⟨#[]⟩,.slice none 0 0,.slice none 0 0] 34 (0,0)))) (fun v15 _=>n - (intOf v15).toNat)
 case atStart=>exact ⟨0,rfl,⟨Nat.zero_le _⟩,HS5,BX5,RB5⟩
 case round =>
  clear HS5 BX5 RB5
  obtain ⟨j,rfl,HJ0,HS,HB,HRB⟩:=hrel
  by_cases hlt:j < n
  ·have i1:decide ((j:Int) < (n:Int))=true:=zT (by omega)
   have i2:decide (j < n)=true:=zT hlt
   have i3:(j < n)=True:=eq_true hlt
   have HWR:=zA (show wrap64 ((j:Int)+1)=(j:Int)+1 by have:=LM.out;unfold wrap64;omega)
   have HM:=zA (sa.meas j n hlt HWR.out)
   have HJ:=zA (show j+1≤n by omega)
   obtain ⟨b,cs,x,u3,u4,hA,hyb,hcs,hnc,hsz,hx,hgr,r3,r4⟩:=(sa.VRow.simT HS.out (d+1) HV.out).1.elem hlt HN.out
   obtain ⟨ad,had⟩:∃ ad,ad=(⟨b,0,none⟩:Addr):=⟨_,rfl⟩
   rw [← had] at hA
   subst hA
   have HAD:=zA had
   have HYB:=zA hyb
   have HCS:=zA hcs
   have HSZ:=zA (show j * 5+5≤cs.size by omega)
   have HGRP:=zA hgr
   have HF:=zA (sa.five.of hcs hgr had)
   have HR3:=zA r3
   have HR4:=zA r4
   have HO3:=zA (sa.qBu (by obtain ⟨A_,c_,e_,_⟩:=sa.VRow.C d r3;exact ⟨_,_,_,e_⟩))
   have HO4:=zA (sa.qBu (by obtain ⟨A_,c_,e_,_⟩:=r4.C;exact ⟨_,_,_,e_⟩))
   have HNY:=zA (show ¬ Y pb∧¬ Y rb from ⟨fun y=>by have:=HY.out pb y;have:=HPB.out;omega,fun y=>by have:=HY.out rb y;have:=HPB.out;have:=HPR.out;omega⟩)
   have t3:(j:Int) < (n:Int):=by omega
   clear had hyb hcs hnc hsz hgr r3 r4 hx
   go_wp2
   refine qAz (n:=11) (S:=fun w'=>w'.cell? ⟨pb,3,none⟩=some (.slice (some ad) n n)) (ds:=[10]) #[qF,qF,qF,qF,qF,qF,qF,qF,qF,qF,qF] (by kernel_rfl) rfl rfl ((qAB (qAL HB.out) 3).trans rfl) (fun hHeld => ?_)
   generalize hwd:wr.drew=wd at hHeld ⊢
   have SD:=zA (hwd▸HS.out.trans (sa.SimT.of_below (qAK (Below.refl _ _))))
   have BD:=zA (hwd▸qAL HB.out)
   have RD:=zA (hwd▸qAL HRB.out)
   have CD:=zA (hwd▸qAL HCS.out)
   have FD:=zA (hwd▸(show sa.five wr.drew (ad.add (j * 5)) (.int .i64 x.f0) (.int .i64 x.f1) (.string x.f2) u3 u4 from HF.out))
   have VD:=zA (hwd▸sa.VRow.move (w:=wr) (w1:=wr.drew) (fun _ h=>h) (fun _ _ _=>rfl) d HR3.out)
   have KD:=zA (hwd▸HR4.out.move (w1:=wr.drew) (fun _ h=>h) (fun _ _ _=>rfl))
   clear hwd
   refine pU 0 18 ?_
   refine pU 2 20 ?_
   refine pU 3 21 ?_
   refine pU 5 23 ?_
   refine tK 1 19 hHeld ?_
   refine tK 4 22 hHeld ?_
   refine pU 6 24 ?_
   refine one_ (i:=7) (N:=some 25) #[qT,qT,qT,qT,qT,qT,qT,qT,qF,qF,qF] rfl rfl (by kernel_rfl) (by decide) (fun K hK => ?_)
   obtain ⟨z0,z1,z2,z3,z4⟩:=FD.out
   refine qCL (w1 := ?_) (v := ?_) (by rfl) rfl ?_ ?_
   rotate_left 2
   ·go_simp
    constructor
    ·rfl
    ·rfl
   clear z0 z1 z2 z3 z4
   refine hK.out _ _ ((qAB BD.out 3).trans rfl) (fun hHeld => ?_)
   clear hK K
   refine qA3 (a' := ?_) ?_ ?_
   rotate_left
   ·show Act.put _ (some 25) _=_
    simp only [Act.put,qs1,qs2,qs3,qAZ,qAb]
    rfl
   refine one_ (i:=8) (N:=some 26) #[qT,qT,qT,qT,qT,qT,qT,qT,qT,qF,qF] rfl rfl (by kernel_rfl) (by decide) (fun K hK => ?_)
   refine qBZ Try.func74 (by kernel_rfl) rfl #[.agg #[.int .i64 x.f0,.int .i64 x.f1,.string x.f2,u3,u4]] (by rfl) rfl rfl (by (try simp only [List.map_toArray,List.map_cons,List.map_nil]);first | done | rfl) ?_
   refine (ih x u3 u4 _ (fun k hk=>Nat.lt_of_lt_of_le (HY.out k hk) SD.out.size) VD.out KD.out).mono ?_
   rintro e w7 ⟨rfl,hs⟩
   refine ⟨_,rfl, ?_⟩
   have HS7:=zA hs
   have BX7:=zA ((hs.out pb (qAe BD.out) HNY.out.1).trans BD.out)
   have RB7:=zA ((hs.out rb (qAe RD.out) HNY.out.2).trans RD.out)
   clear hs
   refine hK.out _ _ ((qAB BX7.out 3).trans rfl) (fun hHeld => ?_)
   clear hK K
   refine qA3 (a' := ?_) ?_ ?_
   rotate_left
   ·show Act.put _ (some 26) _=_
    simp only [Act.put,qs1,qs2,qs3,qAZ,qAb]
    rfl
   refine pU 9 27 ?_
   refine last_ (i:=10) (N:=none) #[qT,qT,qT,qT,qT,qT,qT,qT,qT,qT,qT] rfl rfl (by kernel_rfl) (by decide) (fun K hK => ?_)
   obtain ⟨cs7,k1,k2⟩:=HS7.out.block HYB.out CD.out
   refine sa.st25 34 (by rfl) rfl 27 (.tmp 26) rfl (by kernel_rfl) b (j * 5) ?haddr (.int .i64 x.f0) (.int .i64 x.f1) (.string x.f2) (sa.qCF u3) (sa.qCF u4) rfl ?hone cs7 34 ?hsz k1 ?_
   (case haddr=>show Value.pointer (some (ad.add (j * 5)))=_;rw [HAD.out,Addr.add_lit,Nat.zero_add])
   (case hone=>intro q hq;simp at hq;rcases hq with rfl | rfl | rfl | rfl | rfl <;> first | rfl | exact HO3.out.2 | exact HO4.out.2)
   (case hsz=>have:=HSZ.out;omega)
   intro w9 cs9 q1 q2 q3 q4 q5
   have HS9:=zA (sa.SimT.store HS7.out HYB.out CD.out HGRP.out q5 q1 (q2.trans k2) q3 (fun c7 h7 i_ hi_=>by rw [k1] at h7;injection h7 with h7;injection h7 with h7;subst h7;exact q4 i_ hi_))
   have BX9:=zA ((q5.block pb (qAe BX7.out) (fun e_=>HNY.out.1 (Option.some.inj e_▸HYB.out))).trans BX7.out)
   have RB9:=zA ((q5.block rb (qAe RB7.out) (fun e_=>HNY.out.2 (Option.some.inj e_▸HYB.out))).trans RB7.out)
   clear k1 k2 q1 q2 q3 q4 q5
   refine hK.out _ _ ?_
   clear hK K
   refine qBL (by kernel_rfl) ?_
   go_wp2
   go_roundw
   case rel=>exact ⟨j+1,by rw [HWR.out];rfl,HJ,⟨SD.out.trans HS9.out⟩,BX9,RB9⟩
   case measure=>exact HM.out
  ·have i1:decide ((j:Int) < (n:Int))=false:=zF (by omega)
   have i2:decide (j < n)=false:=zF hlt
   have i3:(j < n)=False:=eq_false hlt
   have hz0:wr.cell? ⟨pb,0,none⟩=some (.int .i64 f0):=(qAB HB.out 0).trans rfl
   have hz1:wr.cell? ⟨pb,1,none⟩=some (.int .i64 f1):=(qAB HB.out 1).trans rfl
   have hz2:wr.cell? ⟨pb,2,none⟩=some (.string f2):=(qAB HB.out 2).trans rfl
   have hz3:wr.cell? ⟨pb,3,none⟩=some (.slice A3 n n):=(qAB HB.out 3).trans rfl
   have hz4:wr.cell? ⟨pb,4,none⟩=some (.slice A4 m m):=(qAB HB.out 4).trans rfl
   go_wp2_with (first | ((with_reducible refine qAW (p:=2) rfl ?_);refine sa.qAo rfl rfl 2 _ rfl rb rfl (.int .i64 f0) (.int .i64 f1) (.string f2) (.slice A3 n n) (.slice A4 m m) rfl (fun q hq=>by simp at hq;rcases hq with rfl | rfl | rfl | rfl | rfl <;> rfl) _ rfl HRB.out ?_;intro w9 hres hgr;have HRES:=zA hres;have HGR:=zA hgr;clear hgr hres))
   go_wp2
   refine bodyPost_ret (results_cell_row rfl _ _ rb 34 _ (0,0) _ rfl HRES.out Try.underlying34 rfl (by kernel_rfl)) rfl ?_
   exact ⟨rfl,HS.out.far HGR.out (by have:=HPB.out;have:=HPR.out;omega)⟩
end
section
set_option maxHeartbeats 400000
set_option maxRecDepth 100000
theorem sa.ta_nil (w:World):(Instr.typeAssert .nilIface 20 102 true).run Try.prog w=.ok (.tuple #[.agg #[.int .i64 0,.int .i64 0],.bool false]) w:=by
 kernel_rfl
theorem sa.ta_flt (w:World) (e p:Int):(Instr.typeAssert (.iface 102 (.agg #[.int .i64 e,.int .i64 p])) 20 102 true).run Try.prog w=.ok (.tuple #[.agg #[.int .i64 e,.int .i64 p],.bool true]) w:=by
 kernel_rfl
section
variable {P:Program} {ops:Array Oper} {Q:Exit→Act→List Frame→World→Prop} {i:Nat} {rest:List Nat} {o:Oper} {a:Act} {cs:List Frame} {w w1:World}
theorem sa.opS_recN (ho:ops[i]?=some o) (hg:o.guard=none) (hrun:(execOp a.eval o).run P w=.ok .recover w1) (hr:recoverD cs=none) (h:wpOpsS P ops Q rest (a.put o.dst .nilIface) cs w1):wpOpsS P ops Q (i :: rest) a cs w:=by
 unfold wpOpsS
 rw [ho]
 dsimp only
 rw [if_pos (by simp [Region.wanted,hg]),hrun,hr]
 exact h
theorem sa.opS_recS {v:Value} {cs':List Frame} (ho:ops[i]?=some o) (hg:o.guard=none) (hrun:(execOp a.eval o).run P w=.ok .recover w1) (hr:recoverD cs=some (v,cs')) (h:wpOpsS P ops Q rest (a.put o.dst v) cs' w1):wpOpsS P ops Q (i :: rest) a cs w:=by
 unfold wpOpsS
 rw [ho]
 dsimp only
 rw [if_pos (by simp [Region.wanted,hg]),hrun,hr]
 exact h
end
section
variable {P:Program} {ops:Array Oper} {Q:Exit→Act→List Frame→World→Prop} {cs:List Frame}
theorem sa.S_of_list (hQ:¬ LetsOut (fun e a' w'=>Q e a' cs w')):∀ (l:List Oper) (k:Nat),(∀ j,l[j]?=ops[k+j]?)→∀ a w,wpList P ops (fun e a' w'=>Q e a' cs w') l a w→wpOpsS P ops Q (List.range' k l.length) a cs w
 | [],k,_,a,w,h=>h
 | o :: l,k,hj,a,w,h=>by
  have h0:ops[k]?=some o:=by simpa using (hj 0).symm
  have ih:=sa.S_of_list hQ l (k+1) (fun j=>by have:=hj (j+1);simpa [Nat.add_assoc,Nat.add_comm 1 j] using this)
  simp only [List.length_cons,List.range'_succ]
  unfold wpOpsS
  rw [h0]
  dsimp only
  unfold wpList at h
  by_cases hw:Region.wanted o (yielded ops a.tmps)=true
  ·rw [if_pos hw] at h ⊢
   have h1:=h.resolve_right (fun q=>hQ q.2)
   have h2:=Oper.wp_mono (fun a w=>ih a w) h1
   unfold Oper.wp at h2
   generalize (execOp a.eval o).run P w=r at h2 ⊢
   split
   ·exact h2.elim
   ·exact h2
  ·rw [if_neg hw] at h ⊢
   exact ih _ _ h
theorem sa.wpS_recN {id:Nat} {o:Oper} {rest:List Oper} {a:Act} {w:World} (hops:ops.toList=o :: rest) (hg:o.guard=none) (hrun:(execOp a.eval o).run P w=.ok .recover w) (hr:recoverD cs=none) (hQ:¬ LetsOut (fun e a' w'=>Q e a' cs w')) {a1:Act} (ha:a.put o.dst .nilIface=a1) (h:wpList P ops (fun e a' w'=>Q e a' cs w') rest a1 w):(Code.region id ops false).wpS P Q a cs w:=by
 subst ha
 apply wpS_region
 have hsz:ops.size=rest.length+1:=by rw [← Array.length_toList,hops];rfl
 have h0:ops[0]?=some o:=by rw [← Array.getElem?_toList,hops];rfl
 rw [hsz,List.range_eq_range',List.range'_succ]
 refine sa.opS_recN h0 hg hrun hr (sa.S_of_list hQ rest 1 (fun j => ?_) _ _ h)
 rw [← Array.getElem?_toList,hops,Nat.add_comm]
 rfl
theorem sa.wpS_recS {id:Nat} {o:Oper} {rest:List Oper} {a:Act} {w:World} {v:Value} {cs':List Frame} (hops:ops.toList=o :: rest) (hg:o.guard=none) (hrun:(execOp a.eval o).run P w=.ok .recover w) (hr:recoverD cs=some (v,cs')) (hQ:¬ LetsOut (fun e a' w'=>Q e a' cs' w')) {a1:Act} (ha:a.put o.dst v=a1) (h:wpList P ops (fun e a' w'=>Q e a' cs' w') rest a1 w):(Code.region id ops false).wpS P Q a cs w:=by
 subst ha
 apply wpS_region
 have hsz:ops.size=rest.length+1:=by rw [← Array.length_toList,hops];rfl
 have h0:ops[0]?=some o:=by rw [← Array.getElem?_toList,hops];rfl
 rw [hsz,List.range_eq_range',List.range'_succ]
 refine sa.opS_recS h0 hg hrun hr (sa.S_of_list hQ rest 1 (fun j => ?_) _ _ h)
 rw [← Array.getElem?_toList,hops,Nat.add_comm]
 rfl
end
def sa.But3 (w w':World) (bv bn be n:Nat):Prop:=w'.os=w.os∧w'.tape=w.tape∧w'.output=w.output∧w.heap.size≤w'.heap.size∧∀ k,k < n→k ≠ bv→k ≠ bn→k ≠ be→w'.heap[k]?=w.heap[k]?
theorem sa.catch_idle (bv bn be:Nat) (w:World) :
  CallsD Try.prog 72 #[.pointer (some ⟨bv,0,none⟩),.pointer (some ⟨bn,0,none⟩),.pointer (some ⟨be,0,none⟩)] .returning w fun en u' w'=>en=.returned (.tuple #[])∧u'=.returning∧Below w.heap.size w w':=by
 refine callsD_of_wpS Try.func72 rfl fun c₀ cs hu => ?_
 have hta:=sa.ta_nil w
 refine wpS_seq ?_
 refine sa.wpS_recN rfl rfl rfl (by simp [recoverD,hu]) ?_ (a1:={ tmps:=#[.pointer (some ⟨bv,0,none⟩),.pointer (some ⟨bn,0,none⟩),.pointer (some ⟨be,0,none⟩),undef,undef,undef,.nilIface,undef,undef,undef,undef,undef,undef,undef,undef,undef],defers:=[] }) rfl ?_
 ·rintro ⟨a,w,h⟩
  obtain ⟨u',he,_⟩:=h
  cases he
 go_wp2
 refine wpS_of_wp ?_
 go_wp2
 refine ⟨rfl,_, ?_,_,by simp [results,Try.results37],rfl,rfl, ?_⟩
 ·cases c₀
  cases hu
  rfl
 ·exact (Below.refl _ _).alloc (Nat.le_refl _) _
theorem sa.catch_bad (bv bn be:Nat) (e p x y:Int) (cv:Array Value) (hsz:0+5≤cv.size) (w:World) (hv:w.heap[bv]?=some (.cells cv 34 (0,0))) (hn:w.heap[bn]?=some (.cells #[.int .i64 x] 3 (0,0))) (he:w.heap[be]?=some (.cells #[.int .i64 y] 26 (0,0))) (hvn:bv ≠ bn) (hve:bv ≠ be) (hne:bn ≠ be) :
  CallsD Try.prog 72 #[.pointer (some ⟨bv,0,none⟩),.pointer (some ⟨bn,0,none⟩),.pointer (some ⟨be,0,none⟩)] (.panicking [{ v:=.iface 102 (.agg #[.int .i64 e,.int .i64 p]),recovered:=false }]) w fun en u' w'=>en=.returned (.tuple #[])∧u'=.panicking [{ v:=.iface 102 (.agg #[.int .i64 e,.int .i64 p]),recovered:=true }] ∧
   (∃ cv',w'.heap[bv]?=some (.cells cv' 34 (0,0))∧cv'.size=cv.size∧sa.grp cv' 0 (.int .i64 0) (.int .i64 0) (.string ⟨#[]⟩) (.slice none 0 0) (.slice none 0 0))∧w'.heap[bn]?=some (.cells #[.int .i64 p] 3 (0,0))∧w'.heap[be]?=some (.cells #[.int .i64 e] 26 (0,0))∧sa.But3 w w' bv bn be w.heap.size:=by
 have HV:=zA hv
 have HN:=zA hn
 have HE:=zA he
 have HD:=zA (And.intro hvn (And.intro hve hne))
 have hta:=sa.ta_flt w e p
 clear hv hn he hvn hve hne
 refine callsD_of_wpS Try.func72 rfl fun c₀ cs hu => ?_
 refine wpS_seq ?_
 refine sa.wpS_recS (v:=.iface 102 (.agg #[.int .i64 e,.int .i64 p])) (cs':={ c₀ with mode:=.panicking [{ v:=.iface 102 (.agg #[.int .i64 e,.int .i64 p]),recovered:=true }] } :: cs) rfl rfl rfl (by simp [recoverD,hu]) ?_ (a1:={ tmps:=#[.pointer (some ⟨bv,0,none⟩),.pointer (some ⟨bn,0,none⟩),.pointer (some ⟨be,0,none⟩),undef,undef,undef,.iface 102 (.agg #[.int .i64 e,.int .i64 p]),undef,undef,undef,undef,undef,undef,undef,undef,undef],defers:=[] }) rfl ?_
 ·rintro ⟨a,w,h⟩
  obtain ⟨u',he,_⟩:=h
  cases he
 go_wp2
 refine wpS_of_wp ?_
 go_wp2
 obtain ⟨w1,hw1⟩:∃ w1,w.alloc (.cells #[.int .i64 e,.int .i64 p] 102)=w1:=⟨_,rfl⟩
 have F1:=zA (show w1.heap[w.heap.size]?=some (.cells #[.int .i64 e,.int .i64 p] 102 (0,0)) by rw [← hw1];simpa using heap_alloc_new w _)
 have V1:=zA (hw1▸qAP HV.out (.cells #[.int .i64 e,.int .i64 p] 102))
 have N1:=zA (hw1▸qAP HN.out (.cells #[.int .i64 e,.int .i64 p] 102))
 have E1:=zA (hw1▸qAP HE.out (.cells #[.int .i64 e,.int .i64 p] 102))
 have HB1:=zA (show Below w.heap.size w w1 from hw1▸(Below.refl _ _).alloc (Nat.le_refl _) _)
 have HSZ:=zA hsz
 have HLT:=zA (And.intro (qAe HV.out) (And.intro (qAe HN.out) (qAe HE.out)))
 rw [hw1]
 clear hw1 hsz hta
 generalize hfb:w.heap.size=fb at *
 have HFB:=zA hfb
 clear hfb
 refine qAz (n:=8) (S:=fun w'=>w'.cell? ⟨fb,1,none⟩=some (.int .i64 p)∧w'.cell? ⟨fb,0,none⟩=some (.int .i64 e)) (ds:=[]) #[qF,qF,qF,qF,qF,qF,qF,qF] (by kernel_rfl) rfl rfl ⟨(qAB (qAL F1.out) 1).trans rfl,(qAB (qAL F1.out) 0).trans rfl⟩ (fun hHeld => ?_)
 generalize hwd:w1.drew=wd at hHeld ⊢
 have Fd:=zA (hwd▸qAL F1.out)
 have Vd:=zA (hwd▸qAL V1.out)
 have Nd:=zA (hwd▸qAL N1.out)
 have Ed:=zA (hwd▸qAL E1.out)
 have HBd:=zA (hwd▸qAK HB1.out)
 clear hwd
 refine pU 0 11 ?_
 refine pU 1 12 ?_
 refine pU 3 14 ?_
 refine tK 2 13 hHeld ?_
 refine tK 4 15 hHeld ?_
 refine one_ (i:=5) (N:=none) #[qT,qT,qT,qT,qT,qT,qF,qF] rfl rfl (by kernel_rfl) (by decide) (fun K hK => ?_)
 refine sa.st25 34 (by rfl) rfl 0 (.tmp 11) rfl (by kernel_rfl) bv 0 rfl (.int .i64 0) (.int .i64 0) (.string ⟨#[]⟩) (.slice none 0 0) (.slice none 0 0) rfl ?hone cv 34 HSZ.out Vd.out ?_
 (case hone=>intro q hq;simp at hq;rcases hq with rfl | rfl | rfl | rfl | rfl <;> rfl)
 intro w2 cv' q1 q2 q3 q4 q5
 have V2:=zA q1
 have SZ2:=zA q2
 have G2:=zA q3
 have N2:=zA ((q5.block bn (qAe Nd.out) (fun e_=>HD.out.1 (Option.some.inj e_).symm)).trans Nd.out)
 have E2:=zA ((q5.block be (qAe Ed.out) (fun e_=>HD.out.2.1 (Option.some.inj e_).symm)).trans Ed.out)
 have F2:=zA ((q5.block fb (qAe Fd.out) (fun e_=>by have:=Option.some.inj e_;have:=HLT.out.1;omega)).trans Fd.out)
 have FO2:=zA (show sa.But3 w w2 bv bn be fb from ⟨q5.os.trans HBd.out.os,q5.tape.trans HBd.out.tape,q5.output.trans HBd.out.output,Nat.le_trans HBd.out.size q5.size,fun k hk n1 n2 n3=>(q5.block k (Nat.lt_trans hk (qAe Fd.out)) (fun e_=>n1 (Option.some.inj e_))).trans (HBd.out.block k hk)⟩)
 clear q1 q2 q3 q4 q5
 have hcn:=(qAB N2.out 0).trans rfl
 have fvn:=qAC N2.out 0
 refine hK.out _ _ ⟨(qAB F2.out 1).trans rfl,(qAB F2.out 0).trans rfl⟩ (fun hHeld => ?_)
 clear hK K
 refine one_ (i:=6) (N:=none) #[qT,qT,qT,qT,qT,qT,qT,qF] rfl rfl (by kernel_rfl) (by decide) (fun K hK => ?_)
 refine skip_ (w1 := ?_) (by rfl) rfl ?_ ?_
 rotate_left
 ·go_simp
  rfl
 clear hcn fvn
 have N3:=zA (qAy N2.out 0 (.int .i64 p) rfl)
 have V3:=zA ((Below.heap_setCell _ ⟨bn,0,none⟩ (.int .i64 p) bv (show bv ≠ bn from HD.out.1)).trans V2.out)
 have E3:=zA ((Below.heap_setCell _ ⟨bn,0,none⟩ (.int .i64 p) be (show be ≠ bn from fun e_=>HD.out.2.2 e_.symm)).trans E2.out)
 have F3:=zA ((Below.heap_setCell _ ⟨bn,0,none⟩ (.int .i64 p) fb (show fb ≠ bn by have:=HLT.out.2.1;omega)).trans F2.out)
 have FO3:=zA (show sa.But3 w (w2.setCell ⟨bn,0,none⟩ (.int .i64 p)) bv bn be fb from ⟨FO2.out.1,FO2.out.2.1,FO2.out.2.2.1,by rw [Deep.nblk_setCell];exact FO2.out.2.2.2.1,fun k hk n1 n2 n3=>(Below.heap_setCell _ ⟨bn,0,none⟩ (.int .i64 p) k n2).trans (FO2.out.2.2.2.2 k hk n1 n2 n3)⟩)
 have hce:=(qAB E3.out 0).trans rfl
 have fve:=qAC E3.out 0
 refine hK.out _ _ ⟨(qAB F3.out 1).trans rfl,(qAB F3.out 0).trans rfl⟩ (fun hHeld => ?_)
 clear hK K
 refine one_ (i:=7) (N:=none) #[qT,qT,qT,qT,qT,qT,qT,qT] rfl rfl (by kernel_rfl) (by decide) (fun K hK => ?_)
 refine skip_ (w1 := ?_) (by rfl) rfl ?_ ?_
 rotate_left
 ·go_simp
  rfl
 clear hce fve
 have E4:=zA (qAy E3.out 0 (.int .i64 e) rfl)
 have V4:=zA ((Below.heap_setCell _ ⟨be,0,none⟩ (.int .i64 e) bv (show bv ≠ be from HD.out.2.1)).trans V3.out)
 have N4:=zA ((Below.heap_setCell _ ⟨be,0,none⟩ (.int .i64 e) bn (show bn ≠ be from HD.out.2.2)).trans N3.out)
 have F4:=zA ((Below.heap_setCell _ ⟨be,0,none⟩ (.int .i64 e) fb (show fb ≠ be by have:=HLT.out.2.2;omega)).trans F3.out)
 have FO4:=zA (show sa.But3 w ((w2.setCell ⟨bn,0,none⟩ (.int .i64 p)).setCell ⟨be,0,none⟩ (.int .i64 e)) bv bn be fb from ⟨FO3.out.1,FO3.out.2.1,FO3.out.2.2.1,by rw [Deep.nblk_setCell];exact FO3.out.2.2.2.1,fun k hk n1 n2 n3=>(Below.heap_setCell _ ⟨be,0,none⟩ (.int .i64 e) k n3).trans (FO3.out.2.2.2.2 k hk n1 n2 n3)⟩)
 refine hK.out _ _ ⟨(qAB F4.out 1).trans rfl,(qAB F4.out 0).trans rfl⟩ (fun hHeld => ?_)
 clear hK K
 refine qBL (by kernel_rfl) ?_
 go_wp2
 refine ⟨rfl,_, ?_,_,by simp [results,Try.results37],rfl,rfl,⟨cv',V4.out,SZ2.out,G2.out⟩,N4.out,E4.out,by rw [HFB.out];exact FO4.out⟩
 ·cases c₀
  cases hu
  rfl
end
section
set_option maxHeartbeats 4000000
set_option maxRecDepth 100000
theorem sa.arrL_all {p:S34→Prop} {f:Int→Int→sa.R3 S34} (hf:∀ (a l:Int) (x:S34) (a2 l2:Int),f a l=.ok x a2 l2→p x):∀ (k:Nat) (acc:List S34) (a l:Int) (vs:List S34) (a2 l2:Int),(∀ y ∈ acc,p y)→sa.arrL f k acc a l=.ok vs a2 l2→∀ y ∈ vs,p y
 | 0,acc,a,l,vs,a2,l2,hb,h=>by
  unfold sa.arrL at h
  injection h with e1 _ _
  subst e1;exact hb
 | k+1,acc,a,l,vs,a2,l2,hb,h=>by
  unfold sa.arrL at h
  rcases hfa:f a l with ⟨x,a1,l1⟩ | ⟨e,q⟩
  ·rw [hfa] at h
   refine sa.arrL_all hf k _ a1 l1 vs a2 l2 (fun y hy => ?_) h
   rcases List.mem_append.1 hy with hy | hy
   ·exact hb y hy
   ·rw [List.mem_singleton.1 hy];exact hf a l x a1 l1 hfa
  ·rw [hfa] at h;cases h
theorem sa.recL_all {p:S34→Prop} {bs:List Int} {u:Int→Int × Int × Int} {f:Int→Int→sa.R3 S34} (hf:∀ (a l:Int) (x:S34) (a2 l2:Int),f a l=.ok x a2 l2→p x):∀ (k:Nat) (ks:List ByteArray) (acc:List S34) (a l:Int) (vs:List ByteArray × List S34) (a2 l2:Int),(∀ y ∈ acc,p y)→sa.recL bs u f k ks acc a l=.ok vs a2 l2→∀ y ∈ vs.2,p y
 | 0,ks,acc,a,l,vs,a2,l2,hb,h=>by
  unfold sa.recL at h
  injection h with e1 _ _
  subst e1;exact hb
 | k+1,ks,acc,a,l,vs,a2,l2,hb,h=>by
  unfold sa.recL at h
  rcases hka:sa.keyS bs u ks a l with ⟨kk,a1,l1⟩ | ⟨e,q⟩
  ·rw [hka] at h
   dsimp only at h
   rcases hfa:f a1 l1 with ⟨x,a3,l3⟩ | ⟨e,q⟩
   ·rw [hfa] at h
    refine sa.recL_all hf k _ _ a3 l3 vs a2 l2 (fun y hy => ?_) h
    rcases List.mem_append.1 hy with hy | hy
    ·exact hb y hy
    ·rw [List.mem_singleton.1 hy];exact hf a1 l1 x a3 l3 hfa
   ·rw [hfa] at h;cases h
  ·rw [hka] at h;cases h
theorem sa.valS_deep {bs:List Int} {u i:Int→Int × Int × Int}:∀ (d:Nat) (a l:Int) (x:S34) (a2 l2:Int),sa.valS bs u i d a l=.ok x a2 l2→sa.deepL d x.f3
 | 0,a,l,x,a2,l2,h=>by
  rw [sa.valS] at h
  split at h <;> cases h
 | d+1,a,l,x,a2,l2,h=>by
  rw [sa.valS_s] at h
  have leaf:∀ {y:S34} {b m:Int},y.f3=[]→sa.R3.ok y b m=.ok x a2 l2→sa.deepL (d+1) x.f3:=fun e h=>by
   injection h with e1 _ _
   subst e1
   rw [e]
   exact sa.deepL_nil d
  have nb:∀ {e q:Int},sa.R3.bad e q=.ok x a2 l2→sa.deepL (d+1) x.f3:=fun h=>by cases h
  by_cases h0:a=(bs.length:Int) ∨ rd bs a > 6
  ·rw [if_pos h0] at h;exact nb h
  rw [if_neg h0] at h
  by_cases h1:1 > l
  ·rw [if_pos h1] at h;exact nb h
  rw [if_neg h1] at h
  by_cases k1:rd bs a=1
  ·rw [if_pos k1] at h;exact leaf rfl h
  rw [if_neg k1] at h
  by_cases k2:rd bs a=2
  ·rw [if_pos k2] at h;exact leaf rfl h
  rw [if_neg k2] at h
  by_cases k3:rd bs a=3
  ·rw [if_pos k3] at h
   by_cases e1:(i (a+1)).2.2 ≠ 0
   ·rw [if_pos e1] at h;exact nb h
   ·rw [if_neg e1] at h;exact leaf rfl h
  rw [if_neg k3] at h
  by_cases k4:rd bs a=4
  ·rw [if_pos k4] at h
   by_cases e1:(u (a+1)).2.2 ≠ 0
   ·rw [if_pos e1] at h;exact nb h
   rw [if_neg e1] at h
   by_cases e2:(l - 1) / 1 < (u (a+1)).1
   ·rw [if_pos e2] at h;exact nb h
   rw [if_neg e2] at h
   by_cases e3:(bs.length:Int) - (u (a+1)).2.1 < (u (a+1)).1
   ·rw [if_pos e3] at h;exact nb h
   ·rw [if_neg e3] at h;exact leaf rfl h
  rw [if_neg k4] at h
  by_cases k5:rd bs a=5
  ·rw [if_pos k5] at h
   by_cases e1:(u (a+1)).2.2 ≠ 0
   ·rw [if_pos e1] at h;exact nb h
   rw [if_neg e1] at h
   by_cases e2:(l - 1) / 1 < (u (a+1)).1
   ·rw [if_pos e2] at h;exact nb h
   rw [if_neg e2] at h
   rcases hL:sa.arrL (sa.valS bs u i d) (u (a+1)).1.toNat [] (u (a+1)).2.1 (l - 1) with ⟨vs,a3,l3⟩ | ⟨e,p⟩
   ·rw [hL] at h
    have hp:=sa.arrL_all (p:=fun y=>sa.deepL d y.f3) (sa.valS_deep d) _ _ _ _ _ _ _ (fun y hy=>by cases hy) hL
    injection h with e1 _ _
    subst e1
    exact hp
   ·rw [hL] at h;exact nb h
  rw [if_neg k5] at h
  by_cases k6:rd bs a=6
  ·rw [if_pos k6] at h
   by_cases e1:(u (a+1)).2.2 ≠ 0
   ·rw [if_pos e1] at h;exact nb h
   rw [if_neg e1] at h
   by_cases e2:(l - 1) / 2 < (u (a+1)).1
   ·rw [if_pos e2] at h;exact nb h
   rw [if_neg e2] at h
   rcases hL:sa.recL bs u (sa.valS bs u i d) (u (a+1)).1.toNat [] [] (u (a+1)).2.1 (l - 1) with ⟨⟨ks,vs⟩,a3,l3⟩ | ⟨e,p⟩
   ·rw [hL] at h
    have hp:=sa.recL_all (p:=fun y=>sa.deepL d y.f3) (sa.valS_deep d) _ _ _ _ _ _ _ _ (fun y hy=>by cases hy) hL
    injection h with e1 _ _
    subst e1
    exact hp
   ·rw [hL] at h;exact nb h
  rw [if_neg k6] at h
  exact leaf rfl h
def sa.takeS (bs:List Int) (u i:Int→Int × Int × Int) (at_:Int):sa.R3 S34:=if at_ < 0 ∨ at_ > (bs.length:Int) then .bad 41 0 else sa.valS bs u i 8 at_ 2048
def sa.GotT (r:sa.R3 S34) (w:World) (e:Ending) (w':World):Prop :=
 match r with
 | .ok x a' _=>∃ v3 v4:Value,e=.returned (.tuple #[.agg #[.int .i64 x.f0,.int .i64 x.f1,.string x.f2,v3,v4],.int .i64 a',.int .i64 0])∧sa.VRow w' (fun k=>w.heap.size≤k∧k < w'.heap.size) 8 v3 x.f3∧sa.KRow w' (fun k=>w.heap.size≤k∧k < w'.heap.size) v4 x.f4∧Below w.heap.size w w'
 | .bad f p=>e=.returned (.tuple #[.agg #[.int .i64 0,.int .i64 0,.string ⟨#[]⟩,.slice none 0 0,.slice none 0 0],.int .i64 p,.int .i64 f])∧Below w.heap.size w w'
theorem sa.res22 {tmps:Array Value} {w:World} {bv bn be:Nat} (hp4:tmps[4]?=some (.pointer (some ⟨bv,0,none⟩))) (hp5:tmps[5]?=some (.pointer (some ⟨bn,0,none⟩))) (hp6:tmps[6]?=some (.pointer (some ⟨be,0,none⟩))) {v0 v1 v2 v3 v4:Value} {x y:Int} (hv:w.heap[bv]?=some (.cells #[v0,v1,v2,v3,v4] 34 (0,0))) (hn:w.heap[bn]?=some (.cells #[.int .i64 x] 3 (0,0))) (he:w.heap[be]?=some (.cells #[.int .i64 y] 26 (0,0))) :
  (results Try.f61 tmps).run Try.prog w=.ok (.tuple #[.agg #[v0,v1,v2,v3,v4],.int .i64 x,.int .i64 y]) w:=by
 have z0:w.cell? ⟨bv,0,none⟩=some v0:=(qAB hv 0).trans rfl
 have z1:w.cell? ⟨bv,1,none⟩=some v1:=(qAB hv 1).trans rfl
 have z2:w.cell? ⟨bv,2,none⟩=some v2:=(qAB hv 2).trans rfl
 have z3:w.cell? ⟨bv,3,none⟩=some v3:=(qAB hv 3).trans rfl
 have z4:w.cell? ⟨bv,4,none⟩=some v4:=(qAB hv 4).trans rfl
 have c1:w.cell? ⟨bn,0,none⟩=some (.int .i64 x):=(qAB hn 0).trans rfl
 have c2:w.cell? ⟨be,0,none⟩=some (.int .i64 y):=(qAB he 0).trans rfl
 simp [results,Try.results22,hp4,hp5,hp6,asAddr,z0,z1,z2,z3,z4,c1,c2,go_sem]
theorem sa.grp_eq {cv:Array Value} {v0 v1 v2 v3 v4:Value} (hs:cv.size=5) (h:sa.grp cv 0 v0 v1 v2 v3 v4):cv=#[v0,v1,v2,v3,v4]:=by
 obtain ⟨h0,h1,h2,h3,h4⟩:=h
 apply Array.ext (by simp [hs])
 intro i hi hj
 have hi5:i < 5:=by omega
 have key:cv[i]?=#[v0,v1,v2,v3,v4][i]?:=by
  match i,hi5 with
  | 0,_=>exact h0
  | 1,_=>exact h1
  | 2,_=>exact h2
  | 3,_=>exact h3
  | 4,_=>exact h4
 rw [Array.getElem?_eq_getElem hi,Array.getElem?_eq_getElem hj] at key
 exact Option.some.inj key
theorem sa.three_new (w:World) (A B C:Obj):(((w.alloc A).alloc B).alloc C).heap[w.heap.size]?=some A∧(((w.alloc A).alloc B).alloc C).heap[w.heap.size+1]?=some B∧(((w.alloc A).alloc B).alloc C).heap[w.heap.size+1+1]?=some C∧(((w.alloc A).alloc B).alloc C).heap.size=w.heap.size+1+1+1∧Below w.heap.size w (((w.alloc A).alloc B).alloc C):=by
 have s1:=Deep.nblk_alloc w A
 have s2:=Deep.nblk_alloc (w.alloc A) B
 have s3:=Deep.nblk_alloc ((w.alloc A).alloc B) C
 have e1:=heap_alloc_new w A
 have e2:=heap_alloc_new (w.alloc A) B
 have e3:=heap_alloc_new ((w.alloc A).alloc B) C
 refine ⟨?_, ?_, ?_,by omega,(((Below.refl _ _).alloc (Nat.le_refl _) _).alloc (by omega) _).alloc (by omega) _⟩
 ·rw [Deep.blk_alloc_lt _ _ _ (by omega),Deep.blk_alloc_lt _ _ _ (by omega)];exact e1
 ·rw [Deep.blk_alloc_lt _ _ _ (by omega),← s1];exact e2
 ·rw [← s1,← s2];exact e3
theorem sa.takeA {bs:List Int} {w:World} {A:Option Addr} {c:Nat} {at_:Int} (h:at_ < 0 ∨ at_ > (bs.length:Int)):Calls Try.prog 61 #[.slice A bs.length c,.int .i64 at_] w (sa.GotT (.bad 41 0) w):=by
 obtain ⟨m,hm⟩:∃ m,bs.length=m:=⟨_,rfl⟩
 rw [hm] at h ⊢
 have fin:∀ (tmps:Array Value),tmps[4]?=some (.pointer (some ⟨w.heap.size,0,none⟩))→tmps[5]?=some (.pointer (some ⟨w.heap.size+1,0,none⟩))→tmps[6]?=some (.pointer (some ⟨w.heap.size+1+1,0,none⟩))→∃ v,(results Try.f61 tmps).run Try.prog (((w.alloc (.cells #[.int .i64 0,.int .i64 0,.string ⟨#[]⟩,.slice none 0 0,.slice none 0 0] 34)).alloc (.cells #[.int .i64 0] 3)).alloc (.cells #[.int .i64 41] 26))=.ok v (((w.alloc (.cells #[.int .i64 0,.int .i64 0,.string ⟨#[]⟩,.slice none 0 0,.slice none 0 0] 34)).alloc (.cells #[.int .i64 0] 3)).alloc (.cells #[.int .i64 41] 26))∧sa.GotT (.bad 41 0) w (.returned v) (((w.alloc (.cells #[.int .i64 0,.int .i64 0,.string ⟨#[]⟩,.slice none 0 0,.slice none 0 0] 34)).alloc (.cells #[.int .i64 0] 3)).alloc (.cells #[.int .i64 41] 26)):=fun tmps q4 q5 q6=>by
  obtain ⟨hv,hn,he,_,hb⟩:=sa.three_new w (.cells #[.int .i64 0,.int .i64 0,.string ⟨#[]⟩,.slice none 0 0,.slice none 0 0] 34) (.cells #[.int .i64 0] 3) (.cells #[.int .i64 41] 26)
  exact ⟨_,sa.res22 q4 q5 q6 hv hn he,rfl,hb⟩
 have FIN:=zA fin
 clear fin
 by_cases h1:at_ < 0
 ·have d1:decide (at_ < 0)=true:=zT h1
  clear h
  go_enter_defers Try.func61,Try.ntmps61
  go_wp2
  exact FIN.out _ rfl rfl rfl
 ·have d1:decide (at_ < 0)=false:=zF h1
  have h2:at_ > (m:Int):=h.resolve_left h1
  have d2:decide (at_ > (m:Int))=true:=zT h2
  have d3:decide ((m:Int) < at_)=true:=zT h2
  clear h h1
  go_enter_defers Try.func61,Try.ntmps61
  go_wp2
  exact FIN.out _ rfl rfl rfl
theorem sa.takeC {bs:List Int} {u i:Int→Int × Int × Int} (hU:sa.Uin bs u i) {w:World} {A:Option Addr} {c:Nat} {at_:Int} (hC:(Kd.int .u8).C w A bs.length bs) (hc:bs.length≤c) (h0:0≤at_) (h1:at_≤(bs.length:Int)) {ee pp:Int} (hr:sa.valS bs u i 8 at_ 2048=.bad ee pp) :
  Calls Try.prog 61 #[.slice A bs.length c,.int .i64 at_] w (sa.GotT (.bad ee pp) w):=by
 have hmf:∀ (fn:Fn) (first cap:Array Value) (w:World),(Instr.makeFunc fn first cap).run Try.prog w=.ok (.func fn first cap) w:=fun _ _ _ _=>rfl
 have d1:decide (at_ < 0)=false:=zF (by omega)
 have d2:decide (at_ > (bs.length:Int))=false:=zF (by omega)
 have d3:decide ((bs.length:Int) < at_)=false:=zF (by omega)
 have HU:=zA hU
 have HC:=zA hC
 have HCC:=zA hc
 have H0:=zA h0
 have H1:=zA h1
 have HR:=zA hr
 have HT:=zA (sa.three_new w (.cells #[.int .i64 0,.int .i64 0,.string ⟨#[]⟩,.slice none 0 0,.slice none 0 0] 34) (.cells #[.int .i64 0] 3) (.cells #[.int .i64 0] 26))
 clear hU hC hc h0 h1 hr
 go_enter_defers Try.func61,Try.ntmps61
 go_wp2_with (first | ((with_reducible refine qAl (N:=21) rfl ?_);refine qAg ?hg (N:=21) ?hd (cs:=#[.slice A bs.length c,.int .i64 at_,.int .i64 2048]) (t:=106) ?hr ?_;(case hd=>rfl);(case hg=>rfl);(case hr=>first | (go_simp;done) | (go_simp;rfl));intro g hg w2 hbox hb1;have HB2:=zA (qAY HT.out.2.2.2.2 HT.out.2.2.2.2.size hb1);have V2:=zA (qAX HT.out.1 hb1);have N2:=zA (qAX HT.out.2.1 hb1);have E2:=zA (qAX HT.out.2.2.1 hb1);have G2:=zA hbox;have HG:=zA (hg.trans HT.out.2.2.2.1);clear hbox hb1 hg) | (go_at_call 73;refine (sa.value1 HU.out (by have:=HG.out;omega) HCC.out 8 (by omega) 0 rfl w2 at_ 2048 HB2.out G2.out (Kd.qAc HC.out HB2.out) H0.out H1.out (by omega) (by omega)).mono ?_;rw [HR.out];rintro e_ w3 ⟨rfl,hx⟩;have V3:=zA ((hx.fr.2 _ (qAe V2.out) (by have:=HG.out;omega)).trans V2.out);have N3:=zA ((hx.fr.2 _ (qAe N2.out) (by have:=HG.out;omega)).trans N2.out);have E3:=zA ((hx.fr.2 _ (qAe E2.out) (by have:=HG.out;omega)).trans E2.out);have HB3:=zA hx.bel;clear hx;unfold sa.flt))
 refine leaves_cons (f:=72) (args:=#[.pointer (some ⟨w.heap.size,0,none⟩),.pointer (some ⟨w.heap.size+1,0,none⟩),.pointer (some ⟨w.heap.size+1+1,0,none⟩)]) (by simp) (by simp [go_sem]) ?_
 refine (sa.catch_bad _ _ _ ee pp _ _ _ (by decide) w3 V3.out N3.out E3.out (by omega) (by omega) (by omega)).mono ?_
 rintro e u' w4 ⟨rfl,rfl,⟨cv,hv,hsz,hg⟩,hn,he,hb⟩
 have hcv:=sa.grp_eq hsz hg
 subst hcv
 have hs:settle (.panicking [{ v:=.iface 102 (.agg #[.int .i64 ee,.int .i64 pp]),recovered:=true }])=.returning:=rfl
 show Leaves Try.prog Try.f61 _ _ [] (settle _) _
 rw [hs]
 refine ⟨_,sa.res22 rfl rfl rfl hv hn he,rfl, ?_⟩
 exact ⟨hb.1.trans HB3.out.os,hb.2.1.trans HB3.out.tape,hb.2.2.1.trans HB3.out.output,Nat.le_trans HB3.out.size hb.2.2.2.1,fun k hk=>(hb.2.2.2.2 k (Nat.lt_of_lt_of_le hk HB3.out.size) (by omega) (by omega) (by omega)).trans (HB3.out.block k hk)⟩
theorem sa.leaves_congr {P:Program} {fn:Func} {t1 t2:Array Value} {R:Ending→World→Prop} (he:results fn t1=results fn t2):∀ (ds:List Deferred) {u:FrameMode} {w:World},Leaves P fn t1 R ds u w→Leaves P fn t2 R ds u w
 | [],.returning,w,h=>by
  obtain ⟨v,h1,h2⟩:=h
  exact ⟨v,he▸h1,h2⟩
 | [],.panicking _,w,h=>h
 | [],.run,_,h=>h
 | d :: ds,u,w,h=>by
  obtain ⟨h1,fv,cap,f,args,h2,h3,h4⟩:=h
  refine ⟨h1,fv,cap,f,args,h2,h3,h4.mono fun e u' w' hh => ?_⟩
  cases e with
  | returned v=>exact sa.leaves_congr he ds hh
  | panicked ch=>exact sa.leaves_congr he ds hh
  | outgrown=>exact hh
theorem sa.leaves22 {P:Program} {N:Tmp} (hN:N ≠ 4∧N ≠ 5∧N ≠ 6) {a:Act} {v:Value} {R:Ending→World→Prop} {u:FrameMode} {w:World} (h:Leaves P Try.f61 (a.put (some N) v).tmps R (a.put (some N) v).defers u w):Leaves P Try.f61 a.tmps R a.defers u w:=by
 refine sa.leaves_congr ?_ a.defers h
 have e:∀ k,N ≠ k→(a.put (some N) v).tmps.getD k undef=a.tmps.getD k undef:=fun k hk=>by
  simp [Act.put,Array.getElem?_setIfInBounds,hk]
 simp only [results,Try.results22]
 simp [e 4 hN.1,e 5 hN.2.1,e 6 hN.2.2,Act.put,Array.getElem?_setIfInBounds,hN.1,hN.2.1,hN.2.2]
theorem sa.takeB {bs:List Int} {u i:Int→Int × Int × Int} (hU:sa.Uin bs u i) {w:World} {A:Option Addr} {c:Nat} {at_:Int} (hC:(Kd.int .u8).C w A bs.length bs) (hc:bs.length≤c) (h0:0≤at_) (h1:at_≤(bs.length:Int)) {x:S34} {a2 l2:Int} (hr:sa.valS bs u i 8 at_ 2048=.ok x a2 l2) :
  Calls Try.prog 61 #[.slice A bs.length c,.int .i64 at_] w (sa.GotT (.ok x a2 l2) w):=by
 have hmf:∀ (fn:Fn) (first cap:Array Value) (w:World),(Instr.makeFunc fn first cap).run Try.prog w=.ok (.func fn first cap) w:=fun _ _ _ _=>rfl
 have d1:decide (at_ < 0)=false:=zF (by omega)
 have d2:decide (at_ > (bs.length:Int))=false:=zF (by omega)
 have d3:decide ((bs.length:Int) < at_)=false:=zF (by omega)
 have HU:=zA hU
 have HC:=zA hC
 have HCC:=zA hc
 have H0:=zA h0
 have H1:=zA h1
 have HR:=zA hr
 have HDP:=zA (sa.valS_deep 8 _ _ _ _ _ hr)
 have HT:=zA (sa.three_new w (.cells #[.int .i64 0,.int .i64 0,.string ⟨#[]⟩,.slice none 0 0,.slice none 0 0] 34) (.cells #[.int .i64 0] 3) (.cells #[.int .i64 0] 26))
 clear hU hC hc h0 h1 hr
 go_enter_defers Try.func61,Try.ntmps61
 go_wp2_with (first | ((with_reducible refine qAl (N:=21) rfl ?_);refine qAg ?hg (N:=21) ?hd (cs:=#[.slice A bs.length c,.int .i64 at_,.int .i64 2048]) (t:=106) ?hr ?_;(case hd=>rfl);(case hg=>rfl);(case hr=>first | (go_simp;done) | (go_simp;rfl));intro g hg w2 hbox hb1;have HB2:=zA (qAY HT.out.2.2.2.2 HT.out.2.2.2.2.size hb1);have V2:=zA (qAX HT.out.1 hb1);have N2:=zA (qAX HT.out.2.1 hb1);have E2:=zA (qAX HT.out.2.2.1 hb1);have G2:=zA hbox;have HG:=zA (hg.trans HT.out.2.2.2.1);clear hbox hb1 hg) | (go_at_call 73;refine (sa.value1 HU.out (by have:=HG.out;omega) HCC.out 8 (by omega) 0 rfl w2 at_ 2048 HB2.out G2.out (Kd.qAc HC.out HB2.out) H0.out H1.out (by omega) (by omega)).mono ?_;rw [HR.out];rintro e_ w3 ⟨⟨v3,v4,rfl,hr3,hr4⟩,hx⟩;have V3:=zA ((hx.fr.2 _ (qAe V2.out) (by have:=HG.out;omega)).trans V2.out);have N3:=zA ((hx.fr.2 _ (qAe N2.out) (by have:=HG.out;omega)).trans N2.out);have E3:=zA ((hx.fr.2 _ (qAe E2.out) (by have:=HG.out;omega)).trans E2.out);have G3:=zA hx.blk;have HB3:=zA hx.bel;have R3_:=zA (sa.VRow.of_R 8 (Y:=fun k=>w2.heap.size≤k∧k < w3.heap.size) (Kd.qBd hr3) (fun k hk=>⟨hk.1,hk.2.2.1⟩) HDP.out);have R4_:=zA (sa.KRow.of_R (Y:=fun k=>w2.heap.size≤k∧k < w3.heap.size) (Kd.qBd hr4) (fun k hk=>⟨hk.1,hk.2.2.1⟩));have HSZ:=zA hx.fr.1;clear hx hr3 hr4) | ((with_reducible refine qAW (p:=4) rfl ?_);refine sa.qAo rfl rfl 4 _ rfl w.heap.size rfl (.int .i64 x.f0) (.int .i64 x.f1) (.string x.f2) v3 v4 rfl (fun q hq=>by simp at hq;rcases hq with rfl | rfl | rfl | rfl | rfl <;> first | rfl | exact (sa.qBu (by obtain ⟨A_,c_,e_,_⟩:=sa.VRow.C 8 R3_.out;exact ⟨_,_,_,e_⟩)).1 | exact (sa.qBu (by obtain ⟨A_,c_,e_,_⟩:=R4_.out.C;exact ⟨_,_,_,e_⟩)).1) _ rfl V3.out ?_;intro w4 hres hgr;have V4:=zA hres;have N4:=zA ((hgr.block _ (qAe N3.out) (fun e_=>by have:=Option.some.inj e_;omega)).trans N3.out);have E4:=zA ((hgr.block _ (qAe E3.out) (fun e_=>by have:=Option.some.inj e_;omega)).trans E3.out);have G4:=zA ((hgr.block _ (qAe G3.out) (fun e_=>by have:=Option.some.inj e_;have:=HG.out;omega)).trans G3.out);have HB4:=zA (show Below w.heap.size w w4 from ⟨hgr.os.trans HB3.out.os,hgr.tape.trans HB3.out.tape,hgr.output.trans HB3.out.output,Nat.le_trans HB3.out.size hgr.size,fun k hk=>(hgr.block k (Nat.lt_of_lt_of_le hk HB3.out.size) (fun e_=>by have:=Option.some.inj e_;omega)).trans (HB3.out.block k hk)⟩);have HYW:=zA (show w.heap.size+1+1+1 < w2.heap.size from by have:=qAe G2.out;have:=HG.out;omega);have VR4:=zA (sa.VRow.move (w:=w3) (w1:=w4) (Y:=fun k=>w2.heap.size≤k∧k < w3.heap.size) (fun _ h=>h) (fun k hk hlt=>hgr.block k hlt (fun e_=>by have:=Option.some.inj e_;have:=HYW.out;omega)) 8 R3_.out);have KR4:=zA (R4_.out.move (w1:=w4) (fun _ h=>h) (fun k hk hlt=>hgr.block k hlt (fun e_=>by have:=Option.some.inj e_;have:=HYW.out;omega)));have HSZ4:=zA (show w3.heap.size≤w4.heap.size from hgr.size);clear hres hgr))
 generalize hYd:(fun k=>w2.heap.size≤k∧k < w3.heap.size)=Y at *
 have HYD:=zA (show ∀ k,Y k→w2.heap.size≤k∧k < w3.heap.size from fun k hk=>by rw [← hYd] at hk;exact hk)
 clear hYd R3_ R4_
 refine qAz (n:=9) (S:=fun w'=>w'.cell? ⟨g,1,none⟩=some (.int .i64 a2)) (ds:=[]) #[qF,qF,qF,qF,qF,qF,qF,qF,qF] (by kernel_rfl) rfl rfl ((qAB (qAL G4.out) 1).trans rfl) (fun hHeld => ?_)
 generalize hwd:w4.drew=wd at hHeld ⊢
 have Vd:=zA (hwd▸qAL V4.out)
 have Nd:=zA (hwd▸qAL N4.out)
 have Ed:=zA (hwd▸qAL E4.out)
 have Gd:=zA (hwd▸qAL G4.out)
 have HBd:=zA (hwd▸qAK HB4.out)
 have VRd:=zA (hwd▸sa.VRow.move (w:=w4) (w1:=w4.drew) (fun _ h=>h) (fun _ _ _=>rfl) 8 VR4.out)
 have KRd:=zA (hwd▸KR4.out.move (w1:=w4.drew) (fun _ h=>h) (fun _ _ _=>rfl))
 have HSd:=zA (show w3.heap.size≤wd.heap.size from hwd▸HSZ4.out)
 clear hwd
 refine qAx (i:=2) (N:=some 26) (v := ?_) (a' := ?_) #[qF,qF,qT,qF,qF,qF,qF,qF,qF] rfl rfl (by kernel_rfl) (fun _ _ _ h=>sa.leaves22 (by decide) h) (Or.inl ⟨by rfl, ?_⟩) ?_ ?_
 rotate_left
 ·intro w'
  go_simp
  with_reducible rfl
 rotate_left
 ·simp only [Act.put,qs1,qs2,qs3,qAZ,qAb]
  rfl
 refine qAx (i:=3) (N:=some 27) (v := ?_) (a' := ?_) #[qF,qF,qT,qT,qF,qF,qF,qF,qF] rfl rfl (by kernel_rfl) (fun _ _ _ h=>sa.leaves22 (by decide) h) (Or.inl ⟨by rfl, ?_⟩) ?_ ?_
 rotate_left
 ·intro w'
  go_simp
  with_reducible rfl
 rotate_left
 ·simp only [Act.put,qs1,qs2,qs3,qAZ,qAb]
  rfl
 refine qAx (i:=4) (N:=some 28) (v := ?_) (a' := ?_) #[qF,qF,qT,qT,qT,qF,qF,qF,qF] rfl rfl (by kernel_rfl) (fun _ _ _ h=>sa.leaves22 (by decide) h) (Or.inl ⟨by rfl, ?_⟩) ?_ ?_
 rotate_left
 ·intro w'
  go_simp
  with_reducible rfl
 rotate_left
 ·simp only [Act.put,qs1,qs2,qs3,qAZ,qAb]
  rfl
 refine qBv (i:=5) (N:=some 29) (v := ?_) (a' := ?_) #[qF,qF,qT,qT,qT,qT,qF,qF,qF] rfl rfl (by kernel_rfl) (fun _ _ _ h=>sa.leaves22 (by decide) h) (Or.inl ⟨by rfl, ?_⟩) hHeld ?_ ?_
 rotate_left
 ·intro w' s0
  go_simp
  with_reducible rfl
 rotate_left
 ·simp only [Act.put,qs1,qs2,qs3,qAZ,qAb]
  rfl
 refine one_ (i:=0) (N:=some 24) #[qT,qF,qT,qT,qT,qT,qF,qF,qF] rfl rfl (by kernel_rfl) (by decide) (fun K hK => ?_)
 have z0:=(qAB Vd.out 0).trans rfl
 have z1:=(qAB Vd.out 1).trans rfl
 have z2:=(qAB Vd.out 2).trans rfl
 have z3:=(qAB Vd.out 3).trans rfl
 have z4:=(qAB Vd.out 4).trans rfl
 refine qCL (w1 := ?_) (v := ?_) (by rfl) rfl ?_ ?_
 rotate_left 2
 ·go_simp
  constructor
  ·rfl
  ·rfl
 clear z0 z1 z2 z3 z4
 refine hK.out _ _ ((qAB Gd.out 1).trans rfl) (fun hHeld => ?_)
 clear hK K
 refine qA3 (a' := ?_) ?_ ?_
 rotate_left
 ·show Act.put _ (some 24) _=_
  simp only [Act.put,qs1,qs2,qs3,qAZ,qAb]
  rfl
 refine one_ (i:=1) (N:=some 25) #[qT,qT,qT,qT,qT,qT,qF,qF,qF] rfl rfl (by kernel_rfl) (by decide) (fun K hK => ?_)
 refine qBZ Try.func74 (by kernel_rfl) rfl #[.agg #[.int .i64 x.f0,.int .i64 x.f1,.string x.f2,v3,v4]] (by rfl) rfl rfl (by (try simp only [List.map_toArray,List.map_cons,List.map_nil]);first | done | rfl) ?_
 refine (sa.tight1 8 x v3 v4 _ (fun k hk=>by have:=(HYD.out k hk).2;have:=HSd.out;omega) VRd.out KRd.out).mono ?_
 rintro e w5 ⟨rfl,hs⟩
 refine ⟨_,rfl, ?_⟩
 have V5:=zA ((hs.out _ (qAe Vd.out) (fun y=>by have:=(HYD.out _ y).1;have:=HYW.out;have:=HG.out;omega)).trans Vd.out)
 have N5:=zA ((hs.out _ (qAe Nd.out) (fun y=>by have:=(HYD.out _ y).1;have:=HYW.out;have:=HG.out;omega)).trans Nd.out)
 have E5:=zA ((hs.out _ (qAe Ed.out) (fun y=>by have:=(HYD.out _ y).1;have:=HYW.out;have:=HG.out;omega)).trans Ed.out)
 have G5:=zA ((hs.out _ (qAe Gd.out) (fun y=>by have:=(HYD.out _ y).1;have:=HYW.out;have:=HG.out;omega)).trans Gd.out)
 have HB5:=zA (show Below w.heap.size w w5 from ⟨hs.os.trans HBd.out.os,hs.tape.trans HBd.out.tape,hs.output.trans HBd.out.output,Nat.le_trans HBd.out.size hs.size,fun k hk=>(hs.out k (Nat.lt_of_lt_of_le hk HBd.out.size) (fun y=>by have:=(HYD.out k y).1;have:=HYW.out;omega)).trans (HBd.out.block k hk)⟩)
 have VR5:=zA (sa.VRow.simT hs 8 VRd.out).2
 have KR5:=zA (sa.KRow.simT hs KRd.out).2
 have HS5:=zA (Nat.le_trans HSd.out hs.size)
 clear hs
 refine hK.out _ _ ((qAB G5.out 1).trans rfl) (fun hHeld => ?_)
 clear hK K
 refine qA3 (a' := ?_) ?_ ?_
 rotate_left
 ·show Act.put _ (some 25) _=_
  simp only [Act.put,qs1,qs2,qs3,qAZ,qAb]
  rfl
 refine one_ (i:=6) (N:=none) #[qT,qT,qT,qT,qT,qT,qT,qF,qF] rfl rfl (by kernel_rfl) (by decide) (fun K hK => ?_)
 refine sa.st25 34 (by rfl) rfl 4 (.tmp 25) rfl (by kernel_rfl) w.heap.size 0 rfl (.int .i64 x.f0) (.int .i64 x.f1) (.string x.f2) (sa.qCF v3) (sa.qCF v4) rfl ?hone _ 34 (Nat.le_refl _) V5.out ?_
 (case hone=>intro q hq;simp at hq;rcases hq with rfl | rfl | rfl | rfl | rfl <;> first | rfl | exact (sa.qBu (by obtain ⟨A_,c_,e_,_⟩:=sa.VRow.C 8 VRd.out;exact ⟨_,_,_,e_⟩)).2 | exact (sa.qBu (by obtain ⟨A_,c_,e_,_⟩:=KRd.out.C;exact ⟨_,_,_,e_⟩)).2)
 intro w6 cv' q1 q2 q3 q4 q5
 have V6:=zA q1
 have SZ6:=zA q2
 have GR6:=zA q3
 have N6:=zA ((q5.block _ (qAe N5.out) (fun e_=>by have:=Option.some.inj e_;omega)).trans N5.out)
 have E6:=zA ((q5.block _ (qAe E5.out) (fun e_=>by have:=Option.some.inj e_;omega)).trans E5.out)
 have G6:=zA ((q5.block _ (qAe G5.out) (fun e_=>by have:=Option.some.inj e_;have:=HG.out;omega)).trans G5.out)
 have HB6:=zA (show Below w.heap.size w w6 from ⟨q5.os.trans HB5.out.os,q5.tape.trans HB5.out.tape,q5.output.trans HB5.out.output,Nat.le_trans HB5.out.size q5.size,fun k hk=>(q5.block k (Nat.lt_of_lt_of_le hk HB5.out.size) (fun e_=>by have:=Option.some.inj e_;omega)).trans (HB5.out.block k hk)⟩)
 have VR6:=zA (sa.VRow.move (w:=w5) (w1:=w6) (fun _ h=>h) (fun k hk hlt=>q5.block k hlt (fun e_=>by have:=Option.some.inj e_;have:=(HYD.out k hk).1;have:=HYW.out;omega)) 8 VR5.out)
 have KR6:=zA (KR5.out.move (w1:=w6) (fun _ h=>h) (fun k hk hlt=>q5.block k hlt (fun e_=>by have:=Option.some.inj e_;have:=(HYD.out k hk).1;have:=HYW.out;omega)))
 have HS6:=zA (Nat.le_trans HS5.out q5.size)
 clear q1 q2 q3 q4 q5
 have hcn:=(qAB N6.out 0).trans rfl
 have fvn:=qAC N6.out 0
 refine hK.out _ _ ((qAB G6.out 1).trans rfl) (fun hHeld => ?_)
 clear hK K
 refine one_ (i:=7) (N:=none) #[qT,qT,qT,qT,qT,qT,qT,qT,qF] rfl rfl (by kernel_rfl) (by decide) (fun K hK => ?_)
 refine skip_ (w1 := ?_) (by rfl) rfl ?_ ?_
 rotate_left
 ·go_simp
  rfl
 clear hcn fvn
 have N7:=zA (qAy N6.out 0 (.int .i64 a2) rfl)
 have V7:=zA ((Below.heap_setCell _ ⟨w.heap.size+1,0,none⟩ (.int .i64 a2) w.heap.size (show w.heap.size ≠ w.heap.size+1 by omega)).trans V6.out)
 have E7:=zA ((Below.heap_setCell _ ⟨w.heap.size+1,0,none⟩ (.int .i64 a2) (w.heap.size+1+1) (show w.heap.size+1+1 ≠ w.heap.size+1 by omega)).trans E6.out)
 have G7:=zA ((Below.heap_setCell _ ⟨w.heap.size+1,0,none⟩ (.int .i64 a2) g (show g ≠ w.heap.size+1 by have:=HG.out;omega)).trans G6.out)
 have HB7:=zA (HB6.out.setCell (show w.heap.size≤(⟨w.heap.size+1,0,none⟩:Addr).block from Nat.le_succ _) (.int .i64 a2))
 have VR7:=zA (sa.VRow.move (w:=w6) (w1:=w6.setCell ⟨w.heap.size+1,0,none⟩ (.int .i64 a2)) (fun _ h=>h) (fun k hk hlt=>Below.heap_setCell _ ⟨w.heap.size+1,0,none⟩ (.int .i64 a2) k (show k ≠ w.heap.size+1 by have:=(HYD.out k hk).1;have:=HYW.out;omega)) 8 VR6.out)
 have KR7:=zA (KR6.out.move (w1:=w6.setCell ⟨w.heap.size+1,0,none⟩ (.int .i64 a2)) (fun _ h=>h) (fun k hk hlt=>Below.heap_setCell _ ⟨w.heap.size+1,0,none⟩ (.int .i64 a2) k (show k ≠ w.heap.size+1 by have:=(HYD.out k hk).1;have:=HYW.out;omega)))
 have HS7:=zA (show w3.heap.size≤(w6.setCell ⟨w.heap.size+1,0,none⟩ (.int .i64 a2)).heap.size by rw [Deep.nblk_setCell];exact HS6.out)
 generalize w6.setCell ⟨w.heap.size+1,0,none⟩ (.int .i64 a2)=w7 at *
 have hce:=(qAB E7.out 0).trans rfl
 have fve:=qAC E7.out 0
 refine hK.out _ _ ((qAB G7.out 1).trans rfl) (fun hHeld => ?_)
 clear hK K
 refine one_ (i:=8) (N:=none) #[qT,qT,qT,qT,qT,qT,qT,qT,qT] rfl rfl (by kernel_rfl) (by decide) (fun K hK => ?_)
 refine skip_ (w1 := ?_) (by rfl) rfl ?_ ?_
 rotate_left
 ·go_simp
  rfl
 clear hce fve
 have E8:=zA (qAy E7.out 0 (.int .i64 0) rfl)
 have V8:=zA ((Below.heap_setCell _ ⟨w.heap.size+1+1,0,none⟩ (.int .i64 0) w.heap.size (show w.heap.size ≠ w.heap.size+1+1 by omega)).trans V7.out)
 have N8:=zA ((Below.heap_setCell _ ⟨w.heap.size+1+1,0,none⟩ (.int .i64 0) (w.heap.size+1) (show w.heap.size+1 ≠ w.heap.size+1+1 by omega)).trans N7.out)
 have G8:=zA ((Below.heap_setCell _ ⟨w.heap.size+1+1,0,none⟩ (.int .i64 0) g (show g ≠ w.heap.size+1+1 by have:=HG.out;omega)).trans G7.out)
 have HB8:=zA (HB7.out.setCell (show w.heap.size≤(⟨w.heap.size+1+1,0,none⟩:Addr).block by show w.heap.size≤w.heap.size+1+1;omega) (.int .i64 0))
 have VR8:=zA (sa.VRow.move (w:=w7) (w1:=w7.setCell ⟨w.heap.size+1+1,0,none⟩ (.int .i64 0)) (fun _ h=>h) (fun k hk hlt=>Below.heap_setCell _ ⟨w.heap.size+1+1,0,none⟩ (.int .i64 0) k (show k ≠ w.heap.size+1+1 by have:=(HYD.out k hk).1;have:=HYW.out;omega)) 8 VR7.out)
 have KR8:=zA (KR7.out.move (w1:=w7.setCell ⟨w.heap.size+1+1,0,none⟩ (.int .i64 0)) (fun _ h=>h) (fun k hk hlt=>Below.heap_setCell _ ⟨w.heap.size+1+1,0,none⟩ (.int .i64 0) k (show k ≠ w.heap.size+1+1 by have:=(HYD.out k hk).1;have:=HYW.out;omega)))
 have LT8:=zA (show w3.heap.size≤(w7.setCell ⟨w.heap.size+1+1,0,none⟩ (.int .i64 0)).heap.size by rw [Deep.nblk_setCell];exact HS7.out)
 generalize w7.setCell ⟨w.heap.size+1+1,0,none⟩ (.int .i64 0)=w8 at *
 refine hK.out _ _ ((qAB G8.out 1).trans rfl) (fun hHeld => ?_)
 clear hK K
 refine qBL (by kernel_rfl) ?_
 go_wp2
 refine leaves_cons (f:=72) (args:=#[.pointer (some ⟨w.heap.size,0,none⟩),.pointer (some ⟨w.heap.size+1,0,none⟩),.pointer (some ⟨w.heap.size+1+1,0,none⟩)]) (by simp) (by simp [go_sem]) ?_
 refine (sa.catch_idle _ _ _ _).mono ?_
 rintro e u' w9 ⟨rfl,rfl,hb⟩
 have hcv:=sa.grp_eq SZ6.out GR6.out
 have V9:=qAX V8.out hb
 rw [hcv] at V9
 show Leaves Try.prog Try.f61 _ _ [] .returning _
 refine ⟨_,sa.res22 rfl rfl rfl V9 (qAX N8.out hb) (qAX E8.out hb),_,_,rfl, ?_, ?_,qAY HB8.out HB8.out.size hb⟩
 ·exact sa.VRow.move (fun k hk=>⟨by have:=HYD.out k hk;have:=HB2.out.size;omega,by have:=HYD.out k hk;have:=LT8.out;have:=hb.size;omega⟩) (fun k hk hlt=>hb.block k hlt) 8 VR8.out
 ·exact KR8.out.move (fun k hk=>⟨by have:=HYD.out k hk;have:=HB2.out.size;omega,by have:=HYD.out k hk;have:=LT8.out;have:=hb.size;omega⟩) (fun k hk hlt=>hb.block k hlt)
theorem sa.take1 {bs:List Int} {u i:Int→Int × Int × Int} (hU:sa.Uin bs u i) {w:World} {A:Option Addr} {c:Nat} (at_:Int) (hC:(Kd.int .u8).C w A bs.length bs) (hc:bs.length≤c):Calls Try.prog 61 #[.slice A bs.length c,.int .i64 at_] w (sa.GotT (sa.takeS bs u i at_) w):=by
 unfold sa.takeS
 by_cases h:at_ < 0 ∨ at_ > (bs.length:Int)
 ·rw [if_pos h];exact sa.takeA h
 ·rw [if_neg h]
  have h0:0≤at_:=by
   have:¬ at_ < 0:=fun e=>h (Or.inl e)
   omega
  have h1:at_≤(bs.length:Int):=by
   have:¬ at_ > (bs.length:Int):=fun e=>h (Or.inr e)
   omega
  rcases hr:sa.valS bs u i 8 at_ 2048 with ⟨x,a2,l2⟩ | ⟨ee,pp⟩
  ·exact sa.takeB hU hC hc h0 h1 hr
  ·exact sa.takeC hU hC hc h0 h1 hr
end
end Go.Proofs.Ytdommiicjpjfpaa.X
