import Derived.Test.YtdommiicjpjfpaaZStateReads3
import Derived.Test.YtdommiicjpjfpaaZStateReads12
set_option linter.unusedVariables false
set_option linter.unusedSimpArgs false
namespace Go.Proofs.Ytdommiicjpjfpaa.X
open Go.RowKit Go.Proofs.YtdommiicjpjfpaaW.PrintWords Go.Proofs.YtdommiicjpjfpaaW.PrintLast Go.Proofs.YtdommiicjpjfpaaW.PrintMore Go.Proofs.YtdommiicjpjfpaaW
attribute [local go_sem] qBE qBD qBV qBU qA6 qA5 qBJ qBI
mutual
def qAH.w:Nat→Int→Int→ByteArray→List (S34)→List ByteArray→Int→Int→Int→Option (Bool × Int × Int)
 | 0,_,_,_,_,_,_,_,_=>none
 | k+1,f0,f1,f2,f3,f4,ar,D,W =>
  if 8 < mx D (wrap64 (ar+1)) then some (false,mx D (wrap64 (ar+1)),wrap64 (W+wrap64 (1+mn (f2.size:Int) 2048)))
  else if 2048 < wrap64 (W+wrap64 (1+mn (f2.size:Int) 2048)) then some (false,mx D (wrap64 (ar+1)),wrap64 (W+wrap64 (1+mn (f2.size:Int) 2048)))
  else (qAj.f f0 f1 f2 f3 f4).bind fun ok=>if ok=true then qAH.l k f0 f1 f2 f3 f4 ar (mx D (wrap64 (ar+1))) (wrap64 (W+wrap64 (1+mn (f2.size:Int) 2048))) 0 else some (false,mx D (wrap64 (ar+1)),wrap64 (W+wrap64 (1+mn (f2.size:Int) 2048)))
def qAH.l:Nat→Int→Int→ByteArray→List (S34)→List ByteArray→Int→Int→Int→Int→Option (Bool × Int × Int)
 | 0,_,_,_,_,_,_,_,_,_=>none
 | k+1,f0,f1,f2,f3,f4,ar,D,W,i =>
  if i < (f3.length:Int) then
   if 0≤i then
   if f0=5 then
    if i < (f4.length:Int) then
     if 32 < ((rdOf ByteArray.empty f4 i).size:Int) then some (false,D,W)
     else if 0 < i∧(Op.bytesLess ((rdOf ByteArray.empty f4 (i - 1)).toList) ((rdOf ByteArray.empty f4 i).toList))=false then some (false,D,W)
     else (qAH.w k (qAR f3 i).f0 (qAR f3 i).f1 (qAR f3 i).f2 (qAR f3 i).f3 (qAR f3 i).f4 (wrap64 (ar+1)) D (wrap64 (W+wrap64 (1+((rdOf ByteArray.empty f4 i).size:Int))))).bind fun r =>
      if r.1=true then qAH.l k f0 f1 f2 f3 f4 ar r.2.1 r.2.2 (wrap64 (i+1)) else some (false,r.2.1,r.2.2)
    else none
   else (qAH.w k (qAR f3 i).f0 (qAR f3 i).f1 (qAR f3 i).f2 (qAR f3 i).f3 (qAR f3 i).f4 (wrap64 (ar+1)) D W).bind fun r =>
      if r.1=true then qAH.l k f0 f1 f2 f3 f4 ar r.2.1 r.2.2 (wrap64 (i+1)) else some (false,r.2.1,r.2.2)
   else none
  else some (decide (W≤2048),D,W)
end
def qAH.f (k:Nat) (f0 f1:Int) (f2:ByteArray) (f3:List (S34)) (f4:List ByteArray):Option (Int × Int) :=
 (qAH.w k f0 f1 f2 f3 f4 0 0 0).bind fun r=>if r.1=true then some (r.2.2,r.2.1) else some (0,0)
theorem qAH.max2 (k k':IntKind) (x y:Int):Builtin.max2 (.int k x) (.int k' y)=pure (.int k (mx x y)):=by rw [qBE];rfl
theorem qAH.min2 (k k':IntKind) (x y:Int):Builtin.min2 (.int k x) (.int k' y)=pure (.int k (mn x y)):=by rw [qBD];rfl
theorem qAH.geq (t:TypeId) (a b:ByteArray):binOp .geq t (.string a) (.string b)=pure (.bool !(Op.bytesLess a.toList b.toList)):=by simp [binOp,Op.stringOp]
attribute [local go_sem high] qAH.max2 qAH.min2 qAH.geq
structure qAH.St (w0 w1 w:World) (Bd Bw Bf:Nat) (D W:Int):Prop where
 cd:w.heap[Bd]?=some (.cells #[.int .i64 D] 3 (0,0))
 cw:w.heap[Bw]?=some (.cells #[.int .i64 W] 3 (0,0))
 cf:w.heap[Bf]?=some (.cells #[.func (.func 96) #[] #[.pointer (some ⟨Bd,0,none⟩),.pointer (some ⟨Bw,0,none⟩),.pointer (some ⟨Bf,0,none⟩)]] 124 (0,0))
 bel:Below w0.heap.size w0 w
 sz:w1.heap.size≤w.heap.size
 oth:∀ g,g < w1.heap.size→g ≠ Bd→g ≠ Bw→w.heap[g]?=w1.heap[g]?
section
variable {w0 w1 w:World} {Bd Bw Bf:Nat} {D W:Int}
theorem qAH.St.start (h:qAH.St w0 w1 w Bd Bw Bf D W):qAH.St w0 w w Bd Bw Bf D W:=⟨h.cd,h.cw,h.cf,h.bel,Nat.le_refl _,fun _ _ _ _=>rfl⟩
theorem qAH.St.next {w2:World} {D' W':Int} (h:qAH.St w0 w1 w Bd Bw Bf D W) (k:qAH.St w0 w w2 Bd Bw Bf D' W'):qAH.St w0 w1 w2 Bd Bw Bf D' W' :=
 ⟨k.cd,k.cw,k.cf,k.bel,Nat.le_trans h.sz k.sz,fun g hg h1 h2=>(k.oth g (Nat.lt_of_lt_of_le hg h.sz) h1 h2).trans (h.oth g hg h1 h2)⟩
theorem qAH.St.box {w2:World} {D' W':Int} {g:Nat} {o:Obj} (k:qAH.St w0 w w2 Bd Bw Bf D' W') (hb:w.heap[g]?=some o) (h1:g ≠ Bd) (h2:g ≠ Bw):w2.heap[g]?=some o:=(k.oth g (qAe hb) h1 h2).trans hb
theorem qAH.St.alloc (h:qAH.St w0 w1 w Bd Bw Bf D W) (o:Obj):qAH.St w0 w1 (w.alloc o) Bd Bw Bf D W :=
 ⟨qAP h.cd o,qAP h.cw o,qAP h.cf o,h.bel.alloc h.bel.size o,Nat.le_trans h.sz (by simp),fun g hg h1 h2=>(Below.heap_alloc _ _ _ (Nat.lt_of_lt_of_le hg h.sz)).trans (h.oth g hg h1 h2)⟩
theorem qAH.St.below {w2:World} (h:qAH.St w0 w1 w Bd Bw Bf D W) (hb:Below w.heap.size w w2):qAH.St w0 w1 w2 Bd Bw Bf D W :=
 ⟨qAX h.cd hb,qAX h.cw hb,qAX h.cf hb,qAY h.bel h.bel.size hb,Nat.le_trans h.sz hb.size,fun g hg h1 h2=>(hb.block g (Nat.lt_of_lt_of_le hg h.sz)).trans (h.oth g hg h1 h2)⟩
theorem qAH.St.drewN (h:qAH.St w0 w1 w Bd Bw Bf D W) (n:Nat):qAH.St w0 w1 (w.drewN n) Bd Bw Bf D W:=h.below (qAD (Below.refl _ _) n)
theorem qAH.St.drew (h:qAH.St w0 w1 w Bd Bw Bf D W):qAH.St w0 w1 w.drew Bd Bw Bf D W:=h.below (Below.drew (Below.refl _ _))
theorem qAH.St.setd (h:qAH.St w0 w1 w Bd Bw Bf D W) (h1:Bd ≠ Bw) (h2:Bd ≠ Bf) (h3:w0.heap.size≤Bd) (D':Int):qAH.St w0 w1 (w.setCell ⟨Bd,0,none⟩ (.int .i64 D')) Bd Bw Bf D' W :=
 ⟨qAy h.cd 0 _ rfl,blk_far h.cw (Ne.symm h1) _,blk_far h.cf (Ne.symm h2) _,h.bel.setCell h3 _,Nat.le_trans h.sz (by simp [World.setCell]),fun g hg g1 g2=>(Below.heap_setCell _ _ _ _ g1).trans (h.oth g hg g1 g2)⟩
theorem qAH.St.setw (h:qAH.St w0 w1 w Bd Bw Bf D W) (h1:Bd ≠ Bw) (h2:Bw ≠ Bf) (h3:w0.heap.size≤Bw) (W':Int):qAH.St w0 w1 (w.setCell ⟨Bw,0,none⟩ (.int .i64 W')) Bd Bw Bf D W' :=
 ⟨blk_far h.cd h1 _,qAy h.cw 0 _ rfl,blk_far h.cf (Ne.symm h2) _,h.bel.setCell h3 _,Nat.le_trans h.sz (by simp [World.setCell]),fun g hg g1 g2=>(Below.heap_setCell _ _ _ _ g2).trans (h.oth g hg g1 g2)⟩
end
set_option maxHeartbeats 8000000 in
set_option maxRecDepth 100000 in
theorem qAH.wcalls (w0:World) (Bd Bw Bf:Nat) (hdw:Bd ≠ Bw) (hdf:Bd ≠ Bf) (hwf:Bw ≠ Bf) (hgd:w0.heap.size≤Bd) (hgw:w0.heap.size≤Bw) (k:Nat) :
  ∀ (f0 f1:Int) (f2:ByteArray) (A3:Option Addr) (c3:Nat) (f3:List S34) (A4:Option Addr) (c4:Nat) (f4:List ByteArray) (ar D W:Int) (b:Bool) (D' W':Int) (w:World)
   (hr3:Kd.C k34 w0 A3 f3.length f3) (hc3:f3.length≤c3) (hr4:Kd.C Kd.string w0 A4 f4.length f4) (hc4:f4.length≤c4)
   (hst:qAH.St w0 w w Bd Bw Bf D W) (h:qAH.w k f0 f1 f2 f3 f4 ar D W=some (b,D',W')),
  Calls Try.prog 96 #[.agg #[.int .i64 f0,.int .i64 f1,.string f2,.slice A3 f3.length c3,.slice A4 f4.length c4],.int .i64 ar,.pointer (some ⟨Bd,0,none⟩),.pointer (some ⟨Bw,0,none⟩),.pointer (some ⟨Bf,0,none⟩)] w
   fun e w'=>e=.returned (.bool b)∧qAH.St w0 w w' Bd Bw Bf D' W':=by
 induction k using Nat.strongRecOn with
 | _ k ih =>
 intro f0 f1 f2 A3 c3 f3 A4 c4 f4 ar D W b D' W' w hr3 hc3 hr4 hc4 hst h
 cases k with
 | zero=>exact absurd h (by simp [qAH.w])
 | succ k =>
 simp only [qAH.w] at h
 have HR3:=qAA.mk hr3
 have HC3:=qAA.mk hc3
 have HR4:=qAA.mk hr4
 have HC4:=qAA.mk hc4
 have hu25:=Try.underlying34
 have HGD:=qAA.mk hgd
 have HGW:=qAA.mk hgw
 have hld:Bd < w.heap.size:=qAe hst.cd
 have hlw:Bw < w.heap.size:=qAe hst.cw
 have hcd:w.cell? ⟨Bd,0,none⟩=some (.int .i64 D):=(qAB hst.cd 0).trans rfl
 have hcw:w.cell? ⟨Bw,0,none⟩=some (.int .i64 W):=(qAB hst.cw 0).trans rfl
 have hfd:=qAC hst.cd 0
 have hfw:=qAC hst.cw 0
 have HS:qAA (qAH.St w0 w ((w.setCell ⟨Bd,0,none⟩ (.int .i64 (mx D (wrap64 (ar+1))))).setCell ⟨Bw,0,none⟩ (.int .i64 (wrap64 (W+wrap64 (1+mn (f2.size:Int) 2048))))) Bd Bw Bf (mx D (wrap64 (ar+1))) (wrap64 (W+wrap64 (1+mn (f2.size:Int) 2048)))):=⟨(hst.setd hdw hdf hgd _).setw hdw hwf hgw _⟩
 clear hr3 hc3 hr4 hc4 hst hgd hgw
 by_cases t1:8 < mx D (wrap64 (ar+1))
 ·rw [if_pos t1] at h
  simp only [Option.some.injEq,Prod.mk.injEq] at h
  obtain ⟨rfl,rfl,rfl⟩:=h
  have t1b:decide (8 < mx D (wrap64 (ar+1)))=true:=decide_eq_true t1
  clear t1
  go_enter Try.func96,Try.ntmps96
  go_wp2
  go_ret
  exact ⟨rfl,HS.out.alloc _⟩
 rw [if_neg t1] at h
 have t1b:decide (8 < mx D (wrap64 (ar+1)))=false:=decide_eq_false t1
 clear t1
 by_cases t2:2048 < wrap64 (W+wrap64 (1+mn (f2.size:Int) 2048))
 ·rw [if_pos t2] at h
  simp only [Option.some.injEq,Prod.mk.injEq] at h
  obtain ⟨rfl,rfl,rfl⟩:=h
  have t2b:decide (2048 < wrap64 (W+wrap64 (1+mn (f2.size:Int) 2048)))=true:=decide_eq_true t2
  clear t2
  go_enter Try.func96,Try.ntmps96
  go_wp2
  go_ret
  exact ⟨rfl,HS.out.alloc _⟩
 rw [if_neg t2] at h
 have t2b:decide (2048 < wrap64 (W+wrap64 (1+mn (f2.size:Int) 2048)))=false:=decide_eq_false t2
 clear t2
 obtain ⟨ok,HF,h⟩:=Option.bind_eq_some_iff.mp h
 have HF:=qAA.mk HF
 by_cases t3:ok=true
 ·subst t3
  rw [if_pos rfl] at h
  generalize hD1:mx D (wrap64 (ar+1))=D1 at *
  generalize hW1:wrap64 (W+wrap64 (1+mn (f2.size:Int) 2048))=W1 at *
  have H:=qAA.mk h
  clear h
  go_enter Try.func96,Try.ntmps96
  go_wp2_with (go_at_call 97;refine (qAj.calls f0 f1 f2 A3 c3 f3 A4 c4 f4 true _ ?s1 HC3.out ?s2 HC4.out HF.out).mono ?_;(case s1=>exact Kd.qAc HR3.out (HS.out.alloc _).bel);(case s2=>exact Kd.qAc HR4.out (HS.out.alloc _).bel);rintro e wf ⟨rfl,hb⟩;go_loud (have BK0:=qAX (qB5 _ _) hb;have BK1:wf.heap[w.heap.size]?=some (.cells #[.int .i64 f0,.int .i64 f1,.string f2,.slice A3 f3.length c3,.slice A4 f4.length c4] 34 (0,0)):=(by simpa [World.setCell] using BK0);have hz3:wf.cell? ⟨w.heap.size,3,none⟩=some (.slice A3 f3.length c3):=(qAB BK1 3).trans rfl;have hy3:=qAC BK1 3;have BK:=qAA.mk BK1;have HS1:=qAA.mk ((HS.out.alloc _).below hb);clear hb HS BK0 BK1))
  have GG:w.heap.size ≠ Bd∧w.heap.size ≠ Bw:=⟨by omega,by omega⟩
  have HGG:=qAA.mk GG
  clear GG hcd hcw hfd hfw hz3 hy3 t1b t2b
  generalize hgb:w.heap.size=gb at *
  go_loopg [8,9,35] k (fun kq v8 v9 v35 w'=>∃ (i DD WW:Int),v35=.int .i64 i∧qAA (qAH.l kq f0 f1 f2 f3 f4 ar DD WW i=some (b,D',W'))∧qAA (kq≤k)∧qAA (w'.heap[gb]?=some (.cells #[.int .i64 f0,.int .i64 f1,.string f2,.slice A3 f3.length c3,.slice A4 f4.length c4] 34 (0,0)))∧qAA (qAH.St w0 w w' Bd Bw Bf DD WW))
  case atStart=>exact ⟨0,D1,W1,rfl,H,⟨Nat.le_refl _⟩,BK,HS1⟩
  case round =>
   clear H BK HS1
   obtain ⟨i,DD,WW,rfl,HA,HK1,BK,HS1⟩:=hrel
   cases gk with
   | zero=>exact absurd HA.out (by simp [qAH.l])
   | succ k1 =>
    have H:=HA.out
    clear HA
    simp only [qAH.l] at H
    have hz0:wr.cell? ⟨gb,0,none⟩=some (.int .i64 f0):=(qAB BK.out 0).trans rfl
    have hy0:=qAC BK.out 0
    have hz4:wr.cell? ⟨gb,4,none⟩=some (.slice A4 f4.length c4):=(qAB BK.out 4).trans rfl
    have hy4:=qAC BK.out 4
    have hcw:wr.cell? ⟨Bw,0,none⟩=some (.int .i64 WW):=(qAB HS1.out.cw 0).trans rfl
    have hfw:=qAC HS1.out.cw 0
    have hcf:wr.cell? ⟨Bf,0,none⟩=some (.func (.func 96) #[] #[.pointer (some ⟨Bd,0,none⟩),.pointer (some ⟨Bw,0,none⟩),.pointer (some ⟨Bf,0,none⟩)]):=(qAB HS1.out.cf 0).trans rfl
    have hff:=qAC HS1.out.cf 0
    have hlg:gb < wr.heap.size:=qAe BK.out
    have hlw2:Bw < wr.heap.size:=qAe HS1.out.cw
    have hlf2:Bf < wr.heap.size:=qAe HS1.out.cf
    by_cases c:i < (f3.length:Int)
    ·rw [if_pos c] at H
     have cb:decide (i < (f3.length:Int))=true:=decide_eq_true c
     by_cases p:0≤i
     ·rw [if_pos p] at H
      have pb:decide (0≤i)=true:=decide_eq_true p
      obtain ⟨ad,A3x,c3x,A4x,c4x,ead,hx0,hx1,hx2,hx3,hx4,hl3,hi3,hl4,hi4⟩:=at_T34 HR3.out i p c
      cases ead
      have HI3:=qAA.mk hi3
      have HI4:=qAA.mk hi4
      have HL3:=qAA.mk hl3
      have HL4:=qAA.mk hl4
      clear hi3 hi4 hl3 hl4
      replace hx0:=(HS1.out.bel.cell (qs4 w0 _ hx0)).trans hx0
      replace hx1:=(HS1.out.bel.cell (qs4 w0 _ hx1)).trans hx1
      replace hx2:=(HS1.out.bel.cell (qs4 w0 _ hx2)).trans hx2
      replace hx3:=(HS1.out.bel.cell (qs4 w0 _ hx3)).trans hx3
      replace hx4:=(HS1.out.bel.cell (qs4 w0 _ hx4)).trans hx4
      generalize qAR f3 i=x at *
      by_cases k5:f0=5
      ·subst k5
       rw [if_pos rfl] at H
       by_cases q:i < (f4.length:Int)
       ·rw [if_pos q] at H
        have qb:decide (i < (f4.length:Int))=true:=decide_eq_true q
        obtain ⟨ad4,ea4,hk⟩:=Kd.qBH HR4.out i p q
        cases ea4
        replace hk:=(HS1.out.bel.cell (qs4 w0 _ hk)).trans hk
        have hkA:∀ o,(wr.alloc o).cell? (ad4.add i.toNat)=some (.string (rdOf ByteArray.empty f4 i)):=fun o=>((Below.alloc (Below.refl wr.heap.size wr) (Nat.le_refl _) o).cell (qs4 wr _ hk)).trans hk
        have hmax:=Kd.C_max HR4.out
        have hwi:IntKind.i64.wrap (i - 1)=i - 1:=IntWalk.i64_in _ (by omega)
        have hwj:wrap64 (i - 1)=i - 1:=by unfold wrap64;omega
        by_cases g1:32 < ((rdOf ByteArray.empty f4 i).size:Int)
        ·rw [if_pos g1] at H
         simp only [Option.some.injEq,Prod.mk.injEq] at H
         obtain ⟨rfl,rfl,rfl⟩:=H
         generalize rdOf ByteArray.empty f4 i=ki at *
         have g1b:decide (32 < (ki.size:Int))=true:=decide_eq_true g1
         clear g1 hmax hwi hwj
         go_wp2
         go_quiet (fail)
         all_goals go_wp2
         all_goals go_ret
         all_goals exact ⟨rfl,(HS1.out.alloc _).drewN _⟩
        rw [if_neg g1] at H
        have g1b:decide (32 < ((rdOf ByteArray.empty f4 i).size:Int))=false:=decide_eq_false g1
        by_cases g2:0 < i
        ·have g2b:decide (0 < i)=true:=decide_eq_true g2
         obtain ⟨ad5,ea5,hk5⟩:=Kd.qBH HR4.out (i - 1) (by omega) (by omega)
         cases ea5
         replace hk5:=(HS1.out.bel.cell (qs4 w0 _ hk5)).trans hk5
         have hkB:∀ o,(wr.alloc o).cell? (ad4.add (i - 1).toNat)=some (.string (rdOf ByteArray.empty f4 (i - 1))):=fun o=>((Below.alloc (Below.refl wr.heap.size wr) (Nat.le_refl _) o).cell (qs4 wr _ hk5)).trans hk5
         have p1:0≤i - 1:=by omega
         have q1:i - 1 < (f4.length:Int):=by omega
         generalize hj:i - 1=j at *
         have p1b:decide (0≤j)=true:=decide_eq_true p1
         have q1b:decide (j < (f4.length:Int))=true:=decide_eq_true q1
         cases hbl:Op.bytesLess ((rdOf ByteArray.empty f4 j).toList) ((rdOf ByteArray.empty f4 i).toList) with
         | false =>
          rw [if_pos ⟨g2,hbl⟩] at H
          simp only [Option.some.injEq,Prod.mk.injEq] at H
          obtain ⟨rfl,rfl,rfl⟩:=H
          clear hmax
          go_wp2
          go_quiet (fail)
          all_goals go_wp2
          all_goals go_ret
          all_goals exact ⟨rfl,(HS1.out.alloc _).drewN _⟩
         | true =>
          rw [if_neg (by simp [hbl])] at H
          clear hmax
          have e1:wrap64 (1+((rdOf ByteArray.empty f4 i).size:Int))=1+((rdOf ByteArray.empty f4 i).size:Int):=by unfold wrap64;omega
          rw [e1] at H
          clear e1
          obtain ⟨⟨b1,DD1,WW1⟩,HW,H⟩:=Option.bind_eq_some_iff.mp H
          have HW:=qAA.mk HW
          simp only at H
          by_cases tb:b1=true
          ·subst tb
           rw [if_pos rfl] at H
           have H':=qAA.mk H
           clear H
           go_wp2
           go_quiet (fail)
           go_wp2
           go_region
           go_wp2_with (go_at_call 96;refine (ih k1 (by have:=HK1.out;omega) x.f0 x.f1 x.f2 A3x c3x x.f3 A4x c4x x.f4 (wrap64 (ar+1)) DD (wrap64 (WW+(1+((rdOf ByteArray.empty f4 i).size:Int)))) true DD1 WW1 _ HI3.out HL3.out HI4.out HL4.out ?s1 HW.out).mono ?_;(case s1=>exact (((HS1.out.alloc _).drewN _).setw hdw hwf HGW.out _).start);rintro e w8 ⟨rfl,hs8⟩;have BK8:=qAA.mk (hs8.box (blk_far (qAa (qAP BK.out _) _) HGG.out.2 _) HGG.out.1 HGG.out.2);have HS8:=qAA.mk ((((HS1.out.alloc _).drewN _).setw hdw hwf HGW.out _).next hs8);clear hs8)
           go_roundg k1
           case measure=>have:=HK1.out;omega
           case rel=>exact ⟨wrap64 (i+1),DD1,WW1,(by first | rfl | (congr 1;unfold wrap64;omega)),H',⟨by have:=HK1.out;omega⟩,BK8,HS8⟩
          ·obtain rfl:b1=false:=by simpa using tb
           rw [if_neg tb] at H
           simp only [Option.some.injEq,Prod.mk.injEq] at H
           obtain ⟨rfl,rfl,rfl⟩:=H
           go_wp2
           go_quiet (fail)
           go_wp2
           go_region
           go_wp2_with (go_at_call 96;refine (ih k1 (by have:=HK1.out;omega) x.f0 x.f1 x.f2 A3x c3x x.f3 A4x c4x x.f4 (wrap64 (ar+1)) DD (wrap64 (WW+(1+((rdOf ByteArray.empty f4 i).size:Int)))) false DD1 WW1 _ HI3.out HL3.out HI4.out HL4.out ?s1 HW.out).mono ?_;(case s1=>exact (((HS1.out.alloc _).drewN _).setw hdw hwf HGW.out _).start);rintro e w8 ⟨rfl,hs8⟩;have BK8:=qAA.mk (hs8.box (blk_far (qAa (qAP BK.out _) _) HGG.out.2 _) HGG.out.1 HGG.out.2);have HS8:=qAA.mk ((((HS1.out.alloc _).drewN _).setw hdw hwf HGW.out _).next hs8);clear hs8)
           go_ret
           exact ⟨rfl,HS8.out⟩
        ·have g2b:decide (0 < i)=false:=decide_eq_false g2
         rw [if_neg (by simp [g2])] at H
         clear hmax hwi hwj
         have e1:wrap64 (1+((rdOf ByteArray.empty f4 i).size:Int))=1+((rdOf ByteArray.empty f4 i).size:Int):=by unfold wrap64;omega
         rw [e1] at H
         clear e1
         obtain ⟨⟨b1,DD1,WW1⟩,HW,H⟩:=Option.bind_eq_some_iff.mp H
         have HW:=qAA.mk HW
         simp only at H
         by_cases tb:b1=true
         ·subst tb
          rw [if_pos rfl] at H
          have H':=qAA.mk H
          clear H
          go_wp2
          go_quiet (fail)
          go_wp2
          go_region
          go_wp2_with (go_at_call 96;refine (ih k1 (by have:=HK1.out;omega) x.f0 x.f1 x.f2 A3x c3x x.f3 A4x c4x x.f4 (wrap64 (ar+1)) DD (wrap64 (WW+(1+((rdOf ByteArray.empty f4 i).size:Int)))) true DD1 WW1 _ HI3.out HL3.out HI4.out HL4.out ?s1 HW.out).mono ?_;(case s1=>exact (((HS1.out.alloc _).drewN _).setw hdw hwf HGW.out _).start);rintro e w8 ⟨rfl,hs8⟩;have BK8:=qAA.mk (hs8.box (blk_far (qAa (qAP BK.out _) _) HGG.out.2 _) HGG.out.1 HGG.out.2);have HS8:=qAA.mk ((((HS1.out.alloc _).drewN _).setw hdw hwf HGW.out _).next hs8);clear hs8)
          go_roundg k1
          case measure=>have:=HK1.out;omega
          case rel=>exact ⟨wrap64 (i+1),DD1,WW1,(by first | rfl | (congr 1;unfold wrap64;omega)),H',⟨by have:=HK1.out;omega⟩,BK8,HS8⟩
         ·obtain rfl:b1=false:=by simpa using tb
          rw [if_neg tb] at H
          simp only [Option.some.injEq,Prod.mk.injEq] at H
          obtain ⟨rfl,rfl,rfl⟩:=H
          go_wp2
          go_quiet (fail)
          go_wp2
          go_region
          go_wp2_with (go_at_call 96;refine (ih k1 (by have:=HK1.out;omega) x.f0 x.f1 x.f2 A3x c3x x.f3 A4x c4x x.f4 (wrap64 (ar+1)) DD (wrap64 (WW+(1+((rdOf ByteArray.empty f4 i).size:Int)))) false DD1 WW1 _ HI3.out HL3.out HI4.out HL4.out ?s1 HW.out).mono ?_;(case s1=>exact (((HS1.out.alloc _).drewN _).setw hdw hwf HGW.out _).start);rintro e w8 ⟨rfl,hs8⟩;have BK8:=qAA.mk (hs8.box (blk_far (qAa (qAP BK.out _) _) HGG.out.2 _) HGG.out.1 HGG.out.2);have HS8:=qAA.mk ((((HS1.out.alloc _).drewN _).setw hdw hwf HGW.out _).next hs8);clear hs8)
          go_ret
          exact ⟨rfl,HS8.out⟩
       ·rw [if_neg q] at H
        exact absurd H (by simp)
      ·rw [if_neg k5] at H
       have k5b:(f0 == 5)=false:=by simpa using k5
       obtain ⟨⟨b1,DD1,WW1⟩,HW,H⟩:=Option.bind_eq_some_iff.mp H
       have HW:=qAA.mk HW
       simp only at H
       by_cases tb:b1=true
       ·subst tb
        rw [if_pos rfl] at H
        have H':=qAA.mk H
        clear H
        go_wp2_with (go_at_call 96;refine (ih k1 (by have:=HK1.out;omega) x.f0 x.f1 x.f2 A3x c3x x.f3 A4x c4x x.f4 (wrap64 (ar+1)) DD WW true DD1 WW1 _ HI3.out HL3.out HI4.out HL4.out ?s1 HW.out).mono ?_;(case s1=>exact (HS1.out.alloc _).start);rintro e w8 ⟨rfl,hs8⟩;have BK8:=qAA.mk ((hs8.oth gb (qAe (qAP BK.out _)) HGG.out.1 HGG.out.2).trans (qAP BK.out _));have HS8:=qAA.mk ((HS1.out.alloc _).next hs8);clear hs8)
        go_roundg k1
        case measure=>have:=HK1.out;omega
        case rel=>exact ⟨wrap64 (i+1),DD1,WW1,(by first | rfl | (congr 1;unfold wrap64;omega)),H',⟨by have:=HK1.out;omega⟩,BK8,HS8⟩
       ·obtain rfl:b1=false:=by simpa using tb
        rw [if_neg tb] at H
        simp only [Option.some.injEq,Prod.mk.injEq] at H
        obtain ⟨rfl,rfl,rfl⟩:=H
        go_wp2_with (go_at_call 96;refine (ih k1 (by have:=HK1.out;omega) x.f0 x.f1 x.f2 A3x c3x x.f3 A4x c4x x.f4 (wrap64 (ar+1)) DD WW false DD1 WW1 _ HI3.out HL3.out HI4.out HL4.out ?s1 HW.out).mono ?_;(case s1=>exact (HS1.out.alloc _).start);rintro e w8 ⟨rfl,hs8⟩;have BK8:=qAA.mk ((hs8.oth gb (qAe (qAP BK.out _)) HGG.out.1 HGG.out.2).trans (qAP BK.out _));have HS8:=qAA.mk ((HS1.out.alloc _).next hs8);clear hs8)
        go_ret
        exact ⟨rfl,HS8.out⟩
     ·rw [if_neg p] at H
      exact absurd H (by simp)
    ·rw [if_neg c] at H
     have cb:decide (i < (f3.length:Int))=false:=decide_eq_false c
     simp only [Option.some.injEq,Prod.mk.injEq] at H
     obtain ⟨rfl,rfl,rfl⟩:=H
     go_wp2
     go_ret
     exact ⟨rfl,HS1.out⟩
 ·rw [if_neg t3] at h
  simp only [Option.some.injEq,Prod.mk.injEq] at h
  obtain ⟨rfl,rfl,rfl⟩:=h
  obtain rfl:ok=false:=by simpa using t3
  go_enter Try.func96,Try.ntmps96
  go_wp2_with (go_at_call 97;refine (qAj.calls f0 f1 f2 A3 c3 f3 A4 c4 f4 false _ ?s1 HC3.out ?s2 HC4.out HF.out).mono ?_;(case s1=>exact Kd.qAc HR3.out (HS.out.alloc _).bel);(case s2=>exact Kd.qAc HR4.out (HS.out.alloc _).bel);rintro e wf ⟨rfl,hb⟩;have HS1:=qAA.mk ((HS.out.alloc _).below hb);clear hb HS)
  go_ret
  exact ⟨rfl,HS1.out⟩
theorem qAH.at1 (w:World) (b c1 c2 c3:Obj):((((w.alloc b).alloc c1).alloc c2).alloc c3).heap[w.heap.size+1]?=some c1:=by
 have h:=qAP (qAP (qB5 (w.alloc b) c1) c2) c3
 rwa [show (w.alloc b).heap.size=w.heap.size+1 from by simp] at h
theorem qAH.at2 (w:World) (b c1 c2 c3:Obj):((((w.alloc b).alloc c1).alloc c2).alloc c3).heap[w.heap.size+1+1]?=some c2:=by
 have h:=qAP (qB5 ((w.alloc b).alloc c1) c2) c3
 rwa [show ((w.alloc b).alloc c1).heap.size=w.heap.size+1+1 from by simp] at h
theorem qAH.at3 (w:World) (b c1 c2 c3:Obj):((((w.alloc b).alloc c1).alloc c2).alloc c3).heap[w.heap.size+1+1+1]?=some c3:=by
 have h:=qB5 (((w.alloc b).alloc c1).alloc c2) c3
 rwa [show (((w.alloc b).alloc c1).alloc c2).heap.size=w.heap.size+1+1+1 from by simp] at h
theorem qAH.stf {P:Program} {a:Addr} {m:Mode} {w:World} (fn:Fn) (first captured:Array Value):(store a (.func fn first captured) m).run P w=stored P w a (.func fn first captured) m:=run_store P w a _ m rfl
attribute [local go_sem high] qAH.stf
set_option maxHeartbeats 8000000 in
set_option maxRecDepth 100000 in
theorem qAH.calls (k:Nat) (f0 f1:Int) (f2:ByteArray) (A3:Option Addr) (c3:Nat) (f3:List S34) (A4:Option Addr) (c4:Nat) (f4:List ByteArray) (r1 r2:Int) (w:World)
  (hr3:Kd.C k34 w A3 f3.length f3) (hc3:f3.length≤c3) (hr4:Kd.C Kd.string w A4 f4.length f4) (hc4:f4.length≤c4) (h:qAH.f k f0 f1 f2 f3 f4=some (r1,r2)) :
  Calls Try.prog 83 #[.agg #[.int .i64 f0,.int .i64 f1,.string f2,.slice A3 f3.length c3,.slice A4 f4.length c4]] w fun e w'=>e=.returned (.tuple #[.int .i64 r1,.int .i64 r2])∧Below w.heap.size w w':=by
 have hu25:=Try.underlying34
 unfold qAH.f at h
 obtain ⟨⟨b,D',W'⟩,HW,h⟩:=Option.bind_eq_some_iff.mp h
 have HW:=qAA.mk HW
 have HR3:=qAA.mk hr3
 have HR4:=qAA.mk hr4
 have HC3:=qAA.mk hc3
 have HC4:=qAA.mk hc4
 clear hr3 hr4 hc3 hc4
 by_cases tb:b=true
 ·subst tb
  simp only [if_true,Option.some.injEq,Prod.mk.injEq] at h
  obtain ⟨rfl,rfl⟩:=h
  go_enter Try.func83,Try.ntmps83
  go_wp2_with (go_at_call 96;refine (qAH.wcalls w (w.heap.size+1+1) (w.heap.size+1) (w.heap.size+1+1+1) (by omega) (by omega) (by omega) (by omega) (by omega) k f0 f1 f2 A3 c3 f3 A4 c4 f4 0 0 0 true D' W' _ HR3.out HC3.out HR4.out HC4.out ?s1 HW.out).mono ?_;(case s1=>refine ⟨?_, ?_, ?_, ?_,Nat.le_refl _,fun _ _ _ _=>rfl⟩;(· exact qAH.at2 _ _ _ _ _);(· exact qAH.at1 _ _ _ _ _);(· exact qAH.at3 _ _ _ _ _);(· (repeat (first | exact Below.refl _ _ | (refine Below.alloc ?_ (by simp <;> omega) _)))));rintro e w8 ⟨rfl,hs8⟩;have hcd:=(qAB hs8.cd 0).trans rfl;have hcw:=(qAB hs8.cw 0).trans rfl;have hfd:=qAC hs8.cd 0;have hfw:=qAC hs8.cw 0;have HS8:=qAA.mk hs8;clear hs8)
  all_goals go_quiet (fail)
  all_goals go_wp2
  all_goals go_ret2
  all_goals exact ⟨rfl,HS8.out.bel.mono (Nat.le_refl _) |> fun b_=>qAD b_ _⟩
 ·obtain rfl:b=false:=by simpa using tb
  simp only [Bool.false_eq_true,if_false,Option.some.injEq,Prod.mk.injEq] at h
  obtain ⟨rfl,rfl⟩:=h
  go_enter Try.func83,Try.ntmps83
  go_wp2_with (go_at_call 96;refine (qAH.wcalls w (w.heap.size+1+1) (w.heap.size+1) (w.heap.size+1+1+1) (by omega) (by omega) (by omega) (by omega) (by omega) k f0 f1 f2 A3 c3 f3 A4 c4 f4 0 0 0 false D' W' _ HR3.out HC3.out HR4.out HC4.out ?s1 HW.out).mono ?_;(case s1=>refine ⟨?_, ?_, ?_, ?_,Nat.le_refl _,fun _ _ _ _=>rfl⟩;(· exact qAH.at2 _ _ _ _ _);(· exact qAH.at1 _ _ _ _ _);(· exact qAH.at3 _ _ _ _ _);(· (repeat (first | exact Below.refl _ _ | (refine Below.alloc ?_ (by simp <;> omega) _)))));rintro e w8 ⟨rfl,hs8⟩;have hcd:=(qAB hs8.cd 0).trans rfl;have hcw:=(qAB hs8.cw 0).trans rfl;have hfd:=qAC hs8.cd 0;have hfw:=qAC hs8.cw 0;have HS8:=qAA.mk hs8;clear hs8)
  go_ret2
  exact ⟨rfl,HS8.out.bel⟩
end Go.Proofs.Ytdommiicjpjfpaa.X
