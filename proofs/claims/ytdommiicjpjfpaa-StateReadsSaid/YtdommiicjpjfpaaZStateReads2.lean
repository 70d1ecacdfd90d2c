import Derived.Test.YtdommiicjpjfpaaZStateReads1
import Derived.Laws.MakeOwn
set_option linter.unusedVariables false
set_option linter.unusedSimpArgs false
namespace Go.Proofs.YtdommiicjpjfpaaW.XWords
open Go.RowKit Go.Proofs.YtdommiicjpjfpaaW.PrintWords Go.Proofs.YtdommiicjpjfpaaW.PrintLast Go.Proofs.YtdommiicjpjfpaaW.PrintMore
section
variable {P:Program} {ops:Array Oper} {rest:List Oper} {o:Oper} {a:Act} {Q:Exit→Act→World→Prop} {Kc:Act→World→Prop}
theorem made_take (z:Array Value) (m q:Nat) (h:m≤q):(madeCells z q).toList.take m=(madeCells z m).toList:=by
 apply List.ext_getElem?
 intro j
 simp only [List.getElem?_take,madeCells,Array.getElem?_toList,Array.getElem?_map]
 rcases Nat.lt_or_ge j m with hj | hj
 ·rw [if_pos hj]
  simp [Array.getElem?_range,hj,Nat.lt_of_lt_of_le hj h]
 ·rw [if_neg (by omega)]
  simp [hj]
theorem R_make_c {α:Type} (d:Kd α) {w0 W:World} (base e:Nat) (hgd:o.guard=none) {N:Tmp} (_hd:o.dst=some N) (t:TypeId) (x y:Operand) (ho:o.op=.makeSlice t x y) (n c:Int) (hx:a.eval x=.int .i64 n) (hy:a.eval y=.int .i64 c)
  (ht:P.underlying t=some (.slice e)) (z:Value) (bytes:Nat) (hinfo:(P.info? e).map (fun i=>(i.zero,i.size,i.bytes))=some (some z,d.sz,bytes)) (hz:z.cells.size=d.sz) (hs0:0 < d.sz) (hb0:0 < bytes)
  (z0:α) {ok okp:Nat→Prop} (hzero:d.M W base okp z0 z.cells.toList) (hok:∀ k,okp k→ok k) (hfresh:ok W.heap.size) (h0:0≤n) (hnc:n≤c) (hl:c.toNat * bytes≤281474976710656) (HB:Below base w0 W) (hbase:base≤W.heap.size)
  (h:∀ v1 w1,d.R e w1 base ok v1 (List.replicate n.toNat z0)→Below base w0 w1→W.grownBy w1 none→(∃ b,v1.ownBlock=some b∧W.heap.size≤b)→wpList P ops Q rest (a.put o.dst v1) w1):wpList P ops Q (o :: rest) a W:=by
 obtain ⟨m,rfl⟩:=Int.eq_ofNat_of_zero_le h0
 obtain ⟨q,rfl⟩:=Int.eq_ofNat_of_zero_le (Int.le_trans h0 hnc)
 simp only [Int.toNat_natCast] at hl h
 have hmq:m≤q:=by omega
 obtain ⟨i0,hi,hzz⟩:=Option.map_eq_some_iff.1 hinfo
 simp only [Prod.mk.injEq] at hzz
 obtain ⟨hz0,hz1,hz2⟩:=hzz
 have hq:q≤281474976710656:=Nat.le_trans (Nat.le_mul_of_pos_right _ hb0) hl
 have hr:=run_make (P:=P) W t e i0 z ht hi hz0 .i64 .i64 (m:Int) (q:Int) (by omega) (by omega)
  (by
   have h3:((i0.bytes * q:Nat):Int)≤281474976710656:=by rw [hz2,Nat.mul_comm];omega
   rwa [Int.natCast_mul] at h3) (by omega)
 simp only [Int.toNat_natCast] at hr
 rw [hz1] at hr
 have hrep:=Kd.reps_made hz hs0 hzero m
 refine Kd.event_run hgd (v:=.slice (some ⟨W.heap.size,0,none⟩) m q) (w1:=W.alloc (.cells (madeCells z.cells (q * d.sz)) e)) (by simp [execOp,ho,hx,hy,hr]) (h _ _ ⟨fun k hk => ?_,(madeCells z.cells (m * d.sz)).toList, ?_, ?_⟩ (HB.alloc hbase _) (World.grownBy_alloc W _ none) ⟨W.heap.size,by simp [Value.ownBlock],Nat.le_refl _⟩)
 ·have:W.heap.size=k:=by simpa [Value.ownBlock] using hk
  subst this
  exact hfresh
 ·refine ⟨by simp [size_madeCells],.inr ⟨W.heap.size,q,madeCells z.cells (q * d.sz),by simp,hbase,heap_alloc_new W _,by simpa using hmq,by simp only [maxLen];omega,by rw [size_madeCells], ?_⟩⟩
  rw [List.length_replicate]
  exact made_take _ _ _ (Nat.mul_le_mul_right _ hmq)
 ·refine hrep.imp_ (fun p c hp=>d.M_mono (fun k hk=>⟨hok k hk.1,fun he => ?_⟩) (Kd.qBs (d.M_bound hp) (qAE (Below.refl _ _) _)))
  have h3:k=W.heap.size:=by simpa [Value.ownBlock] using he
  have:=hk.2.2.1
  omega
theorem R_copy_row {α:Type} {enc:α→Value} {h1:∀ x,(enc x).oneCell'=true} (d:α) {w0 W:World} (base:Nat) (hgd:o.guard=none) (s x:Operand) (t t' e:TypeId)
  (ho:o.op=.call { callee:=.builtin .copy,args:=#[s,x],argTypes:=#[t,t'] }) (ht:P.underlying t=some (.slice e)) (hinfo:(P.info? e).map (·.size)=some 1)
  (v:Value) (xs ys:List α) (A:Option Addr) (m c:Nat) (ok:Nat→Prop) (hs:a.eval s=v) (hx:a.eval x=.slice A m c)
  (HO:(Kd.scalar enc h1).R e W base ok v xs) (HR:(Kd.scalar enc h1).C W A m ys) (HB:Below base w0 W) (_hF:∀ k,W.heap.size≤k→ok k) (hbase:base≤W.heap.size) (_hL:0≤1)
  (h:∀ w1,(Kd.scalar enc h1).R e w1 base ok v (ys.take (min ys.length xs.length) ++ xs.drop (min ys.length xs.length))→Below base w0 w1→W.grownBy w1 v.ownBlock→(v.ownBlock=v.ownBlock ∨ ∃ b,v.ownBlock=some b∧W.heap.size≤b)→wpList P ops Q rest (a.put o.dst (.int .i64 ((min ys.length xs.length:Nat):Int))) w1) :
  wpList P ops Q (o :: rest) a W:=by
 have hm:ys.length=m:=Kd.C_len HR
 refine Kd.R_copy (h1:=h1) d base hgd s x t t' e ho ht hinfo v xs ys A m c ok hs hx HO HR HB hbase ?_
 rw [← hm]
 exact fun w1 a1 a2 a3=>h w1 a1 a2 a3 (.inl rfl)
end
end Go.Proofs.YtdommiicjpjfpaaW.XWords
namespace Go.Proofs.YtdommiicjpjfpaaW
theorem qCQ:∀ x y:List UInt8,(Op.bytesLess x y || x == y) = !(Op.bytesLess y x)
 | [],[]=>rfl
 | [],_ :: _=>rfl
 | _ :: _,[]=>by simp [Op.bytesLess]
 | a :: x,b :: y=>by
  have ih:=qCQ x y
  simp only [Op.bytesLess,List.cons_beq_cons]
  by_cases h1:a < b
  ·have h2:¬ b < a:=by rw [UInt8.lt_iff_toNat_lt] at *;omega
   have h3:(b == a)=false:=by
    rw [beq_eq_false_iff_ne];rintro rfl;exact h2 h1
   simp [h1,h2,h3]
  ·by_cases h2:b < a
   ·have h3:(a == b)=false:=by
     rw [beq_eq_false_iff_ne];rintro rfl;exact h1 h2
    simp [h1,h2,h3]
   ·obtain rfl:a=b:=by
     rw [UInt8.lt_iff_toNat_lt] at *
     exact UInt8.toNat_inj.1 (by omega)
    simp [h1,← ih]
@[go_sem] theorem str_leq (t:TypeId) (a b:ByteArray):binOp .leq t (.string a) (.string b)=pure (.bool (!(Op.bytesLess b.toList a.toList))):=by
 rw [← qCQ];simp [binOp,Op.stringOp]
@[go_sem] theorem str_gtr (t:TypeId) (a b:ByteArray):binOp .gtr t (.string a) (.string b)=pure (.bool (Op.bytesLess b.toList a.toList)):=by
 rw [show Op.bytesLess b.toList a.toList = !(!(Op.bytesLess b.toList a.toList)) from by simp,← qCQ];simp [binOp,Op.stringOp]
@[go_sem] theorem str_geq (t:TypeId) (a b:ByteArray):binOp .geq t (.string a) (.string b)=pure (.bool (!(Op.bytesLess a.toList b.toList))):=by simp [binOp,Op.stringOp]
end Go.Proofs.YtdommiicjpjfpaaW
