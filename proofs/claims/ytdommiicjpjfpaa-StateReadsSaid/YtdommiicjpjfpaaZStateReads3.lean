import Derived.Test.YtdommiicjpjfpaaProg
import Derived.Below
import Derived.Deep.Draws
import Derived.Deep.AppendLies
import Derived.Maps.AppendAt
import Derived.OwnWalk
import Derived.Laws.BytesArg
import Derived.Laws.MakeOwn
import Derived.Laws.OwnMore
import Derived.Deep.OwnRows
import Derived.Tactics
import Derived.Lib.ConvBytes
import Derived.Laws.Slices
import Derived.WalkKit
import Derived.KernelRfl
import Derived.RowKit3
import Derived.Deep.LoopGhost
import Derived.Deep.QuietTactic
import Derived.BigQuiet
import Derived.WideLaws
import Derived.Deep.DeepCutAuto
import Derived.Deep.CutBlock
import Derived.Deep.RegionHeld3
import Derived.Laws.Rows
import Derived.Lib.AppendStr
import Derived.ArgAppend
import Derived.Laws.IdiomCopy
import Derived.OrdersHeld
import Derived.Laws.BitsLemmas
import Derived.RowKit
import Derived.Laws.CopyOwn
import Derived.Laws.NewBlocks
import Derived.Test.YtdommiicjpjfpaaZStateReads1
import Derived.Test.YtdommiicjpjfpaaZStateReads2
set_option linter.unusedVariables false
set_option linter.unusedSimpArgs false
namespace Go.Proofs.Ytdommiicjpjfpaa.X
open Go.RowKit Go.Proofs.YtdommiicjpjfpaaW.PrintWords Go.Proofs.YtdommiicjpjfpaaW.PrintLast Go.Proofs.YtdommiicjpjfpaaW.PrintMore Go.Proofs.YtdommiicjpjfpaaW
attribute [local go_sem] qBE qBD qBV qBU qA6 qA5 qBJ qBI
def errW:Option Int→Value
 | none=>.nilIface
 | some c=>.iface 0 (.int .i64 c)
theorem qAT:errW none=.nilIface:=rfl
theorem qAS (c:Int):errW (some c)=.iface 0 (.int .i64 c):=rfl
theorem info5:(Try.prog.info? 5).map (fun i=>(i.zero,i.size,i.bytes))=some (some (.int .u8 0),1,1):=by kernel_rfl
theorem info9:(Try.prog.info? 9).map (fun i=>(i.zero,i.size,i.bytes))=some (some (.string ⟨#[]⟩),1,16):=by kernel_rfl
theorem info34:(Try.prog.info? 34).map (fun i=>(i.zero,i.size,i.bytes))=some (some (.agg #[(.int .i64 0),(.int .i64 0),(.string ⟨#[]⟩),(.slice none 0 0),(.slice none 0 0)]),5,80):=by kernel_rfl
theorem info51:(Try.prog.info? 51).map (fun i=>(i.zero,i.size,i.bytes))=some (some (.agg #[(.string ⟨#[]⟩),(.int .i64 0),(.int .i64 0),(.string ⟨#[]⟩),(.slice none 0 0),(.slice none 0 0)]),6,96):=by kernel_rfl
structure S34 where
 f0:Int
 f1:Int
 f2:ByteArray
 f3:(List S34)
 f4:(List ByteArray)
def z34:S34:=⟨(0:Int),(0:Int),(⟨#[]⟩:ByteArray),([]:List S34),([]:List ByteArray)⟩
def F34 (d:Kd S34):Kd S34:=Kd.iso (Kd.pair (Kd.int .i64) (Kd.pair (Kd.int .i64) (Kd.pair Kd.string (Kd.pair (Kd.slice 34 d) (Kd.slice 9 Kd.string))))) (fun x:S34=>(x.f0,x.f1,x.f2,x.f3,x.f4))
theorem mono34:Kd.Mono F34:=Kd.mono_iso _ (Kd.mono_pair (Kd.mono_const _) (Kd.mono_pair (Kd.mono_const _) (Kd.mono_pair (Kd.mono_const _) (Kd.mono_pair (Kd.mono_slice 34 Kd.mono_id) (Kd.mono_const _)))))
theorem sub34:Kd.Sub F34 [9,34]:=Kd.sub_iso _ (Kd.sub_pair (Kd.sub_const _ (by decide)) (Kd.sub_pair (Kd.sub_const _ (by decide)) (Kd.sub_pair (Kd.sub_const _ (by decide)) (Kd.sub_pair (Kd.sub_slice 34 (by decide) Kd.sub_id) (Kd.sub_const _ (by decide))))))
theorem sz34:∀ n,(Kd.upto F34 5 [9,34] n).sz=5:=Kd.upto_sz (fun _=>rfl)
def k34:Kd S34:=Kd.fix F34 5 [9,34] sz34 (Kd.upto_E sub34)
theorem k34_open {w:World} {x:S34} {cs:List Value} (h:k34.K w x cs):∃ A3 c3 A4 c4,cs=[.int .i64 x.f0,.int .i64 x.f1,.string x.f2,.slice A3 x.f3.length c3,.slice A4 x.f4.length c4]∧x.f3.length≤c3∧k34.C w A3 x.f3.length x.f3∧x.f4.length≤c4∧Kd.string.C w A4 x.f4.length x.f4:=by
 obtain ⟨n,h⟩:=h
 cases n with
 | zero=>exact h.elim
 | succ n =>
  obtain ⟨_,_,rfl,rfl,⟨_,_,rfl,rfl,⟨_,_,rfl,rfl,⟨_,_,rfl,⟨A3,c3,rfl,l3,g3⟩,⟨A4,c4,rfl,l4,g4⟩⟩⟩⟩⟩:=h
  exact ⟨A3,c3,A4,c4,rfl,l3,Kd.fix_C g3,l4,g4⟩
theorem k34_openM {w:World} {base:Nat} {ok:Nat→Prop} {x:S34} {cs:List Value} (h:k34.M w base ok x cs):∃ v3 v4,cs=[.int .i64 x.f0,.int .i64 x.f1,.string x.f2,v3,v4]∧k34.R 34 w base ok v3 x.f3∧Kd.string.R 9 w base ok v4 x.f4:=by
 obtain ⟨n,h⟩:=h
 cases n with
 | zero=>exact h.elim
 | succ n =>
  obtain ⟨_,_,rfl,rfl,⟨_,_,rfl,rfl,⟨_,_,rfl,rfl,⟨_,_,rfl,⟨v3,rfl,g3⟩,⟨v4,rfl,g4⟩⟩⟩⟩⟩:=h
  exact ⟨v3,v4,rfl,Kd.fix_R g3,g4⟩
theorem k34_mk (w:World) (x:S34) {A3:Option Addr} {c3:Nat} (l3:x.f3.length≤c3) (g3:k34.C w A3 x.f3.length x.f3) {A4:Option Addr} {c4:Nat} (l4:x.f4.length≤c4) (g4:Kd.string.C w A4 x.f4.length x.f4):k34.K w x [.int .i64 x.f0,.int .i64 x.f1,.string x.f2,.slice A3 x.f3.length c3,.slice A4 x.f4.length c4]:=by
 obtain ⟨n3,q3⟩:=Kd.fix_C_back mono34 g3
 have r3:=Kd.upto_C_le mono34 sz34 (show n3≤n3 by omega) q3
 exact ⟨n3+1,⟨[.int .i64 x.f0],[.int .i64 x.f1,.string x.f2,.slice A3 x.f3.length c3,.slice A4 x.f4.length c4],rfl,rfl,⟨[.int .i64 x.f1],[.string x.f2,.slice A3 x.f3.length c3,.slice A4 x.f4.length c4],rfl,rfl,⟨[.string x.f2],[.slice A3 x.f3.length c3,.slice A4 x.f4.length c4],rfl,rfl,⟨[.slice A3 x.f3.length c3],[.slice A4 x.f4.length c4],rfl,⟨A3,c3,rfl,l3,r3⟩,⟨A4,c4,rfl,l4,g4⟩⟩⟩⟩⟩⟩
theorem k34_mkM (w:World) (base:Nat) (ok:Nat→Prop) (x:S34) {v3:Value} (g3:k34.R 34 w base ok v3 x.f3) {v4:Value} (g4:Kd.string.R 9 w base ok v4 x.f4):k34.M w base ok x [.int .i64 x.f0,.int .i64 x.f1,.string x.f2,v3,v4]:=by
 obtain ⟨n3,q3⟩:=Kd.fix_R_back mono34 g3
 have r3:=Kd.upto_R_le mono34 sz34 (show n3≤n3 by omega) q3
 exact ⟨n3+1,⟨[.int .i64 x.f0],[.int .i64 x.f1,.string x.f2,v3,v4],rfl,rfl,⟨[.int .i64 x.f1],[.string x.f2,v3,v4],rfl,rfl,⟨[.string x.f2],[v3,v4],rfl,rfl,⟨[v3],[v4],rfl,⟨v3,rfl,r3⟩,⟨v4,rfl,g4⟩⟩⟩⟩⟩⟩
def qAR (xs:List S34) (i:Int):S34:=xs.getD i.toNat z34
theorem at_T34 {w:World} {A:Option Addr} {n:Nat} {xs:List S34} (h:Kd.C k34 w A n xs) (i:Int) (h0:0≤i) (h1:i < n):∃ ad A3 c3 A4 c4,A=some ad∧w.cell? (ad.add (i.toNat * 5))=some (.int .i64 (qAR xs i).f0)∧w.cell? ⟨(ad.add (i.toNat * 5)).block,(ad.add (i.toNat * 5)).off+1,none⟩=some (.int .i64 (qAR xs i).f1)∧w.cell? ⟨(ad.add (i.toNat * 5)).block,(ad.add (i.toNat * 5)).off+2,none⟩=some (.string (qAR xs i).f2)∧w.cell? ⟨(ad.add (i.toNat * 5)).block,(ad.add (i.toNat * 5)).off+3,none⟩=some (.slice A3 (qAR xs i).f3.length c3)∧w.cell? ⟨(ad.add (i.toNat * 5)).block,(ad.add (i.toNat * 5)).off+4,none⟩=some (.slice A4 (qAR xs i).f4.length c4)∧(qAR xs i).f3.length≤c3∧k34.C w A3 (qAR xs i).f3.length (qAR xs i).f3∧(qAR xs i).f4.length≤c4∧Kd.string.C w A4 (qAR xs i).f4.length (qAR xs i).f4:=by
 obtain ⟨ad,c,e,_,hK,hc0⟩:=Kd.C_get h z34 i h0 h1
 have hc:∀ j u,c[j]?=some u→w.cell? (ad.add (i.toNat * 5+j))=some u:=hc0
 obtain ⟨A3,c3,A4,c4,rfl,l3,g3,l4,g4⟩:=k34_open hK
 exact ⟨ad,A3,c3,A4,c4,e,hc 0 _ rfl,by rw [← qB1 _ _ 1 (by omega)];exact hc 1 _ rfl,by rw [← qB1 _ _ 2 (by omega)];exact hc 2 _ rfl,by rw [← qB1 _ _ 3 (by omega)];exact hc 3 _ rfl,by rw [← qB1 _ _ 4 (by omega)];exact hc 4 _ rfl,l3,g3,l4,g4⟩
structure S51 where
 f0:ByteArray
 f1:S34
def z51:S51:=⟨(⟨#[]⟩:ByteArray),z34⟩
def k51:Kd S51:=Kd.iso (Kd.pair Kd.string k34) (fun x:S51=>(x.f0,x.f1))
theorem k51_open {w:World} {x:S51} {cs:List Value} (h:k51.K w x cs):∃ A4 c4 A5 c5,cs=[.string x.f0,.int .i64 x.f1.f0,.int .i64 x.f1.f1,.string x.f1.f2,.slice A4 x.f1.f3.length c4,.slice A5 x.f1.f4.length c5]∧x.f1.f3.length≤c4∧k34.C w A4 x.f1.f3.length x.f1.f3∧x.f1.f4.length≤c5∧Kd.string.C w A5 x.f1.f4.length x.f1.f4:=by
 obtain ⟨_,_,rfl,rfl,s1⟩:=h
 obtain ⟨A4,c4,A5,c5,rfl,l4,g4,l5,g5⟩:=k34_open s1
 exact ⟨A4,c4,A5,c5,rfl,l4,g4,l5,g5⟩
theorem k51_mk (w:World) (x:S51) {A4:Option Addr} {c4:Nat} (l4:x.f1.f3.length≤c4) (g4:k34.C w A4 x.f1.f3.length x.f1.f3) {A5:Option Addr} {c5:Nat} (l5:x.f1.f4.length≤c5) (g5:Kd.string.C w A5 x.f1.f4.length x.f1.f4):k51.K w x [.string x.f0,.int .i64 x.f1.f0,.int .i64 x.f1.f1,.string x.f1.f2,.slice A4 x.f1.f3.length c4,.slice A5 x.f1.f4.length c5]:=⟨[.string x.f0],[.int .i64 x.f1.f0,.int .i64 x.f1.f1,.string x.f1.f2,.slice A4 x.f1.f3.length c4,.slice A5 x.f1.f4.length c5],rfl,rfl,(k34_mk w x.f1 l4 g4 l5 g5)⟩
def qAJ (xs:List S51) (i:Int):S51:=xs.getD i.toNat z51
theorem qCI {w:World} {A:Option Addr} {n:Nat} {xs:List S51} (h:Kd.C k51 w A n xs) (i:Int) (h0:0≤i) (h1:i < n):∃ ad A4 c4 A5 c5,A=some ad∧w.cell? (ad.add (i.toNat * 6))=some (.string (qAJ xs i).f0)∧w.cell? ⟨(ad.add (i.toNat * 6)).block,(ad.add (i.toNat * 6)).off+1,none⟩=some (.int .i64 (qAJ xs i).f1.f0)∧w.cell? ⟨(ad.add (i.toNat * 6)).block,(ad.add (i.toNat * 6)).off+2,none⟩=some (.int .i64 (qAJ xs i).f1.f1)∧w.cell? ⟨(ad.add (i.toNat * 6)).block,(ad.add (i.toNat * 6)).off+3,none⟩=some (.string (qAJ xs i).f1.f2)∧w.cell? ⟨(ad.add (i.toNat * 6)).block,(ad.add (i.toNat * 6)).off+4,none⟩=some (.slice A4 (qAJ xs i).f1.f3.length c4)∧w.cell? ⟨(ad.add (i.toNat * 6)).block,(ad.add (i.toNat * 6)).off+5,none⟩=some (.slice A5 (qAJ xs i).f1.f4.length c5)∧(qAJ xs i).f1.f3.length≤c4∧k34.C w A4 (qAJ xs i).f1.f3.length (qAJ xs i).f1.f3∧(qAJ xs i).f1.f4.length≤c5∧Kd.string.C w A5 (qAJ xs i).f1.f4.length (qAJ xs i).f1.f4:=by
 obtain ⟨ad,c,e,_,hK,hc0⟩:=Kd.C_get h z51 i h0 h1
 have hc:∀ j u,c[j]?=some u→w.cell? (ad.add (i.toNat * 6+j))=some u:=hc0
 obtain ⟨A4,c4,A5,c5,rfl,l4,g4,l5,g5⟩:=k51_open hK
 exact ⟨ad,A4,c4,A5,c5,e,hc 0 _ rfl,by rw [← qB1 _ _ 1 (by omega)];exact hc 1 _ rfl,by rw [← qB1 _ _ 2 (by omega)];exact hc 2 _ rfl,by rw [← qB1 _ _ 3 (by omega)];exact hc 3 _ rfl,by rw [← qB1 _ _ 4 (by omega)];exact hc 4 _ rfl,by rw [← qB1 _ _ 5 (by omega)];exact hc 5 _ rfl,l4,g4,l5,g5⟩
structure S36 where
 f0:ByteArray
 f1:Bool
 f2:S34
end Go.Proofs.Ytdommiicjpjfpaa.X
