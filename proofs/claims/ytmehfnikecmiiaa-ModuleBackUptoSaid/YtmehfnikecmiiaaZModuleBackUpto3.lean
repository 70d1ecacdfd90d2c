import Derived.Test.YtmehfnikecmiiaaProg
import Derived.Below
import Derived.Deep.Draws
import Derived.Deep.AppendLies
import Derived.Maps.AppendAt
import Derived.OwnWalk
import Derived.Laws.BytesArg
import Derived.Laws.MakeOwn
import Derived.Laws.OwnMore
import Derived.Deep.OwnRows
import Derived.Tactics
import Derived.Lib.ConvBytes
import Derived.Laws.Slices
import Derived.WalkKit
import Derived.KernelRfl
import Derived.RowKit3
import Derived.Deep.LoopGhost
import Derived.Deep.QuietTactic
import Derived.BigQuiet
import Derived.WideLaws
import Derived.Deep.DeepCutAuto
import Derived.Deep.CutBlock
import Derived.Deep.RegionHeld3
import Derived.Laws.Rows
import Derived.Lib.AppendStr
import Derived.ArgAppend
import Derived.Laws.IdiomCopy
import Derived.OrdersHeld
import Derived.Laws.BitsLemmas
import Derived.RowKit
import Derived.Laws.CopyOwn
import Derived.Laws.NewBlocks
import Derived.Test.YtmehfnikecmiiaaZModuleBackUpto1
import Derived.Test.YtmehfnikecmiiaaZModuleBackUpto2
set_option linter.unusedVariables false
set_option linter.unusedSimpArgs false
namespace Go.Proofs.Ytmehfnikecmiiaa.X
open Go.RowKit Go.Proofs.YtmehfnikecmiiaaW.PrintWords Go.Proofs.YtmehfnikecmiiaaW.PrintLast Go.Proofs.YtmehfnikecmiiaaW.PrintMore Go.Proofs.YtmehfnikecmiiaaW
attribute [local go_sem] qBF qBE qBY qBX qA9 qA8 qBI qBH
def errW:Option Int→Value
 | none=>.nilIface
 | some c=>.iface 0 (.int .i64 c)
theorem qAu:errW none=.nilIface:=rfl
theorem qAt (c:Int):errW (some c)=.iface 0 (.int .i64 c):=rfl
theorem info5:(Try.prog.info? 5).map (fun i=>(i.zero,i.size,i.bytes))=some (some (.int .u8 0),1,1):=by kernel_rfl
theorem info9:(Try.prog.info? 9).map (fun i=>(i.zero,i.size,i.bytes))=some (some (.string ⟨#[]⟩),1,16):=by kernel_rfl
theorem info48:(Try.prog.info? 48).map (fun i=>(i.zero,i.size,i.bytes))=some (some (.agg #[(.int .i64 0),(.int .i64 0),(.string ⟨#[]⟩),(.slice none 0 0),(.slice none 0 0)]),5,80):=by kernel_rfl
theorem info52:(Try.prog.info? 52).map (fun i=>(i.zero,i.size,i.bytes))=some (some (.agg #[(.int .i64 0),(.int .i64 0),(.int .i64 0),(.string ⟨#[]⟩)]),4,40):=by kernel_rfl
theorem info56:(Try.prog.info? 56).map (fun i=>(i.zero,i.size,i.bytes))=some (some (.agg #[(.string ⟨#[]⟩),(.int .i64 0)]),2,24):=by kernel_rfl
structure S48 where
 f0:Int
 f1:Int
 f2:ByteArray
 f3:(List S48)
 f4:(List ByteArray)
def z48:S48:=⟨(0:Int),(0:Int),(⟨#[]⟩:ByteArray),([]:List S48),([]:List ByteArray)⟩
def F48 (d:Kd S48):Kd S48:=Kd.iso (Kd.pair (Kd.int .i64) (Kd.pair (Kd.int .i64) (Kd.pair Kd.string (Kd.pair (Kd.slice 48 d) (Kd.slice 9 Kd.string))))) (fun x:S48=>(x.f0,x.f1,x.f2,x.f3,x.f4))
theorem mono48:Kd.Mono F48:=Kd.mono_iso _ (Kd.mono_pair (Kd.mono_const _) (Kd.mono_pair (Kd.mono_const _) (Kd.mono_pair (Kd.mono_const _) (Kd.mono_pair (Kd.mono_slice 48 Kd.mono_id) (Kd.mono_const _)))))
theorem sub48:Kd.Sub F48 [9,48]:=Kd.sub_iso _ (Kd.sub_pair (Kd.sub_const _ (by decide)) (Kd.sub_pair (Kd.sub_const _ (by decide)) (Kd.sub_pair (Kd.sub_const _ (by decide)) (Kd.sub_pair (Kd.sub_slice 48 (by decide) Kd.sub_id) (Kd.sub_const _ (by decide))))))
theorem sz48:∀ n,(Kd.upto F48 5 [9,48] n).sz=5:=Kd.upto_sz (fun _=>rfl)
def k48:Kd S48:=Kd.fix F48 5 [9,48] sz48 (Kd.upto_E sub48)
theorem k48_open {w:World} {x:S48} {cs:List Value} (h:k48.K w x cs):∃ A3 c3 A4 c4,cs=[.int .i64 x.f0,.int .i64 x.f1,.string x.f2,.slice A3 x.f3.length c3,.slice A4 x.f4.length c4]∧x.f3.length≤c3∧k48.C w A3 x.f3.length x.f3∧x.f4.length≤c4∧Kd.string.C w A4 x.f4.length x.f4:=by
 obtain ⟨n,h⟩:=h
 cases n with
 | zero=>exact h.elim
 | succ n =>
  obtain ⟨_,_,rfl,rfl,⟨_,_,rfl,rfl,⟨_,_,rfl,rfl,⟨_,_,rfl,⟨A3,c3,rfl,l3,g3⟩,⟨A4,c4,rfl,l4,g4⟩⟩⟩⟩⟩:=h
  exact ⟨A3,c3,A4,c4,rfl,l3,Kd.fix_C g3,l4,g4⟩
theorem k48_openM {w:World} {base:Nat} {ok:Nat→Prop} {x:S48} {cs:List Value} (h:k48.M w base ok x cs):∃ v3 v4,cs=[.int .i64 x.f0,.int .i64 x.f1,.string x.f2,v3,v4]∧k48.R 48 w base ok v3 x.f3∧Kd.string.R 9 w base ok v4 x.f4:=by
 obtain ⟨n,h⟩:=h
 cases n with
 | zero=>exact h.elim
 | succ n =>
  obtain ⟨_,_,rfl,rfl,⟨_,_,rfl,rfl,⟨_,_,rfl,rfl,⟨_,_,rfl,⟨v3,rfl,g3⟩,⟨v4,rfl,g4⟩⟩⟩⟩⟩:=h
  exact ⟨v3,v4,rfl,Kd.fix_R g3,g4⟩
theorem k48_mk (w:World) (x:S48) {A3:Option Addr} {c3:Nat} (l3:x.f3.length≤c3) (g3:k48.C w A3 x.f3.length x.f3) {A4:Option Addr} {c4:Nat} (l4:x.f4.length≤c4) (g4:Kd.string.C w A4 x.f4.length x.f4):k48.K w x [.int .i64 x.f0,.int .i64 x.f1,.string x.f2,.slice A3 x.f3.length c3,.slice A4 x.f4.length c4]:=by
 obtain ⟨n3,q3⟩:=Kd.fix_C_back mono48 g3
 have r3:=Kd.upto_C_le mono48 sz48 (show n3≤n3 by omega) q3
 exact ⟨n3+1,⟨[.int .i64 x.f0],[.int .i64 x.f1,.string x.f2,.slice A3 x.f3.length c3,.slice A4 x.f4.length c4],rfl,rfl,⟨[.int .i64 x.f1],[.string x.f2,.slice A3 x.f3.length c3,.slice A4 x.f4.length c4],rfl,rfl,⟨[.string x.f2],[.slice A3 x.f3.length c3,.slice A4 x.f4.length c4],rfl,rfl,⟨[.slice A3 x.f3.length c3],[.slice A4 x.f4.length c4],rfl,⟨A3,c3,rfl,l3,r3⟩,⟨A4,c4,rfl,l4,g4⟩⟩⟩⟩⟩⟩
theorem k48_mkM (w:World) (base:Nat) (ok:Nat→Prop) (x:S48) {v3:Value} (g3:k48.R 48 w base ok v3 x.f3) {v4:Value} (g4:Kd.string.R 9 w base ok v4 x.f4):k48.M w base ok x [.int .i64 x.f0,.int .i64 x.f1,.string x.f2,v3,v4]:=by
 obtain ⟨n3,q3⟩:=Kd.fix_R_back mono48 g3
 have r3:=Kd.upto_R_le mono48 sz48 (show n3≤n3 by omega) q3
 exact ⟨n3+1,⟨[.int .i64 x.f0],[.int .i64 x.f1,.string x.f2,v3,v4],rfl,rfl,⟨[.int .i64 x.f1],[.string x.f2,v3,v4],rfl,rfl,⟨[.string x.f2],[v3,v4],rfl,rfl,⟨[v3],[v4],rfl,⟨v3,rfl,r3⟩,⟨v4,rfl,g4⟩⟩⟩⟩⟩⟩
def qAO (xs:List S48) (i:Int):S48:=xs.getD i.toNat z48
theorem qCa {w:World} {A:Option Addr} {n:Nat} {xs:List S48} (h:Kd.C k48 w A n xs) (i:Int) (h0:0≤i) (h1:i < n):∃ ad A3 c3 A4 c4,A=some ad∧w.cell? (ad.add (i.toNat * 5))=some (.int .i64 (qAO xs i).f0)∧w.cell? ⟨(ad.add (i.toNat * 5)).block,(ad.add (i.toNat * 5)).off+1,none⟩=some (.int .i64 (qAO xs i).f1)∧w.cell? ⟨(ad.add (i.toNat * 5)).block,(ad.add (i.toNat * 5)).off+2,none⟩=some (.string (qAO xs i).f2)∧w.cell? ⟨(ad.add (i.toNat * 5)).block,(ad.add (i.toNat * 5)).off+3,none⟩=some (.slice A3 (qAO xs i).f3.length c3)∧w.cell? ⟨(ad.add (i.toNat * 5)).block,(ad.add (i.toNat * 5)).off+4,none⟩=some (.slice A4 (qAO xs i).f4.length c4)∧(qAO xs i).f3.length≤c3∧k48.C w A3 (qAO xs i).f3.length (qAO xs i).f3∧(qAO xs i).f4.length≤c4∧Kd.string.C w A4 (qAO xs i).f4.length (qAO xs i).f4:=by
 obtain ⟨ad,c,e,_,hK,hc0⟩:=Kd.C_get h z48 i h0 h1
 have hc:∀ j u,c[j]?=some u→w.cell? (ad.add (i.toNat * 5+j))=some u:=hc0
 obtain ⟨A3,c3,A4,c4,rfl,l3,g3,l4,g4⟩:=k48_open hK
 exact ⟨ad,A3,c3,A4,c4,e,hc 0 _ rfl,by rw [← qCE _ _ 1 (by omega)];exact hc 1 _ rfl,by rw [← qCE _ _ 2 (by omega)];exact hc 2 _ rfl,by rw [← qCE _ _ 3 (by omega)];exact hc 3 _ rfl,by rw [← qCE _ _ 4 (by omega)];exact hc 4 _ rfl,l3,g3,l4,g4⟩
structure S52 where
 f0:Int
 f1:Int
 f2:Int
 f3:ByteArray
def z52:S52:=⟨(0:Int),(0:Int),(0:Int),(⟨#[]⟩:ByteArray)⟩
def k52:Kd S52:=Kd.iso (Kd.pair (Kd.int .i64) (Kd.pair (Kd.int .i64) (Kd.pair (Kd.int .i64) Kd.string))) (fun x:S52=>(x.f0,x.f1,x.f2,x.f3))
theorem k52_open {w:World} {x:S52} {cs:List Value} (h:k52.K w x cs):cs=[.int .i64 x.f0,.int .i64 x.f1,.int .i64 x.f2,.string x.f3]:=by
 obtain ⟨_,_,rfl,rfl,⟨_,_,rfl,rfl,⟨_,_,rfl,rfl,rfl⟩⟩⟩:=h
 exact rfl
theorem k52_mk (w:World) (x:S52) :k52.K w x [.int .i64 x.f0,.int .i64 x.f1,.int .i64 x.f2,.string x.f3]:=⟨[.int .i64 x.f0],[.int .i64 x.f1,.int .i64 x.f2,.string x.f3],rfl,rfl,⟨[.int .i64 x.f1],[.int .i64 x.f2,.string x.f3],rfl,rfl,⟨[.int .i64 x.f2],[.string x.f3],rfl,rfl,rfl⟩⟩⟩
theorem k52_mkM (w:World) (base:Nat) (ok:Nat→Prop) (x:S52) :k52.M w base ok x [.int .i64 x.f0,.int .i64 x.f1,.int .i64 x.f2,.string x.f3]:=⟨[.int .i64 x.f0],[.int .i64 x.f1,.int .i64 x.f2,.string x.f3],rfl,rfl,⟨[.int .i64 x.f1],[.int .i64 x.f2,.string x.f3],rfl,rfl,⟨[.int .i64 x.f2],[.string x.f3],rfl,rfl,rfl⟩⟩⟩
def qAp (xs:List S52) (i:Int):S52:=xs.getD i.toNat z52
theorem at_T52 {w:World} {A:Option Addr} {n:Nat} {xs:List S52} (h:Kd.C k52 w A n xs) (i:Int) (h0:0≤i) (h1:i < n):∃ ad ,A=some ad∧w.cell? (ad.add (i.toNat * 4))=some (.int .i64 (qAp xs i).f0)∧w.cell? ⟨(ad.add (i.toNat * 4)).block,(ad.add (i.toNat * 4)).off+1,none⟩=some (.int .i64 (qAp xs i).f1)∧w.cell? ⟨(ad.add (i.toNat * 4)).block,(ad.add (i.toNat * 4)).off+2,none⟩=some (.int .i64 (qAp xs i).f2)∧w.cell? ⟨(ad.add (i.toNat * 4)).block,(ad.add (i.toNat * 4)).off+3,none⟩=some (.string (qAp xs i).f3):=by
 obtain ⟨ad,c,e,_,hK,hc0⟩:=Kd.C_get h z52 i h0 h1
 have hc:∀ j u,c[j]?=some u→w.cell? (ad.add (i.toNat * 4+j))=some u:=hc0
 obtain rfl:=k52_open hK
 exact ⟨ad,e,hc 0 _ rfl,by rw [← qCE _ _ 1 (by omega)];exact hc 1 _ rfl,by rw [← qCE _ _ 2 (by omega)];exact hc 2 _ rfl,by rw [← qCE _ _ 3 (by omega)];exact hc 3 _ rfl⟩
structure S56 where
 f0:ByteArray
 f1:Int
def z56:S56:=⟨(⟨#[]⟩:ByteArray),(0:Int)⟩
def k56:Kd S56:=Kd.iso (Kd.pair Kd.string (Kd.int .i64)) (fun x:S56=>(x.f0,x.f1))
theorem k56_open {w:World} {x:S56} {cs:List Value} (h:k56.K w x cs):cs=[.string x.f0,.int .i64 x.f1]:=by
 obtain ⟨_,_,rfl,rfl,rfl⟩:=h
 exact rfl
theorem k56_mk (w:World) (x:S56) :k56.K w x [.string x.f0,.int .i64 x.f1]:=⟨[.string x.f0],[.int .i64 x.f1],rfl,rfl,rfl⟩
theorem k56_mkM (w:World) (base:Nat) (ok:Nat→Prop) (x:S56) :k56.M w base ok x [.string x.f0,.int .i64 x.f1]:=⟨[.string x.f0],[.int .i64 x.f1],rfl,rfl,rfl⟩
def qAy (xs:List S56) (i:Int):S56:=xs.getD i.toNat z56
theorem at_T56 {w:World} {A:Option Addr} {n:Nat} {xs:List S56} (h:Kd.C k56 w A n xs) (i:Int) (h0:0≤i) (h1:i < n):∃ ad ,A=some ad∧w.cell? (ad.add (i.toNat * 2))=some (.string (qAy xs i).f0)∧w.cell? ⟨(ad.add (i.toNat * 2)).block,(ad.add (i.toNat * 2)).off+1,none⟩=some (.int .i64 (qAy xs i).f1):=by
 obtain ⟨ad,c,e,_,hK,hc0⟩:=Kd.C_get h z56 i h0 h1
 have hc:∀ j u,c[j]?=some u→w.cell? (ad.add (i.toNat * 2+j))=some u:=hc0
 obtain rfl:=k56_open hK
 exact ⟨ad,e,hc 0 _ rfl,by rw [← qCE _ _ 1 (by omega)];exact hc 1 _ rfl⟩
end Go.Proofs.Ytmehfnikecmiiaa.X
