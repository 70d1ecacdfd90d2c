import Derived.Test.YtmehfnikecmiiaaZModuleBackUpto3
import Derived.Test.YtmehfnikecmiiaaZModuleBackUpto15
set_option linter.unusedVariables false
set_option linter.unusedSimpArgs false
namespace Go.Proofs.Ytmehfnikecmiiaa.X
open Go.RowKit Go.Proofs.YtmehfnikecmiiaaW.PrintWords Go.Proofs.YtmehfnikecmiiaaW.PrintLast Go.Proofs.YtmehfnikecmiiaaW.PrintMore Go.Proofs.YtmehfnikecmiiaaW
attribute [local go_sem] qBF qBE qBY qBX qA9 qA8 qBI qBH
mutual
def qAF.j0:Nat→Int→Int→Int→Bool→Int→Int→ByteArray→List (S48)→List ByteArray→Option (Int)
 | 0,_,_,_,_,_,_,_,_,_=>none
 | k+1,x1,x2,x7,x22,x182000,x182001,x182002,x182003,x182004=>if x22=true then (some x7) else (if x182000=3 then (if (x182002.size:Int) > 2048 then (some x7) else (qAF.j1 k x1 x7 (wrap64 ((wrap64 (x2+1))+(x182002.size:Int))) x182000 x182001 x182002 x182003 x182004)) else (qAF.j1 k x1 x7 (wrap64 (x2+1)) x182000 x182001 x182002 x182003 x182004))
def qAF.j1:Nat→Int→Int→Int→Int→Int→ByteArray→List (S48)→List ByteArray→Option (Int)
 | 0,_,_,_,_,_,_,_,_=>none
 | k+1,x1,x7,x9,x182000,x182001,x182002,x182003,x182004=>qAF.l0 k x1 x7 x9 0 x182000 x182001 x182002 x182003 x182004
def qAF.l0:Nat→Int→Int→Int→Int→Int→Int→ByteArray→List (S48)→List ByteArray→Option (Int)
 | 0,_,_,_,_,_,_,_,_,_=>none
 | k+1,x1,x7,x9,x10,x182000,x182001,x182002,x182003,x182004=>if x10 < (x182003.length:Int) then (qAF.j3 k x1 x7 x9 x10 (decide (x9 < x7)) x182000 x182001 x182002 x182003 x182004) else (qAF.j3 k x1 x7 x9 x10 false x182000 x182001 x182002 x182003 x182004)
def qAF.j3:Nat→Int→Int→Int→Int→Bool→Int→Int→ByteArray→List (S48)→List ByteArray→Option (Int)
 | 0,_,_,_,_,_,_,_,_,_,_=>none
 | k+1,x1,x7,x9,x10,x48,x182000,x182001,x182002,x182003,x182004=>if x48=true then (if x182000=5 then (if 0≤x10 then (if x10 < (x182004.length:Int) then (if ((rdOf ByteArray.empty x182004 x10).size:Int) > 32 then (some x7) else (if x10 > 0 then (if 0≤(wrap64 (x10 - 1)) then (if (wrap64 (x10 - 1)) < (x182004.length:Int) then (if ((Op.bytesLess ((rdOf ByteArray.empty x182004 (wrap64 (x10 - 1))).toList) ((rdOf ByteArray.empty x182004 x10).toList))=true) then (if x10 < (x182003.length:Int) then ((qAF.f k ((qAO x182003 x10).f0) ((qAO x182003 x10).f1) ((qAO x182003 x10).f2) ((qAO x182003 x10).f3) ((qAO x182003 x10).f4) (wrap64 (x1+1)) (wrap64 ((wrap64 (x9+1))+((rdOf ByteArray.empty x182004 x10).size:Int)))).bind fun t188=>(qAF.l0 k x1 x7 t188 (wrap64 (x10+1)) x182000 x182001 x182002 x182003 x182004)) else (none)) else (some x7)) else (none)) else (none)) else (if x10 < (x182003.length:Int) then ((qAF.f k ((qAO x182003 x10).f0) ((qAO x182003 x10).f1) ((qAO x182003 x10).f2) ((qAO x182003 x10).f3) ((qAO x182003 x10).f4) (wrap64 (x1+1)) (wrap64 ((wrap64 (x9+1))+((rdOf ByteArray.empty x182004 x10).size:Int)))).bind fun t191=>(qAF.l0 k x1 x7 t191 (wrap64 (x10+1)) x182000 x182001 x182002 x182003 x182004)) else (none)))) else (none)) else (none)) else (if 0≤x10 then (if x10 < (x182003.length:Int) then ((qAF.f k ((qAO x182003 x10).f0) ((qAO x182003 x10).f1) ((qAO x182003 x10).f2) ((qAO x182003 x10).f3) ((qAO x182003 x10).f4) (wrap64 (x1+1)) x9).bind fun t193=>(qAF.l0 k x1 x7 t193 (wrap64 (x10+1)) x182000 x182001 x182002 x182003 x182004)) else (none)) else (none))) else (if x9 > 2048 then (some x7) else (some x9))
def qAF.f:Nat→Int→Int→ByteArray→List (S48)→List ByteArray→Int→Int→Option (Int)
 | 0,_,_,_,_,_,_,_=>none
 | k+1,a0_0,a0_1,a0_2,l0_3,l0_4,a1,a2=>(qB3.f a0_0 a0_1 a0_2 l0_3 l0_4).bind fun t182=>(if t182=true then (if a1 ≥ 8 then (qAF.j0 k a1 a2 2049 true a0_0 a0_1 a0_2 l0_3 l0_4) else (qAF.j0 k a1 a2 2049 (decide (a2 > 2048)) a0_0 a0_1 a0_2 l0_3 l0_4)) else (qAF.j0 k a1 a2 2049 true a0_0 a0_1 a0_2 l0_3 l0_4))
end
end Go.Proofs.Ytmehfnikecmiiaa.X
