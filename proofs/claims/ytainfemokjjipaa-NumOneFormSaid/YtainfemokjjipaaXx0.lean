-- Written by a program of this session (wip/xprint.py) out of the translation's print; Lean checks it.
import Derived.Test.YtainfemokjjipaaProg
import Derived.Below
import Derived.Deep.Draws
import Derived.Deep.AppendLies
import Derived.Maps.AppendAt
import Derived.OwnWalk
import Derived.Laws.BytesArg
import Derived.Laws.MakeOwn
import Derived.Laws.OwnMore
import Derived.Deep.OwnRows
import Derived.Tactics
import Derived.Lib.ConvBytes
import Derived.Laws.Slices
import Derived.WalkKit
import Derived.KernelRfl
import Derived.RowKit3
import Derived.Deep.LoopGhost
import Derived.Deep.QuietTactic
import Derived.BigQuiet
import Derived.WideLaws
import Derived.Deep.DeepCutAuto
import Derived.Deep.CutBlock
import Derived.Deep.RegionHeld3
import Derived.Laws.Rows
import Derived.Lib.AppendStr
import Derived.ArgAppend
import Derived.Laws.IdiomCopy
import Derived.OrdersHeld
import Derived.Laws.BitsLemmas
import Derived.RowKit
import Derived.Laws.CopyOwn
import Derived.Laws.NewBlocks
import Derived.Test.YtainfemokjjipaaWWords
import Derived.Test.YtainfemokjjipaaWLast
import Derived.Test.YtainfemokjjipaaWTab
import Derived.Test.YtainfemokjjipaaWFour
import Derived.Test.YtainfemokjjipaaWQPut
import Derived.Test.YtainfemokjjipaaWApart
import Derived.Test.YtainfemokjjipaaWArr
import Derived.Test.YtainfemokjjipaaWZeros
import Derived.Test.YtainfemokjjipaaWFoot
import Derived.Test.YtainfemokjjipaaWKept
import Derived.Test.YtainfemokjjipaaWShare
import Derived.Test.YtainfemokjjipaaWN
import Derived.Test.YtainfemokjjipaaWFootNe
import Derived.Test.YtainfemokjjipaaWAt
import Derived.Test.YtainfemokjjipaaWEqStruct
import Derived.Test.YtainfemokjjipaaWRepsOne
import Derived.Test.YtainfemokjjipaaWInv
import Derived.Test.YtainfemokjjipaaWInvWords
import Derived.Test.YtainfemokjjipaaWGuard
import Derived.Test.YtainfemokjjipaaWNEv
import Derived.Test.YtainfemokjjipaaWMore
import Derived.Test.YtainfemokjjipaaXWords
namespace Go.Proofs.Ytainfemokjjipaa.X
open Go.RowKit Go.Proofs.YtainfemokjjipaaW.PrintWords Go.Proofs.YtainfemokjjipaaW.PrintLast Go.Proofs.YtainfemokjjipaaW.PrintMore Go.Proofs.YtainfemokjjipaaW
attribute [local go_sem] max2_int min2_int max_two min_two max_three min_three max_four min_four   -- for this text's walks alone
set_option linter.unusedVariables false
set_option linter.unusedSimpArgs false



def errW : Option Int → Value
  | none => .nilIface
  | some c => .iface 0 (.int .i64 c)
theorem errW_none : errW none = .nilIface := rfl
theorem errW_some (c : Int) : errW (some c) = .iface 0 (.int .i64 c) := rfl

theorem info2 : (Try.prog.info? 2).map (fun i => (i.zero, i.size, i.bytes)) = some (some (.int .i64 0), 1, 8) := by kernel_rfl
theorem info5 : (Try.prog.info? 5).map (fun i => (i.zero, i.size, i.bytes)) = some (some (.int .u8 0), 1, 1) := by kernel_rfl
-- the values' own types

end Go.Proofs.Ytainfemokjjipaa.X
