-- Written by a program of this session (wip/xprint.py) out of the translation's print; Lean checks it.
import Derived.Test.YthjeakmndoknpaaXx0
import Derived.Lib.Bytealg
import Derived.Lib.Walk
import Derived.Lib.Strings
import Derived.Lib.Slices
namespace Go.Proofs.Ythjeakmndoknpaa.X
open Go.RowKit Go.Proofs.YthjeakmndoknpaaW.PrintWords Go.Proofs.YthjeakmndoknpaaW.PrintLast Go.Proofs.YthjeakmndoknpaaW.PrintMore Go.Proofs.YthjeakmndoknpaaW
attribute [local go_sem] max2_int min2_int max_two min_two max_three min_three max_four min_four   -- for this text's walks alone
set_option linter.unusedVariables false
set_option linter.unusedSimpArgs false

/-! ### bytealg_CompareString: function 67 -/
def bytealg_CompareString.f (a0 : ByteArray) (a1 : ByteArray) : Option (Int) := some (Lib.compareBytes a0.data.toList a1.data.toList)
set_option maxHeartbeats 1000000 in
set_option maxRecDepth 100000 in
theorem bytealg_CompareString.calls (a0 : ByteArray) (a1 : ByteArray) (r : Int) (w : World) (h : bytealg_CompareString.f a0 a1 = some r) :
    Calls Try.prog 67 #[.string a0, .string a1] w fun e w' => e = .returned (.int .i64 r) ∧ Drawn0 w w' := by
  obtain rfl : Lib.compareBytes a0.data.toList a1.data.toList = r := Option.some.inj h
  clear h
  go_enter Try.func67, Try.ntmps67
  go_wp2
  rw [run_callFunc_extern Try.func84 (by kernel_rfl) (by kernel_rfl) (by kernel_rfl) (e := Extern.BytealgCompare.compare) (by kernel_rfl), Lib.run_compareString]
  simp only [Result.andThen]
  rw [Oper.upon_value]
  go_wp2
  go_ret
  exact ⟨rfl, Drawn0.refl _⟩

end Go.Proofs.Ythjeakmndoknpaa.X
