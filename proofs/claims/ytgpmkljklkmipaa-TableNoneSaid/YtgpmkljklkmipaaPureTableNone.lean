/- Of a nil table: the walk tells all (each step is concrete). -/
import Derived.Test.YtgpmkljklkmipaaXxscruplelaw05TableNone
namespace Go.Proofs.Ytgpmkljklkmipaa.Pure
open Go.Proofs.Ytgpmkljklkmipaa.X
theorem TableNone (a : Int) (_ : (Lit.int .i64 a).wf = true) (b : Int) (_ : (Lit.int .i64 b).wf = true) : ∃ k, scruplelaw05_TableNone.f k a b = some true := ⟨0, rfl⟩
end Go.Proofs.Ytgpmkljklkmipaa.Pure
