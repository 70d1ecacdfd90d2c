/- Texts of the claim of ModuleApart, one behind the other; what nothing names is left out. -/
import Derived.Test.YtmehfnikecmiiaaRows
import Derived.SizedLaws
import Derived.ChangeSlices
import Derived.ChangeShapes
set_option linter.unusedVariables false
set_option linter.unusedSimpArgs false
/- What the bound of an '..UptoSaid' statement gives: how long slices and texts are. Plain lemmas. -/
namespace Go.Proofs.Ytmehfnikecmiiaa.XUp
open Go.ChangeShapes Go.WideShapes
end Go.Proofs.Ytmehfnikecmiiaa.XUp
