import Derived.SizedLaws
import Derived.ChangeSlices
set_option linter.unusedVariables false
set_option linter.unusedSimpArgs false
namespace Go.Proofs.YtmehfnikecmiiaaW.PrintWords
open Go.ChangeShapes Go.WideShapes
end Go.Proofs.YtmehfnikecmiiaaW.PrintWords
