import Derived.SizedLaws
import Derived.ChangeSlices
set_option linter.unusedVariables false
set_option linter.unusedSimpArgs false
namespace Go.Proofs.YtdommiicjpjfpaaW.PrintWords
open Go.ChangeShapes Go.WideShapes
end Go.Proofs.YtdommiicjpjfpaaW.PrintWords
