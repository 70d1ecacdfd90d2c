import Derived.Test.YtdommiicjpjfpaaRows
import Derived.SizedLaws
import Derived.ChangeSlices
import Derived.ChangeShapes
set_option linter.unusedVariables false
set_option linter.unusedSimpArgs false
namespace Go.Proofs.Ytdommiicjpjfpaa.XUp
open Go.ChangeShapes Go.WideShapes
theorem one_le {H:Type} (d:DataW H):1≤Rows.uptoBulk d:=by
 cases d with
 | lit l=>cases l <;> simp [Rows.uptoBulk]
 | nil=>simp [Rows.uptoBulk]
 | ptr d=>simp [Rows.uptoBulk]
 | slice elems spare=>simp [Rows.uptoBulk]
 | agg parts=>simp [Rows.uptoBulk]
 | iface t d=>simp [Rows.uptoBulk]
 | map entries=>simp [Rows.uptoBulk]
 | held h=>simp [Rows.uptoBulk]
theorem length_le {H:Type} (l:List (DataW H)):l.length≤Rows.uptoBulkAll l:=by
 induction l with
 | nil=>simp [Rows.uptoBulkAll]
 | cons x r ih=>have:=one_le x;simp only [Rows.uptoBulkAll,List.length_cons];omega
theorem slice_le {H:Type} (elems spare:List (DataW H)):elems.length+spare.length+1≤Rows.uptoBulk (.slice elems spare):=by
 have h1:=length_le elems
 have h2:=length_le spare
 simp only [Rows.uptoBulk]
 omega
end Go.Proofs.Ytdommiicjpjfpaa.XUp
