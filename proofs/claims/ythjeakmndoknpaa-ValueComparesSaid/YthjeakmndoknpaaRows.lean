/-
  NARROWER THAN 'FOR EVERY INPUT', by the rows' own cells (each row's printed sentence says how): ValueIs: loops · ValueCompares: loops · ValueChanges: loops · ValueRecords: loops · ValueLaws: loops.
  DERIVED. THE GIVEN ROWS OF THIS SEAT. 5 by the template 'for every input the law returns true; each argument reads behind the call as it read before'; 0 by the template 'total and deterministic' (their statements: YthjeakmndoknpaaTotals.lean).
  GIVEN WITH THE SEED: the statements are not yours to turn. If you find one false, say at which input.
  Laid BY PROGRAM, IN A SANDBOX (cutbox-rows.mjs): the forced cells as the released guide's own fill.sh prints them over the translation b589c102790215c5… (all of the seat's roots in one cut). By AI agents, Wed Nov 11 2026. No macro, syntax, notation, axiom, sorry.
-/
import Derived.Test.YthjeakmndoknpaaChecked
import GoSem.Claim
import GoSem.ClaimJoined
import GoSem.ClaimMapViews
import Derived.JoinedTies
import Derived.KernelRfl
namespace Go.Proofs.Ythjeakmndoknpaa
/- THE CELL 'sum', in the pinned program and in every row, IS THE sha256 OF THE DUMP (.gsa) THAT YthjeakmndoknpaaProg.lean LOADS. Nothing in Lean hashes anything: it is a label: what it is worth is what the hold of that sum in a sandbox is worth. -/
noncomputable def Try.pinned : Pinned := { name := "ythjeakmndoknpaa", sum := "b589c102790215c59fff97e2ab7849ae69d2d5d602f64093804878b266a3d723", checked := Try.checked }
namespace Rows
def none {H : Type} : Left H := { results := [], args := [] }

/-- 'scruplelaw03.ValueIs': WHATEVER THE INPUT: true; the input reads as it did. -/
def valueIsSpec : ChangeSpec := { name := "valueIs", fn := fun _ => fun
  | [d] => { results := [.lit (.bool true)], args := [d] }
  | _ => none }
def valueIsRow : OpenClaim := { program := "ythjeakmndoknpaa", sum := "b589c102790215c59fff97e2ab7849ae69d2d5d602f64093804878b266a3d723", func := "scruple/scruplelaw03.ValueIs", spec := "valueIs", unfollowed := true, recurses := true, loops := true, apart := false }
def ValueIsSaid : Prop := valueIsRow.holds Try.pinned (OpenSpec.ofChange valueIsSpec)

/-- ITS FALSE NEIGHBOUR: 'it returns false'. Refute it at one input. -/
def valueIsWrong : ChangeSpec := { name := "valueIs", fn := fun _ => fun
  | [d] => { results := [.lit (.bool false)], args := [d] }
  | _ => none }
def ValueIsWrongFalsely : Prop := valueIsRow.holds Try.pinned (OpenSpec.ofChange valueIsWrong)

/-- 'scruplelaw03.ValueCompares': WHATEVER THE INPUT: true; the input reads as it did. -/
def valueComparesSpec : ChangeSpec := { name := "valueCompares", fn := fun _ => fun
  | [d1, d2] => { results := [.lit (.bool true)], args := [d1, d2] }
  | _ => none }
def valueComparesRow : OpenClaim := { program := "ythjeakmndoknpaa", sum := "b589c102790215c59fff97e2ab7849ae69d2d5d602f64093804878b266a3d723", func := "scruple/scruplelaw03.ValueCompares", spec := "valueCompares", inPlace := ["internal/bytealg.abigen_runtime_cmpstring"], unfollowed := true, recurses := true, loops := true, apart := false }
def ValueComparesSaid : Prop := valueComparesRow.holds Try.pinned (OpenSpec.ofChange valueComparesSpec)

/-- ITS FALSE NEIGHBOUR: 'it returns false'. Refute it at one input. -/
def valueComparesWrong : ChangeSpec := { name := "valueCompares", fn := fun _ => fun
  | [d1, d2] => { results := [.lit (.bool false)], args := [d1, d2] }
  | _ => none }
def ValueComparesWrongFalsely : Prop := valueComparesRow.holds Try.pinned (OpenSpec.ofChange valueComparesWrong)

/-- 'scruplelaw03.ValueChanges': WHATEVER THE INPUT: true; the input reads as it did. -/
def valueChangesSpec : ChangeSpec := { name := "valueChanges", fn := fun _ => fun
  | [d1, d2, d3] => { results := [.lit (.bool true)], args := [d1, d2, d3] }
  | _ => none }
def valueChangesRow : OpenClaim := { program := "ythjeakmndoknpaa", sum := "b589c102790215c59fff97e2ab7849ae69d2d5d602f64093804878b266a3d723", func := "scruple/scruplelaw03.ValueChanges", spec := "valueChanges", inPlace := ["slices.overlaps[string]", "slices.overlaps[scruple/api.Value]"], unfollowed := true, recurses := true, loops := true, apart := false }
def ValueChangesSaid : Prop := valueChangesRow.holds Try.pinned (OpenSpec.ofChange valueChangesSpec)

/-- ITS FALSE NEIGHBOUR: 'it returns false'. Refute it at one input. -/
def valueChangesWrong : ChangeSpec := { name := "valueChanges", fn := fun _ => fun
  | [d1, d2, d3] => { results := [.lit (.bool false)], args := [d1, d2, d3] }
  | _ => none }
def ValueChangesWrongFalsely : Prop := valueChangesRow.holds Try.pinned (OpenSpec.ofChange valueChangesWrong)

/-- 'scruplelaw03.ValueRecords': WHATEVER THE INPUT: true; the input reads as it did. -/
def valueRecordsSpec : ChangeSpec := { name := "valueRecords", fn := fun _ => fun
  | [d] => { results := [.lit (.bool true)], args := [d] }
  | _ => none }
def valueRecordsRow : OpenClaim := { program := "ythjeakmndoknpaa", sum := "b589c102790215c59fff97e2ab7849ae69d2d5d602f64093804878b266a3d723", func := "scruple/scruplelaw03.ValueRecords", spec := "valueRecords", inPlace := ["internal/bytealg.abigen_runtime_cmpstring"], unfollowed := true, recurses := true, loops := true, apart := false }
def ValueRecordsSaid : Prop := valueRecordsRow.holds Try.pinned (OpenSpec.ofChange valueRecordsSpec)

/-- ITS FALSE NEIGHBOUR: 'it returns false'. Refute it at one input. -/
def valueRecordsWrong : ChangeSpec := { name := "valueRecords", fn := fun _ => fun
  | [d] => { results := [.lit (.bool false)], args := [d] }
  | _ => none }
def ValueRecordsWrongFalsely : Prop := valueRecordsRow.holds Try.pinned (OpenSpec.ofChange valueRecordsWrong)

/-- 'scruplelaw03.ValueLaws': WHATEVER THE INPUT: true; the input reads as it did. -/
def valueLawsSpec : ChangeSpec := { name := "valueLaws", fn := fun _ => fun
  | [d1, d2, d3, d4] => { results := [.lit (.bool true)], args := [d1, d2, d3, d4] }
  | _ => none }
def valueLawsRow : OpenClaim := { program := "ythjeakmndoknpaa", sum := "b589c102790215c59fff97e2ab7849ae69d2d5d602f64093804878b266a3d723", func := "scruple/scruplelaw03.ValueLaws", spec := "valueLaws", inPlace := ["slices.overlaps[string]", "slices.overlaps[scruple/api.Value]", "internal/bytealg.abigen_runtime_cmpstring"], unfollowed := true, recurses := true, loops := true, apart := false }
def ValueLawsSaid : Prop := valueLawsRow.holds Try.pinned (OpenSpec.ofChange valueLawsSpec)

/-- ITS FALSE NEIGHBOUR: 'it returns false'. Refute it at one input. -/
def valueLawsWrong : ChangeSpec := { name := "valueLaws", fn := fun _ => fun
  | [d1, d2, d3, d4] => { results := [.lit (.bool false)], args := [d1, d2, d3, d4] }
  | _ => none }
def ValueLawsWrongFalsely : Prop := valueLawsRow.holds Try.pinned (OpenSpec.ofChange valueLawsWrong)

/- THE SECOND FORM. 'bulk': how many values and letters a reading holds, each counted each time it is reached (what is shared counts as often as it is met; a slice's spare places count too). A statement '..UptoSaid' is the law's where the arguments, and the package variables that the reading takes, are together of bulk at most 1048576: NARROWER than '..Said'. Prove '..Said' where nothing that the law and all that it calls make is longer than what came in: it says more and counts as full. Else prove '..UptoSaid'. A law counts once. -/
mutual
def uptoBulk {H : Type} : DataW H → Nat
  | .lit (.string bytes) => bytes.length + 1
  | .lit _ => 1
  | .nil => 1
  | .ptr d => uptoBulk d + 1
  | .slice elems spare => uptoBulkAll elems + uptoBulkAll spare + 1
  | .agg parts => uptoBulkAll parts + 1
  | .iface _ d => uptoBulk d + 1
  | .map entries => uptoBulkEntries entries + 1
  | .held _ => 1
def uptoBulkAll {H : Type} : List (DataW H) → Nat
  | [] => 0
  | d :: r => uptoBulk d + uptoBulkAll r
def uptoBulkEntries {H : Type} : List (Lit × DataW H) → Nat
  | [] => 0
  | x :: r => uptoBulkEntry x + uptoBulkEntries r
def uptoBulkEntry {H : Type} : Lit × DataW H → Nat
  | (.string bytes, d) => bytes.length + uptoBulk d + 1
  | (_, d) => uptoBulk d + 1
 end
def uptoSmall : (H : Type) → List (DataW H) → Bool := fun _ ds => decide (uptoBulkAll ds ≤ 1048576)
def OpenSpec.upto (s : _root_.Go.ChangeSpec) : _root_.Go.OpenSpec := { _root_.Go.OpenSpec.ofChange s with cond := some uptoSmall }

/-- 'scruplelaw03.ValueIs', WHERE WHAT IT READS IS OF BULK AT MOST 1048576: true; the input reads as it did. -/
def valueIsUptoRow : OpenClaim := { program := "ythjeakmndoknpaa", sum := "b589c102790215c59fff97e2ab7849ae69d2d5d602f64093804878b266a3d723", func := "scruple/scruplelaw03.ValueIs", spec := "valueIs", unfollowed := true, recurses := true, loops := true, apart := false, narrowed := true }
def ValueIsUptoSaid : Prop := valueIsUptoRow.holds Try.pinned (OpenSpec.upto valueIsSpec)

/-- 'scruplelaw03.ValueCompares', WHERE WHAT IT READS IS OF BULK AT MOST 1048576: true; the input reads as it did. -/
def valueComparesUptoRow : OpenClaim := { program := "ythjeakmndoknpaa", sum := "b589c102790215c59fff97e2ab7849ae69d2d5d602f64093804878b266a3d723", func := "scruple/scruplelaw03.ValueCompares", spec := "valueCompares", inPlace := ["internal/bytealg.abigen_runtime_cmpstring"], unfollowed := true, recurses := true, loops := true, apart := false, narrowed := true }
def ValueComparesUptoSaid : Prop := valueComparesUptoRow.holds Try.pinned (OpenSpec.upto valueComparesSpec)

/-- 'scruplelaw03.ValueChanges', WHERE WHAT IT READS IS OF BULK AT MOST 1048576: true; the input reads as it did. -/
def valueChangesUptoRow : OpenClaim := { program := "ythjeakmndoknpaa", sum := "b589c102790215c59fff97e2ab7849ae69d2d5d602f64093804878b266a3d723", func := "scruple/scruplelaw03.ValueChanges", spec := "valueChanges", inPlace := ["slices.overlaps[string]", "slices.overlaps[scruple/api.Value]"], unfollowed := true, recurses := true, loops := true, apart := false, narrowed := true }
def ValueChangesUptoSaid : Prop := valueChangesUptoRow.holds Try.pinned (OpenSpec.upto valueChangesSpec)

/-- 'scruplelaw03.ValueRecords', WHERE WHAT IT READS IS OF BULK AT MOST 1048576: true; the input reads as it did. -/
def valueRecordsUptoRow : OpenClaim := { program := "ythjeakmndoknpaa", sum := "b589c102790215c59fff97e2ab7849ae69d2d5d602f64093804878b266a3d723", func := "scruple/scruplelaw03.ValueRecords", spec := "valueRecords", inPlace := ["internal/bytealg.abigen_runtime_cmpstring"], unfollowed := true, recurses := true, loops := true, apart := false, narrowed := true }
def ValueRecordsUptoSaid : Prop := valueRecordsUptoRow.holds Try.pinned (OpenSpec.upto valueRecordsSpec)

/-- 'scruplelaw03.ValueLaws', WHERE WHAT IT READS IS OF BULK AT MOST 1048576: true; the input reads as it did. -/
def valueLawsUptoRow : OpenClaim := { program := "ythjeakmndoknpaa", sum := "b589c102790215c59fff97e2ab7849ae69d2d5d602f64093804878b266a3d723", func := "scruple/scruplelaw03.ValueLaws", spec := "valueLaws", inPlace := ["slices.overlaps[string]", "slices.overlaps[scruple/api.Value]", "internal/bytealg.abigen_runtime_cmpstring"], unfollowed := true, recurses := true, loops := true, apart := false, narrowed := true }
def ValueLawsUptoSaid : Prop := valueLawsUptoRow.holds Try.pinned (OpenSpec.upto valueLawsSpec)

end Rows
end Go.Proofs.Ythjeakmndoknpaa
