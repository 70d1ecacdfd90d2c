/-
  NARROWER THAN 'FOR EVERY INPUT', by the rows' own cells (each row's printed sentence says how): StateDiffs: loops · StateApplies: loops · StateLeads: loops · StateApart: loops.
  DERIVED. THE GIVEN ROWS OF THIS SEAT. 6 by the template 'for every input the law returns true; each argument reads behind the call as it read before'; 0 by the template 'total and deterministic' (their statements: YtdommiicjpjfpaaTotals.lean).
  GIVEN WITH THE SEED: the statements are not yours to turn. If you find one false, say at which input.
  Laid BY PROGRAM, IN A SANDBOX (cutbox-rows.mjs): the forced cells as the released guide's own fill.sh prints them over the translation 4db70bfa4eadd345… (all of the seat's roots in one cut). By AI agents, Wed Nov 11 2026. No macro, syntax, notation, axiom, sorry.
-/
import Derived.Test.YtdommiicjpjfpaaChecked
import GoSem.Claim
import GoSem.ClaimJoined
import GoSem.ClaimMapViews
import Derived.JoinedTies
import Derived.KernelRfl
namespace Go.Proofs.Ytdommiicjpjfpaa
/- THE CELL 'sum', in the pinned program and in every row, IS THE sha256 OF THE DUMP (.gsa) THAT YtdommiicjpjfpaaProg.lean LOADS. Nothing in Lean hashes anything: it is a label: what it is worth is what the hold of that sum in a sandbox is worth. -/
noncomputable def Try.pinned : Pinned := { name := "ytdommiicjpjfpaa", sum := "4db70bfa4eadd345f91ec71f6fb281ff095096342424fd02fe5ead306b27b939", checked := Try.checked }
namespace Rows
def none {H : Type} : Left H := { results := [], args := [] }

/-- 'scruplelaw07.StateDiffs': WHATEVER THE INPUT: true; the input reads as it did. -/
def stateDiffsSpec : ChangeSpec := { name := "stateDiffs", fn := fun _ => fun
  | [d1, d2] => { results := [.lit (.bool true)], args := [d1, d2] }
  | _ => none }
def stateDiffsRow : OpenClaim := { program := "ytdommiicjpjfpaa", sum := "4db70bfa4eadd345f91ec71f6fb281ff095096342424fd02fe5ead306b27b939", func := "scruple/scruplelaw07.StateDiffs", spec := "stateDiffs", inPlace := ["internal/bytealg.abigen_runtime_cmpstring"], unfollowed := true, recurses := true, loops := true, apart := false }
def StateDiffsSaid : Prop := stateDiffsRow.holds Try.pinned (OpenSpec.ofChange stateDiffsSpec)

/-- ITS FALSE NEIGHBOUR: 'it returns false'. Refute it at one input. -/
def stateDiffsWrong : ChangeSpec := { name := "stateDiffs", fn := fun _ => fun
  | [d1, d2] => { results := [.lit (.bool false)], args := [d1, d2] }
  | _ => none }
def StateDiffsWrongFalsely : Prop := stateDiffsRow.holds Try.pinned (OpenSpec.ofChange stateDiffsWrong)

/-- 'scruplelaw07.StateApplies': WHATEVER THE INPUT: true; the input reads as it did. -/
def stateAppliesSpec : ChangeSpec := { name := "stateApplies", fn := fun _ => fun
  | [d1, d2] => { results := [.lit (.bool true)], args := [d1, d2] }
  | _ => none }
def stateAppliesRow : OpenClaim := { program := "ytdommiicjpjfpaa", sum := "4db70bfa4eadd345f91ec71f6fb281ff095096342424fd02fe5ead306b27b939", func := "scruple/scruplelaw07.StateApplies", spec := "stateApplies", inPlace := ["internal/bytealg.abigen_runtime_cmpstring"], unfollowed := true, recurses := true, loops := true, apart := false }
def StateAppliesSaid : Prop := stateAppliesRow.holds Try.pinned (OpenSpec.ofChange stateAppliesSpec)

/-- ITS FALSE NEIGHBOUR: 'it returns false'. Refute it at one input. -/
def stateAppliesWrong : ChangeSpec := { name := "stateApplies", fn := fun _ => fun
  | [d1, d2] => { results := [.lit (.bool false)], args := [d1, d2] }
  | _ => none }
def StateAppliesWrongFalsely : Prop := stateAppliesRow.holds Try.pinned (OpenSpec.ofChange stateAppliesWrong)

/-- 'scruplelaw07.StateLeads': WHATEVER THE INPUT: true; the input reads as it did. -/
def stateLeadsSpec : ChangeSpec := { name := "stateLeads", fn := fun _ => fun
  | [d1, d2] => { results := [.lit (.bool true)], args := [d1, d2] }
  | _ => none }
def stateLeadsRow : OpenClaim := { program := "ytdommiicjpjfpaa", sum := "4db70bfa4eadd345f91ec71f6fb281ff095096342424fd02fe5ead306b27b939", func := "scruple/scruplelaw07.StateLeads", spec := "stateLeads", inPlace := ["internal/bytealg.abigen_runtime_cmpstring"], unfollowed := true, recurses := true, loops := true, apart := false }
def StateLeadsSaid : Prop := stateLeadsRow.holds Try.pinned (OpenSpec.ofChange stateLeadsSpec)

/-- ITS FALSE NEIGHBOUR: 'it returns false'. Refute it at one input. -/
def stateLeadsWrong : ChangeSpec := { name := "stateLeads", fn := fun _ => fun
  | [d1, d2] => { results := [.lit (.bool false)], args := [d1, d2] }
  | _ => none }
def StateLeadsWrongFalsely : Prop := stateLeadsRow.holds Try.pinned (OpenSpec.ofChange stateLeadsWrong)

/-- 'scruplelaw07.StateReads': WHATEVER THE INPUT: true; the input reads as it did. -/
def stateReadsSpec : ChangeSpec := { name := "stateReads", fn := fun _ => fun
  | [d] => { results := [.lit (.bool true)], args := [d] }
  | _ => none }
def stateReadsRow : OpenClaim := { program := "ytdommiicjpjfpaa", sum := "4db70bfa4eadd345f91ec71f6fb281ff095096342424fd02fe5ead306b27b939", func := "scruple/scruplelaw07.StateReads", spec := "stateReads", unfollowed := true, recurses := true, apart := false }
def StateReadsSaid : Prop := stateReadsRow.holds Try.pinned (OpenSpec.ofChange stateReadsSpec)

/-- ITS FALSE NEIGHBOUR: 'it returns false'. Refute it at one input. -/
def stateReadsWrong : ChangeSpec := { name := "stateReads", fn := fun _ => fun
  | [d] => { results := [.lit (.bool false)], args := [d] }
  | _ => none }
def StateReadsWrongFalsely : Prop := stateReadsRow.holds Try.pinned (OpenSpec.ofChange stateReadsWrong)

/-- 'scruplelaw07.StateOneForm': WHATEVER THE INPUT: true; the input reads as it did. -/
def stateOneFormSpec : ChangeSpec := { name := "stateOneForm", fn := fun _ => fun
  | [d] => { results := [.lit (.bool true)], args := [d] }
  | _ => none }
def stateOneFormRow : OpenClaim := { program := "ytdommiicjpjfpaa", sum := "4db70bfa4eadd345f91ec71f6fb281ff095096342424fd02fe5ead306b27b939", func := "scruple/scruplelaw07.StateOneForm", spec := "stateOneForm", unfollowed := true, recurses := true, apart := false }
def StateOneFormSaid : Prop := stateOneFormRow.holds Try.pinned (OpenSpec.ofChange stateOneFormSpec)

/-- ITS FALSE NEIGHBOUR: 'it returns false'. Refute it at one input. -/
def stateOneFormWrong : ChangeSpec := { name := "stateOneForm", fn := fun _ => fun
  | [d] => { results := [.lit (.bool false)], args := [d] }
  | _ => none }
def StateOneFormWrongFalsely : Prop := stateOneFormRow.holds Try.pinned (OpenSpec.ofChange stateOneFormWrong)

/-- 'scruplelaw07.StateApart': WHATEVER THE INPUT: true; the input reads as it did. -/
def stateApartSpec : ChangeSpec := { name := "stateApart", fn := fun _ => fun
  | [d1, d2] => { results := [.lit (.bool true)], args := [d1, d2] }
  | _ => none }
def stateApartRow : OpenClaim := { program := "ytdommiicjpjfpaa", sum := "4db70bfa4eadd345f91ec71f6fb281ff095096342424fd02fe5ead306b27b939", func := "scruple/scruplelaw07.StateApart", spec := "stateApart", unfollowed := true, recurses := true, loops := true, apart := false }
def StateApartSaid : Prop := stateApartRow.holds Try.pinned (OpenSpec.ofChange stateApartSpec)

/-- ITS FALSE NEIGHBOUR: 'it returns false'. Refute it at one input. -/
def stateApartWrong : ChangeSpec := { name := "stateApart", fn := fun _ => fun
  | [d1, d2] => { results := [.lit (.bool false)], args := [d1, d2] }
  | _ => none }
def StateApartWrongFalsely : Prop := stateApartRow.holds Try.pinned (OpenSpec.ofChange stateApartWrong)

/- THE SECOND FORM. 'bulk': how many values and letters a reading holds, each counted each time it is reached (what is shared counts as often as it is met; a slice's spare places count too). A statement '..UptoSaid' is the law's where the arguments, and the package variables that the reading takes, are together of bulk at most 1048576: NARROWER than '..Said'. Prove '..Said' where nothing that the law and all that it calls make is longer than what came in: it says more and counts as full. Else prove '..UptoSaid'. A law counts once. -/
mutual
def uptoBulk {H : Type} : DataW H → Nat
  | .lit (.string bytes) => bytes.length + 1
  | .lit _ => 1
  | .nil => 1
  | .ptr d => uptoBulk d + 1
  | .slice elems spare => uptoBulkAll elems + uptoBulkAll spare + 1
  | .agg parts => uptoBulkAll parts + 1
  | .iface _ d => uptoBulk d + 1
  | .map entries => uptoBulkEntries entries + 1
  | .held _ => 1
def uptoBulkAll {H : Type} : List (DataW H) → Nat
  | [] => 0
  | d :: r => uptoBulk d + uptoBulkAll r
def uptoBulkEntries {H : Type} : List (Lit × DataW H) → Nat
  | [] => 0
  | x :: r => uptoBulkEntry x + uptoBulkEntries r
def uptoBulkEntry {H : Type} : Lit × DataW H → Nat
  | (.string bytes, d) => bytes.length + uptoBulk d + 1
  | (_, d) => uptoBulk d + 1
 end
def uptoSmall : (H : Type) → List (DataW H) → Bool := fun _ ds => decide (uptoBulkAll ds ≤ 1048576)
def OpenSpec.upto (s : _root_.Go.ChangeSpec) : _root_.Go.OpenSpec := { _root_.Go.OpenSpec.ofChange s with cond := some uptoSmall }

/-- 'scruplelaw07.StateDiffs', WHERE WHAT IT READS IS OF BULK AT MOST 1048576: true; the input reads as it did. -/
def stateDiffsUptoRow : OpenClaim := { program := "ytdommiicjpjfpaa", sum := "4db70bfa4eadd345f91ec71f6fb281ff095096342424fd02fe5ead306b27b939", func := "scruple/scruplelaw07.StateDiffs", spec := "stateDiffs", inPlace := ["internal/bytealg.abigen_runtime_cmpstring"], unfollowed := true, recurses := true, loops := true, apart := false, narrowed := true }
def StateDiffsUptoSaid : Prop := stateDiffsUptoRow.holds Try.pinned (OpenSpec.upto stateDiffsSpec)

/-- 'scruplelaw07.StateApplies', WHERE WHAT IT READS IS OF BULK AT MOST 1048576: true; the input reads as it did. -/
def stateAppliesUptoRow : OpenClaim := { program := "ytdommiicjpjfpaa", sum := "4db70bfa4eadd345f91ec71f6fb281ff095096342424fd02fe5ead306b27b939", func := "scruple/scruplelaw07.StateApplies", spec := "stateApplies", inPlace := ["internal/bytealg.abigen_runtime_cmpstring"], unfollowed := true, recurses := true, loops := true, apart := false, narrowed := true }
def StateAppliesUptoSaid : Prop := stateAppliesUptoRow.holds Try.pinned (OpenSpec.upto stateAppliesSpec)

/-- 'scruplelaw07.StateLeads', WHERE WHAT IT READS IS OF BULK AT MOST 1048576: true; the input reads as it did. -/
def stateLeadsUptoRow : OpenClaim := { program := "ytdommiicjpjfpaa", sum := "4db70bfa4eadd345f91ec71f6fb281ff095096342424fd02fe5ead306b27b939", func := "scruple/scruplelaw07.StateLeads", spec := "stateLeads", inPlace := ["internal/bytealg.abigen_runtime_cmpstring"], unfollowed := true, recurses := true, loops := true, apart := false, narrowed := true }
def StateLeadsUptoSaid : Prop := stateLeadsUptoRow.holds Try.pinned (OpenSpec.upto stateLeadsSpec)

/-- 'scruplelaw07.StateReads', WHERE WHAT IT READS IS OF BULK AT MOST 1048576: true; the input reads as it did. -/
def stateReadsUptoRow : OpenClaim := { program := "ytdommiicjpjfpaa", sum := "4db70bfa4eadd345f91ec71f6fb281ff095096342424fd02fe5ead306b27b939", func := "scruple/scruplelaw07.StateReads", spec := "stateReads", unfollowed := true, recurses := true, apart := false, narrowed := true }
def StateReadsUptoSaid : Prop := stateReadsUptoRow.holds Try.pinned (OpenSpec.upto stateReadsSpec)

/-- 'scruplelaw07.StateOneForm', WHERE WHAT IT READS IS OF BULK AT MOST 1048576: true; the input reads as it did. -/
def stateOneFormUptoRow : OpenClaim := { program := "ytdommiicjpjfpaa", sum := "4db70bfa4eadd345f91ec71f6fb281ff095096342424fd02fe5ead306b27b939", func := "scruple/scruplelaw07.StateOneForm", spec := "stateOneForm", unfollowed := true, recurses := true, apart := false, narrowed := true }
def StateOneFormUptoSaid : Prop := stateOneFormUptoRow.holds Try.pinned (OpenSpec.upto stateOneFormSpec)

/-- 'scruplelaw07.StateApart', WHERE WHAT IT READS IS OF BULK AT MOST 1048576: true; the input reads as it did. -/
def stateApartUptoRow : OpenClaim := { program := "ytdommiicjpjfpaa", sum := "4db70bfa4eadd345f91ec71f6fb281ff095096342424fd02fe5ead306b27b939", func := "scruple/scruplelaw07.StateApart", spec := "stateApart", unfollowed := true, recurses := true, loops := true, apart := false, narrowed := true }
def StateApartUptoSaid : Prop := stateApartUptoRow.holds Try.pinned (OpenSpec.upto stateApartSpec)

end Rows
end Go.Proofs.Ytdommiicjpjfpaa
