/-
  NARROWER THAN 'FOR EVERY INPUT', by the rows' own cells (each row's printed sentence says how): ModuleApart: loops · ModuleCopies: loops · ModuleBack: loops.
  DERIVED. THE GIVEN ROWS OF THIS SEAT. 6 by the template 'for every input the law returns true; each argument reads behind the call as it read before'; 0 by the template 'total and deterministic' (their statements: YtmehfnikecmiiaaTotals.lean).
  GIVEN WITH THE SEED: the statements are not yours to turn. If you find one false, say at which input.
  Laid BY PROGRAM, IN A SANDBOX (cutbox-rows.mjs): the forced cells as the released guide's own fill.sh prints them over the translation 42b55e1eaef5f43c… (all of the seat's roots in one cut). By AI agents, Wed Nov 11 2026. No macro, syntax, notation, axiom, sorry.
-/
import Derived.Test.YtmehfnikecmiiaaChecked
import GoSem.Claim
import GoSem.ClaimJoined
import GoSem.ClaimMapViews
import Derived.JoinedTies
import Derived.KernelRfl
namespace Go.Proofs.Ytmehfnikecmiiaa
/- THE CELL 'sum', in the pinned program and in every row, IS THE sha256 OF THE DUMP (.gsa) THAT YtmehfnikecmiiaaProg.lean LOADS. Nothing in Lean hashes anything: it is a label: what it is worth is what the hold of that sum in a sandbox is worth. -/
noncomputable def Try.pinned : Pinned := { name := "ytmehfnikecmiiaa", sum := "42b55e1eaef5f43c0cc78f329e45e00fb7a9332e67bb341eac95406b69feb522", checked := Try.checked }
namespace Rows
def none {H : Type} : Left H := { results := [], args := [] }

/-- 'scruplelaw09.ModuleNames': WHATEVER THE INPUT: true; the input reads as it did. -/
def moduleNamesSpec : ChangeSpec := { name := "moduleNames", fn := fun _ => fun
  | [d] => { results := [.lit (.bool true)], args := [d] }
  | _ => none }
def moduleNamesRow : OpenClaim := { program := "ytmehfnikecmiiaa", sum := "42b55e1eaef5f43c0cc78f329e45e00fb7a9332e67bb341eac95406b69feb522", func := "scruple/scruplelaw09.ModuleNames", spec := "moduleNames", apart := false }
def ModuleNamesSaid : Prop := moduleNamesRow.holds Try.pinned (OpenSpec.ofChange moduleNamesSpec)

/-- ITS FALSE NEIGHBOUR: 'it returns false'. Refute it at one input. -/
def moduleNamesWrong : ChangeSpec := { name := "moduleNames", fn := fun _ => fun
  | [d] => { results := [.lit (.bool false)], args := [d] }
  | _ => none }
def ModuleNamesWrongFalsely : Prop := moduleNamesRow.holds Try.pinned (OpenSpec.ofChange moduleNamesWrong)

/-- 'scruplelaw09.ModuleApart': WHATEVER THE INPUT: true; the input reads as it did. -/
def moduleApartSpec : ChangeSpec := { name := "moduleApart", fn := fun _ => fun
  | [d1, d2] => { results := [.lit (.bool true)], args := [d1, d2] }
  | _ => none }
def moduleApartRow : OpenClaim := { program := "ytmehfnikecmiiaa", sum := "42b55e1eaef5f43c0cc78f329e45e00fb7a9332e67bb341eac95406b69feb522", func := "scruple/scruplelaw09.ModuleApart", spec := "moduleApart", unfollowed := true, recurses := true, loops := true, apart := false }
def ModuleApartSaid : Prop := moduleApartRow.holds Try.pinned (OpenSpec.ofChange moduleApartSpec)

/-- ITS FALSE NEIGHBOUR: 'it returns false'. Refute it at one input. -/
def moduleApartWrong : ChangeSpec := { name := "moduleApart", fn := fun _ => fun
  | [d1, d2] => { results := [.lit (.bool false)], args := [d1, d2] }
  | _ => none }
def ModuleApartWrongFalsely : Prop := moduleApartRow.holds Try.pinned (OpenSpec.ofChange moduleApartWrong)

/-- 'scruplelaw09.ModuleCopies': WHATEVER THE INPUT: true; the input reads as it did. -/
def moduleCopiesSpec : ChangeSpec := { name := "moduleCopies", fn := fun _ => fun
  | [d1, d2] => { results := [.lit (.bool true)], args := [d1, d2] }
  | _ => none }
def moduleCopiesRow : OpenClaim := { program := "ytmehfnikecmiiaa", sum := "42b55e1eaef5f43c0cc78f329e45e00fb7a9332e67bb341eac95406b69feb522", func := "scruple/scruplelaw09.ModuleCopies", spec := "moduleCopies", unfollowed := true, recurses := true, loops := true, apart := false }
def ModuleCopiesSaid : Prop := moduleCopiesRow.holds Try.pinned (OpenSpec.ofChange moduleCopiesSpec)

/-- ITS FALSE NEIGHBOUR: 'it returns false'. Refute it at one input. -/
def moduleCopiesWrong : ChangeSpec := { name := "moduleCopies", fn := fun _ => fun
  | [d1, d2] => { results := [.lit (.bool false)], args := [d1, d2] }
  | _ => none }
def ModuleCopiesWrongFalsely : Prop := moduleCopiesRow.holds Try.pinned (OpenSpec.ofChange moduleCopiesWrong)

/-- 'scruplelaw09.ModuleReads': WHATEVER THE INPUT: true; the input reads as it did. -/
def moduleReadsSpec : ChangeSpec := { name := "moduleReads", fn := fun _ => fun
  | [d] => { results := [.lit (.bool true)], args := [d] }
  | _ => none }
def moduleReadsRow : OpenClaim := { program := "ytmehfnikecmiiaa", sum := "42b55e1eaef5f43c0cc78f329e45e00fb7a9332e67bb341eac95406b69feb522", func := "scruple/scruplelaw09.ModuleReads", spec := "moduleReads", unfollowed := true, recurses := true, apart := false }
def ModuleReadsSaid : Prop := moduleReadsRow.holds Try.pinned (OpenSpec.ofChange moduleReadsSpec)

/-- ITS FALSE NEIGHBOUR: 'it returns false'. Refute it at one input. -/
def moduleReadsWrong : ChangeSpec := { name := "moduleReads", fn := fun _ => fun
  | [d] => { results := [.lit (.bool false)], args := [d] }
  | _ => none }
def ModuleReadsWrongFalsely : Prop := moduleReadsRow.holds Try.pinned (OpenSpec.ofChange moduleReadsWrong)

/-- 'scruplelaw09.ModuleOneForm': WHATEVER THE INPUT: true; the input reads as it did. -/
def moduleOneFormSpec : ChangeSpec := { name := "moduleOneForm", fn := fun _ => fun
  | [d] => { results := [.lit (.bool true)], args := [d] }
  | _ => none }
def moduleOneFormRow : OpenClaim := { program := "ytmehfnikecmiiaa", sum := "42b55e1eaef5f43c0cc78f329e45e00fb7a9332e67bb341eac95406b69feb522", func := "scruple/scruplelaw09.ModuleOneForm", spec := "moduleOneForm", unfollowed := true, recurses := true, apart := false }
def ModuleOneFormSaid : Prop := moduleOneFormRow.holds Try.pinned (OpenSpec.ofChange moduleOneFormSpec)

/-- ITS FALSE NEIGHBOUR: 'it returns false'. Refute it at one input. -/
def moduleOneFormWrong : ChangeSpec := { name := "moduleOneForm", fn := fun _ => fun
  | [d] => { results := [.lit (.bool false)], args := [d] }
  | _ => none }
def ModuleOneFormWrongFalsely : Prop := moduleOneFormRow.holds Try.pinned (OpenSpec.ofChange moduleOneFormWrong)

/-- 'scruplelaw09.ModuleBack': WHATEVER THE INPUT: true; the input reads as it did. -/
def moduleBackSpec : ChangeSpec := { name := "moduleBack", fn := fun _ => fun
  | [d1, d2, d3] => { results := [.lit (.bool true)], args := [d1, d2, d3] }
  | _ => none }
def moduleBackRow : OpenClaim := { program := "ytmehfnikecmiiaa", sum := "42b55e1eaef5f43c0cc78f329e45e00fb7a9332e67bb341eac95406b69feb522", func := "scruple/scruplelaw09.ModuleBack", spec := "moduleBack", unfollowed := true, recurses := true, loops := true, apart := false }
def ModuleBackSaid : Prop := moduleBackRow.holds Try.pinned (OpenSpec.ofChange moduleBackSpec)

/-- ITS FALSE NEIGHBOUR: 'it returns false'. Refute it at one input. -/
def moduleBackWrong : ChangeSpec := { name := "moduleBack", fn := fun _ => fun
  | [d1, d2, d3] => { results := [.lit (.bool false)], args := [d1, d2, d3] }
  | _ => none }
def ModuleBackWrongFalsely : Prop := moduleBackRow.holds Try.pinned (OpenSpec.ofChange moduleBackWrong)

/- THE SECOND FORM. 'bulk': how many values and letters a reading holds, each counted each time it is reached (what is shared counts as often as it is met; a slice's spare places count too). A statement '..UptoSaid' is the law's where the arguments, and the package variables that the reading takes, are together of bulk at most 1048576: NARROWER than '..Said'. Prove '..Said' where nothing that the law and all that it calls make is longer than what came in: it says more and counts as full. Else prove '..UptoSaid'. A law counts once. -/
mutual
def uptoBulk {H : Type} : DataW H → Nat
  | .lit (.string bytes) => bytes.length + 1
  | .lit _ => 1
  | .nil => 1
  | .ptr d => uptoBulk d + 1
  | .slice elems spare => uptoBulkAll elems + uptoBulkAll spare + 1
  | .agg parts => uptoBulkAll parts + 1
  | .iface _ d => uptoBulk d + 1
  | .map entries => uptoBulkEntries entries + 1
  | .held _ => 1
def uptoBulkAll {H : Type} : List (DataW H) → Nat
  | [] => 0
  | d :: r => uptoBulk d + uptoBulkAll r
def uptoBulkEntries {H : Type} : List (Lit × DataW H) → Nat
  | [] => 0
  | x :: r => uptoBulkEntry x + uptoBulkEntries r
def uptoBulkEntry {H : Type} : Lit × DataW H → Nat
  | (.string bytes, d) => bytes.length + uptoBulk d + 1
  | (_, d) => uptoBulk d + 1
 end
def uptoSmall : (H : Type) → List (DataW H) → Bool := fun _ ds => decide (uptoBulkAll ds ≤ 1048576)
def OpenSpec.upto (s : _root_.Go.ChangeSpec) : _root_.Go.OpenSpec := { _root_.Go.OpenSpec.ofChange s with cond := some uptoSmall }

/-- 'scruplelaw09.ModuleNames', WHERE WHAT IT READS IS OF BULK AT MOST 1048576: true; the input reads as it did. -/
def moduleNamesUptoRow : OpenClaim := { program := "ytmehfnikecmiiaa", sum := "42b55e1eaef5f43c0cc78f329e45e00fb7a9332e67bb341eac95406b69feb522", func := "scruple/scruplelaw09.ModuleNames", spec := "moduleNames", apart := false, narrowed := true }
def ModuleNamesUptoSaid : Prop := moduleNamesUptoRow.holds Try.pinned (OpenSpec.upto moduleNamesSpec)

/-- 'scruplelaw09.ModuleApart', WHERE WHAT IT READS IS OF BULK AT MOST 1048576: true; the input reads as it did. -/
def moduleApartUptoRow : OpenClaim := { program := "ytmehfnikecmiiaa", sum := "42b55e1eaef5f43c0cc78f329e45e00fb7a9332e67bb341eac95406b69feb522", func := "scruple/scruplelaw09.ModuleApart", spec := "moduleApart", unfollowed := true, recurses := true, loops := true, apart := false, narrowed := true }
def ModuleApartUptoSaid : Prop := moduleApartUptoRow.holds Try.pinned (OpenSpec.upto moduleApartSpec)

/-- 'scruplelaw09.ModuleCopies', WHERE WHAT IT READS IS OF BULK AT MOST 1048576: true; the input reads as it did. -/
def moduleCopiesUptoRow : OpenClaim := { program := "ytmehfnikecmiiaa", sum := "42b55e1eaef5f43c0cc78f329e45e00fb7a9332e67bb341eac95406b69feb522", func := "scruple/scruplelaw09.ModuleCopies", spec := "moduleCopies", unfollowed := true, recurses := true, loops := true, apart := false, narrowed := true }
def ModuleCopiesUptoSaid : Prop := moduleCopiesUptoRow.holds Try.pinned (OpenSpec.upto moduleCopiesSpec)

/-- 'scruplelaw09.ModuleReads', WHERE WHAT IT READS IS OF BULK AT MOST 1048576: true; the input reads as it did. -/
def moduleReadsUptoRow : OpenClaim := { program := "ytmehfnikecmiiaa", sum := "42b55e1eaef5f43c0cc78f329e45e00fb7a9332e67bb341eac95406b69feb522", func := "scruple/scruplelaw09.ModuleReads", spec := "moduleReads", unfollowed := true, recurses := true, apart := false, narrowed := true }
def ModuleReadsUptoSaid : Prop := moduleReadsUptoRow.holds Try.pinned (OpenSpec.upto moduleReadsSpec)

/-- 'scruplelaw09.ModuleOneForm', WHERE WHAT IT READS IS OF BULK AT MOST 1048576: true; the input reads as it did. -/
def moduleOneFormUptoRow : OpenClaim := { program := "ytmehfnikecmiiaa", sum := "42b55e1eaef5f43c0cc78f329e45e00fb7a9332e67bb341eac95406b69feb522", func := "scruple/scruplelaw09.ModuleOneForm", spec := "moduleOneForm", unfollowed := true, recurses := true, apart := false, narrowed := true }
def ModuleOneFormUptoSaid : Prop := moduleOneFormUptoRow.holds Try.pinned (OpenSpec.upto moduleOneFormSpec)

/-- 'scruplelaw09.ModuleBack', WHERE WHAT IT READS IS OF BULK AT MOST 1048576: true; the input reads as it did. -/
def moduleBackUptoRow : OpenClaim := { program := "ytmehfnikecmiiaa", sum := "42b55e1eaef5f43c0cc78f329e45e00fb7a9332e67bb341eac95406b69feb522", func := "scruple/scruplelaw09.ModuleBack", spec := "moduleBack", unfollowed := true, recurses := true, loops := true, apart := false, narrowed := true }
def ModuleBackUptoSaid : Prop := moduleBackUptoRow.holds Try.pinned (OpenSpec.upto moduleBackSpec)

end Rows
end Go.Proofs.Ytmehfnikecmiiaa
