/-
  NARROWER THAN 'FOR EVERY INPUT', by the rows' own cells (each row's printed sentence says how): WireApart: loops · WirePuts: loops · WireRow: loops · WireCodes: loops · WireBack: loops.
  DERIVED. THE GIVEN ROWS OF THIS SEAT. 7 by the template 'for every input the law returns true; each argument reads behind the call as it read before'; 0 by the template 'total and deterministic' (their statements: YtnkbobblnhaclaaTotals.lean).
  GIVEN WITH THE SEED: the statements are not yours to turn. If you find one false, say at which input.
  Laid BY PROGRAM, IN A SANDBOX (cutbox-rows.mjs): the forced cells as the released guide's own fill.sh prints them over the translation 0e4d1271851b667f… (all of the seat's roots in one cut). By AI agents, Wed Nov 11 2026. No macro, syntax, notation, axiom, sorry.
-/
import Derived.Test.YtnkbobblnhaclaaChecked
import GoSem.Claim
import GoSem.ClaimJoined
import GoSem.ClaimMapViews
import Derived.JoinedTies
import Derived.KernelRfl
namespace Go.Proofs.Ytnkbobblnhaclaa
/- THE CELL 'sum', in the pinned program and in every row, IS THE sha256 OF THE DUMP (.gsa) THAT YtnkbobblnhaclaaProg.lean LOADS. Nothing in Lean hashes anything: it is a label: what it is worth is what the hold of that sum in a sandbox is worth. -/
noncomputable def Try.pinned : Pinned := { name := "ytnkbobblnhaclaa", sum := "0e4d1271851b667ff2fb0b6be9c7b8634c213d8fe3975a17c7c650b319abee81", checked := Try.checked }
namespace Rows
def none {H : Type} : Left H := { results := [], args := [] }

/-- 'scruplelaw04.WireApart': WHATEVER THE INPUT: true; the input reads as it did. -/
def wireApartSpec : ChangeSpec := { name := "wireApart", fn := fun _ => fun
  | [d1, d2] => { results := [.lit (.bool true)], args := [d1, d2] }
  | _ => none }
def wireApartRow : OpenClaim := { program := "ytnkbobblnhaclaa", sum := "0e4d1271851b667ff2fb0b6be9c7b8634c213d8fe3975a17c7c650b319abee81", func := "scruple/scruplelaw04.WireApart", spec := "wireApart", unfollowed := true, recurses := true, loops := true, apart := false }
def WireApartSaid : Prop := wireApartRow.holds Try.pinned (OpenSpec.ofChange wireApartSpec)

/-- ITS FALSE NEIGHBOUR: 'it returns false'. Refute it at one input. -/
def wireApartWrong : ChangeSpec := { name := "wireApart", fn := fun _ => fun
  | [d1, d2] => { results := [.lit (.bool false)], args := [d1, d2] }
  | _ => none }
def WireApartWrongFalsely : Prop := wireApartRow.holds Try.pinned (OpenSpec.ofChange wireApartWrong)

/-- 'scruplelaw04.WirePuts': WHATEVER THE INPUT: true; the input reads as it did. -/
def wirePutsSpec : ChangeSpec := { name := "wirePuts", fn := fun _ => fun
  | [d1, d2] => { results := [.lit (.bool true)], args := [d1, d2] }
  | _ => none }
def wirePutsRow : OpenClaim := { program := "ytnkbobblnhaclaa", sum := "0e4d1271851b667ff2fb0b6be9c7b8634c213d8fe3975a17c7c650b319abee81", func := "scruple/scruplelaw04.WirePuts", spec := "wirePuts", unfollowed := true, recurses := true, loops := true, apart := false }
def WirePutsSaid : Prop := wirePutsRow.holds Try.pinned (OpenSpec.ofChange wirePutsSpec)

/-- ITS FALSE NEIGHBOUR: 'it returns false'. Refute it at one input. -/
def wirePutsWrong : ChangeSpec := { name := "wirePuts", fn := fun _ => fun
  | [d1, d2] => { results := [.lit (.bool false)], args := [d1, d2] }
  | _ => none }
def WirePutsWrongFalsely : Prop := wirePutsRow.holds Try.pinned (OpenSpec.ofChange wirePutsWrong)

/-- 'scruplelaw04.WireTakes': WHATEVER THE INPUT: true; the input reads as it did. -/
def wireTakesSpec : ChangeSpec := { name := "wireTakes", fn := fun _ => fun
  | [d1, d2] => { results := [.lit (.bool true)], args := [d1, d2] }
  | _ => none }
def wireTakesRow : OpenClaim := { program := "ytnkbobblnhaclaa", sum := "0e4d1271851b667ff2fb0b6be9c7b8634c213d8fe3975a17c7c650b319abee81", func := "scruple/scruplelaw04.WireTakes", spec := "wireTakes", unfollowed := true, recurses := true, apart := false }
def WireTakesSaid : Prop := wireTakesRow.holds Try.pinned (OpenSpec.ofChange wireTakesSpec)

/-- ITS FALSE NEIGHBOUR: 'it returns false'. Refute it at one input. -/
def wireTakesWrong : ChangeSpec := { name := "wireTakes", fn := fun _ => fun
  | [d1, d2] => { results := [.lit (.bool false)], args := [d1, d2] }
  | _ => none }
def WireTakesWrongFalsely : Prop := wireTakesRow.holds Try.pinned (OpenSpec.ofChange wireTakesWrong)

/-- 'scruplelaw04.WireRow': WHATEVER THE INPUT: true; the input reads as it did. -/
def wireRowSpec : ChangeSpec := { name := "wireRow", fn := fun _ => fun
  | [d] => { results := [.lit (.bool true)], args := [d] }
  | _ => none }
def wireRowRow : OpenClaim := { program := "ytnkbobblnhaclaa", sum := "0e4d1271851b667ff2fb0b6be9c7b8634c213d8fe3975a17c7c650b319abee81", func := "scruple/scruplelaw04.WireRow", spec := "wireRow", unfollowed := true, recurses := true, loops := true, apart := false }
def WireRowSaid : Prop := wireRowRow.holds Try.pinned (OpenSpec.ofChange wireRowSpec)

/-- ITS FALSE NEIGHBOUR: 'it returns false'. Refute it at one input. -/
def wireRowWrong : ChangeSpec := { name := "wireRow", fn := fun _ => fun
  | [d] => { results := [.lit (.bool false)], args := [d] }
  | _ => none }
def WireRowWrongFalsely : Prop := wireRowRow.holds Try.pinned (OpenSpec.ofChange wireRowWrong)

/-- 'scruplelaw04.WireCodes': WHATEVER THE INPUT: true; the input reads as it did. -/
def wireCodesSpec : ChangeSpec := { name := "wireCodes", fn := fun _ => fun
  | [d1, d2] => { results := [.lit (.bool true)], args := [d1, d2] }
  | _ => none }
def wireCodesRow : OpenClaim := { program := "ytnkbobblnhaclaa", sum := "0e4d1271851b667ff2fb0b6be9c7b8634c213d8fe3975a17c7c650b319abee81", func := "scruple/scruplelaw04.WireCodes", spec := "wireCodes", unfollowed := true, recurses := true, loops := true, apart := false }
def WireCodesSaid : Prop := wireCodesRow.holds Try.pinned (OpenSpec.ofChange wireCodesSpec)

/-- ITS FALSE NEIGHBOUR: 'it returns false'. Refute it at one input. -/
def wireCodesWrong : ChangeSpec := { name := "wireCodes", fn := fun _ => fun
  | [d1, d2] => { results := [.lit (.bool false)], args := [d1, d2] }
  | _ => none }
def WireCodesWrongFalsely : Prop := wireCodesRow.holds Try.pinned (OpenSpec.ofChange wireCodesWrong)

/-- 'scruplelaw04.WireOne': WHATEVER THE INPUT: true; the input reads as it did. -/
def wireOneSpec : ChangeSpec := { name := "wireOne", fn := fun _ => fun
  | [d1, d2] => { results := [.lit (.bool true)], args := [d1, d2] }
  | _ => none }
def wireOneRow : OpenClaim := { program := "ytnkbobblnhaclaa", sum := "0e4d1271851b667ff2fb0b6be9c7b8634c213d8fe3975a17c7c650b319abee81", func := "scruple/scruplelaw04.WireOne", spec := "wireOne", unfollowed := true, recurses := true, apart := false }
def WireOneSaid : Prop := wireOneRow.holds Try.pinned (OpenSpec.ofChange wireOneSpec)

/-- ITS FALSE NEIGHBOUR: 'it returns false'. Refute it at one input. -/
def wireOneWrong : ChangeSpec := { name := "wireOne", fn := fun _ => fun
  | [d1, d2] => { results := [.lit (.bool false)], args := [d1, d2] }
  | _ => none }
def WireOneWrongFalsely : Prop := wireOneRow.holds Try.pinned (OpenSpec.ofChange wireOneWrong)

/-- 'scruplelaw04.WireBack': WHATEVER THE INPUT: true; the input reads as it did. -/
def wireBackSpec : ChangeSpec := { name := "wireBack", fn := fun _ => fun
  | [d1, d2, d3] => { results := [.lit (.bool true)], args := [d1, d2, d3] }
  | _ => none }
def wireBackRow : OpenClaim := { program := "ytnkbobblnhaclaa", sum := "0e4d1271851b667ff2fb0b6be9c7b8634c213d8fe3975a17c7c650b319abee81", func := "scruple/scruplelaw04.WireBack", spec := "wireBack", unfollowed := true, recurses := true, loops := true, apart := false }
def WireBackSaid : Prop := wireBackRow.holds Try.pinned (OpenSpec.ofChange wireBackSpec)

/-- ITS FALSE NEIGHBOUR: 'it returns false'. Refute it at one input. -/
def wireBackWrong : ChangeSpec := { name := "wireBack", fn := fun _ => fun
  | [d1, d2, d3] => { results := [.lit (.bool false)], args := [d1, d2, d3] }
  | _ => none }
def WireBackWrongFalsely : Prop := wireBackRow.holds Try.pinned (OpenSpec.ofChange wireBackWrong)

/- THE SECOND FORM. 'bulk': how many values and letters a reading holds, each counted each time it is reached (what is shared counts as often as it is met; a slice's spare places count too). A statement '..UptoSaid' is the law's where the arguments, and the package variables that the reading takes, are together of bulk at most 1048576: NARROWER than '..Said'. Prove '..Said' where nothing that the law and all that it calls make is longer than what came in: it says more and counts as full. Else prove '..UptoSaid'. A law counts once. -/
mutual
def uptoBulk {H : Type} : DataW H → Nat
  | .lit (.string bytes) => bytes.length + 1
  | .lit _ => 1
  | .nil => 1
  | .ptr d => uptoBulk d + 1
  | .slice elems spare => uptoBulkAll elems + uptoBulkAll spare + 1
  | .agg parts => uptoBulkAll parts + 1
  | .iface _ d => uptoBulk d + 1
  | .map entries => uptoBulkEntries entries + 1
  | .held _ => 1
def uptoBulkAll {H : Type} : List (DataW H) → Nat
  | [] => 0
  | d :: r => uptoBulk d + uptoBulkAll r
def uptoBulkEntries {H : Type} : List (Lit × DataW H) → Nat
  | [] => 0
  | x :: r => uptoBulkEntry x + uptoBulkEntries r
def uptoBulkEntry {H : Type} : Lit × DataW H → Nat
  | (.string bytes, d) => bytes.length + uptoBulk d + 1
  | (_, d) => uptoBulk d + 1
 end
def uptoSmall : (H : Type) → List (DataW H) → Bool := fun _ ds => decide (uptoBulkAll ds ≤ 1048576)
def OpenSpec.upto (s : _root_.Go.ChangeSpec) : _root_.Go.OpenSpec := { _root_.Go.OpenSpec.ofChange s with cond := some uptoSmall }

/-- 'scruplelaw04.WireApart', WHERE WHAT IT READS IS OF BULK AT MOST 1048576: true; the input reads as it did. -/
def wireApartUptoRow : OpenClaim := { program := "ytnkbobblnhaclaa", sum := "0e4d1271851b667ff2fb0b6be9c7b8634c213d8fe3975a17c7c650b319abee81", func := "scruple/scruplelaw04.WireApart", spec := "wireApart", unfollowed := true, recurses := true, loops := true, apart := false, narrowed := true }
def WireApartUptoSaid : Prop := wireApartUptoRow.holds Try.pinned (OpenSpec.upto wireApartSpec)

/-- 'scruplelaw04.WirePuts', WHERE WHAT IT READS IS OF BULK AT MOST 1048576: true; the input reads as it did. -/
def wirePutsUptoRow : OpenClaim := { program := "ytnkbobblnhaclaa", sum := "0e4d1271851b667ff2fb0b6be9c7b8634c213d8fe3975a17c7c650b319abee81", func := "scruple/scruplelaw04.WirePuts", spec := "wirePuts", unfollowed := true, recurses := true, loops := true, apart := false, narrowed := true }
def WirePutsUptoSaid : Prop := wirePutsUptoRow.holds Try.pinned (OpenSpec.upto wirePutsSpec)

/-- 'scruplelaw04.WireTakes', WHERE WHAT IT READS IS OF BULK AT MOST 1048576: true; the input reads as it did. -/
def wireTakesUptoRow : OpenClaim := { program := "ytnkbobblnhaclaa", sum := "0e4d1271851b667ff2fb0b6be9c7b8634c213d8fe3975a17c7c650b319abee81", func := "scruple/scruplelaw04.WireTakes", spec := "wireTakes", unfollowed := true, recurses := true, apart := false, narrowed := true }
def WireTakesUptoSaid : Prop := wireTakesUptoRow.holds Try.pinned (OpenSpec.upto wireTakesSpec)

/-- 'scruplelaw04.WireRow', WHERE WHAT IT READS IS OF BULK AT MOST 1048576: true; the input reads as it did. -/
def wireRowUptoRow : OpenClaim := { program := "ytnkbobblnhaclaa", sum := "0e4d1271851b667ff2fb0b6be9c7b8634c213d8fe3975a17c7c650b319abee81", func := "scruple/scruplelaw04.WireRow", spec := "wireRow", unfollowed := true, recurses := true, loops := true, apart := false, narrowed := true }
def WireRowUptoSaid : Prop := wireRowUptoRow.holds Try.pinned (OpenSpec.upto wireRowSpec)

/-- 'scruplelaw04.WireCodes', WHERE WHAT IT READS IS OF BULK AT MOST 1048576: true; the input reads as it did. -/
def wireCodesUptoRow : OpenClaim := { program := "ytnkbobblnhaclaa", sum := "0e4d1271851b667ff2fb0b6be9c7b8634c213d8fe3975a17c7c650b319abee81", func := "scruple/scruplelaw04.WireCodes", spec := "wireCodes", unfollowed := true, recurses := true, loops := true, apart := false, narrowed := true }
def WireCodesUptoSaid : Prop := wireCodesUptoRow.holds Try.pinned (OpenSpec.upto wireCodesSpec)

/-- 'scruplelaw04.WireOne', WHERE WHAT IT READS IS OF BULK AT MOST 1048576: true; the input reads as it did. -/
def wireOneUptoRow : OpenClaim := { program := "ytnkbobblnhaclaa", sum := "0e4d1271851b667ff2fb0b6be9c7b8634c213d8fe3975a17c7c650b319abee81", func := "scruple/scruplelaw04.WireOne", spec := "wireOne", unfollowed := true, recurses := true, apart := false, narrowed := true }
def WireOneUptoSaid : Prop := wireOneUptoRow.holds Try.pinned (OpenSpec.upto wireOneSpec)

/-- 'scruplelaw04.WireBack', WHERE WHAT IT READS IS OF BULK AT MOST 1048576: true; the input reads as it did. -/
def wireBackUptoRow : OpenClaim := { program := "ytnkbobblnhaclaa", sum := "0e4d1271851b667ff2fb0b6be9c7b8634c213d8fe3975a17c7c650b319abee81", func := "scruple/scruplelaw04.WireBack", spec := "wireBack", unfollowed := true, recurses := true, loops := true, apart := false, narrowed := true }
def WireBackUptoSaid : Prop := wireBackUptoRow.holds Try.pinned (OpenSpec.upto wireBackSpec)

end Rows
end Go.Proofs.Ytnkbobblnhaclaa
