/-
  No cell of these rows narrows 'for every input' (looked for: loops, veiled, ifaces, maps, wideKeys, modest, calm, conditions, laid).
  DERIVED. THE GIVEN ROWS OF THIS SEAT. 7 by the template 'for every input the law returns true; each argument reads behind the call as it read before'; 0 by the template 'total and deterministic' (their statements: YtjgodkpeapeflaaTotals.lean).
  GIVEN WITH THE SEED: the statements are not yours to turn. If you find one false, say at which input.
  Laid BY PROGRAM, IN A SANDBOX (cutbox-rows.mjs): the forced cells as the released guide's own fill.sh prints them over the translation bafa50b9fdc93c3e… (all of the seat's roots in one cut). By AI agents, Wed Nov 11 2026. No macro, syntax, notation, axiom, sorry.
-/
import Derived.Test.YtjgodkpeapeflaaChecked
import GoSem.Claim
import GoSem.ClaimJoined
import GoSem.ClaimMapViews
import Derived.JoinedTies
import Derived.KernelRfl
namespace Go.Proofs.Ytjgodkpeapeflaa
/- THE CELL 'sum', in the pinned program and in every row, IS THE sha256 OF THE DUMP (.gsa) THAT YtjgodkpeapeflaaProg.lean LOADS. Nothing in Lean hashes anything: it is a label: what it is worth is what the hold of that sum in a sandbox is worth. -/
noncomputable def Try.pinned : Pinned := { name := "ytjgodkpeapeflaa", sum := "bafa50b9fdc93c3eb75d581c5054ed2098dc417999047eeae0d9981681badfe3", checked := Try.checked }
namespace Rows
def none {H : Type} : Left H := { results := [], args := [] }

/-- 'pontagelaw2.MulDivProduct': WHATEVER THE INPUT: true; the input reads as it did. -/
def mulDivProductSpec : ChangeSpec := { name := "mulDivProduct", fn := fun _ => fun
  | [d1, d2] => { results := [.lit (.bool true)], args := [d1, d2] }
  | _ => none }
def mulDivProductRow : OpenClaim := { program := "ytjgodkpeapeflaa", sum := "bafa50b9fdc93c3eb75d581c5054ed2098dc417999047eeae0d9981681badfe3", func := "pontage/pontagelaw2.MulDivProduct", spec := "mulDivProduct", inPlace := ["math/bits.Add64", "math/bits.Sub64"], apart := false }
def MulDivProductSaid : Prop := mulDivProductRow.holds Try.pinned (OpenSpec.ofChange mulDivProductSpec)

/-- ITS FALSE NEIGHBOUR: 'it returns false'. Refute it at one input. -/
def mulDivProductWrong : ChangeSpec := { name := "mulDivProduct", fn := fun _ => fun
  | [d1, d2] => { results := [.lit (.bool false)], args := [d1, d2] }
  | _ => none }
def MulDivProductWrongFalsely : Prop := mulDivProductRow.holds Try.pinned (OpenSpec.ofChange mulDivProductWrong)

/-- 'pontagelaw2.MulDivDivision': WHATEVER THE INPUT: true; the input reads as it did. -/
def mulDivDivisionSpec : ChangeSpec := { name := "mulDivDivision", fn := fun _ => fun
  | [d1, d2, d3, d4] => { results := [.lit (.bool true)], args := [d1, d2, d3, d4] }
  | _ => none }
def mulDivDivisionRow : OpenClaim := { program := "ytjgodkpeapeflaa", sum := "bafa50b9fdc93c3eb75d581c5054ed2098dc417999047eeae0d9981681badfe3", func := "pontage/pontagelaw2.MulDivDivision", spec := "mulDivDivision", inPlace := ["math/bits.Sub64", "math/bits.Add64"], apart := false }
def MulDivDivisionSaid : Prop := mulDivDivisionRow.holds Try.pinned (OpenSpec.ofChange mulDivDivisionSpec)

/-- ITS FALSE NEIGHBOUR: 'it returns false'. Refute it at one input. -/
def mulDivDivisionWrong : ChangeSpec := { name := "mulDivDivision", fn := fun _ => fun
  | [d1, d2, d3, d4] => { results := [.lit (.bool false)], args := [d1, d2, d3, d4] }
  | _ => none }
def MulDivDivisionWrongFalsely : Prop := mulDivDivisionRow.holds Try.pinned (OpenSpec.ofChange mulDivDivisionWrong)

/-- 'pontagelaw2.MulDivFloorCeil': WHATEVER THE INPUT: true; the input reads as it did. -/
def mulDivFloorCeilSpec : ChangeSpec := { name := "mulDivFloorCeil", fn := fun _ => fun
  | [d1, d2, d3, d4] => { results := [.lit (.bool true)], args := [d1, d2, d3, d4] }
  | _ => none }
def mulDivFloorCeilRow : OpenClaim := { program := "ytjgodkpeapeflaa", sum := "bafa50b9fdc93c3eb75d581c5054ed2098dc417999047eeae0d9981681badfe3", func := "pontage/pontagelaw2.MulDivFloorCeil", spec := "mulDivFloorCeil", inPlace := ["math/bits.Add64", "math/bits.Sub64"], apart := false }
def MulDivFloorCeilSaid : Prop := mulDivFloorCeilRow.holds Try.pinned (OpenSpec.ofChange mulDivFloorCeilSpec)

/-- ITS FALSE NEIGHBOUR: 'it returns false'. Refute it at one input. -/
def mulDivFloorCeilWrong : ChangeSpec := { name := "mulDivFloorCeil", fn := fun _ => fun
  | [d1, d2, d3, d4] => { results := [.lit (.bool false)], args := [d1, d2, d3, d4] }
  | _ => none }
def MulDivFloorCeilWrongFalsely : Prop := mulDivFloorCeilRow.holds Try.pinned (OpenSpec.ofChange mulDivFloorCeilWrong)

/-- 'pontagelaw2.MulDivBoundaries': WHATEVER THE INPUT: true; the input reads as it did. -/
def mulDivBoundariesSpec : ChangeSpec := { name := "mulDivBoundaries", fn := fun _ => fun
  | [d1, d2, d3, d4, d5] => { results := [.lit (.bool true)], args := [d1, d2, d3, d4, d5] }
  | _ => none }
def mulDivBoundariesRow : OpenClaim := { program := "ytjgodkpeapeflaa", sum := "bafa50b9fdc93c3eb75d581c5054ed2098dc417999047eeae0d9981681badfe3", func := "pontage/pontagelaw2.MulDivBoundaries", spec := "mulDivBoundaries", inPlace := ["math/bits.Add64", "math/bits.Sub64"], apart := false }
def MulDivBoundariesSaid : Prop := mulDivBoundariesRow.holds Try.pinned (OpenSpec.ofChange mulDivBoundariesSpec)

/-- ITS FALSE NEIGHBOUR: 'it returns false'. Refute it at one input. -/
def mulDivBoundariesWrong : ChangeSpec := { name := "mulDivBoundaries", fn := fun _ => fun
  | [d1, d2, d3, d4, d5] => { results := [.lit (.bool false)], args := [d1, d2, d3, d4, d5] }
  | _ => none }
def MulDivBoundariesWrongFalsely : Prop := mulDivBoundariesRow.holds Try.pinned (OpenSpec.ofChange mulDivBoundariesWrong)

/-- 'pontagelaw2.MulDivInverse': WHATEVER THE INPUT: true; the input reads as it did. -/
def mulDivInverseSpec : ChangeSpec := { name := "mulDivInverse", fn := fun _ => fun
  | [d1, d2, d3] => { results := [.lit (.bool true)], args := [d1, d2, d3] }
  | _ => none }
def mulDivInverseRow : OpenClaim := { program := "ytjgodkpeapeflaa", sum := "bafa50b9fdc93c3eb75d581c5054ed2098dc417999047eeae0d9981681badfe3", func := "pontage/pontagelaw2.MulDivInverse", spec := "mulDivInverse", inPlace := ["math/bits.Add64", "math/bits.Sub64"], apart := false }
def MulDivInverseSaid : Prop := mulDivInverseRow.holds Try.pinned (OpenSpec.ofChange mulDivInverseSpec)

/-- ITS FALSE NEIGHBOUR: 'it returns false'. Refute it at one input. -/
def mulDivInverseWrong : ChangeSpec := { name := "mulDivInverse", fn := fun _ => fun
  | [d1, d2, d3] => { results := [.lit (.bool false)], args := [d1, d2, d3] }
  | _ => none }
def MulDivInverseWrongFalsely : Prop := mulDivInverseRow.holds Try.pinned (OpenSpec.ofChange mulDivInverseWrong)

/-- 'pontagelaw2.MulDivCeilMinusFloor': WHATEVER THE INPUT: true; the input reads as it did. -/
def mulDivCeilMinusFloorSpec : ChangeSpec := { name := "mulDivCeilMinusFloor", fn := fun _ => fun
  | [d1, d2, d3] => { results := [.lit (.bool true)], args := [d1, d2, d3] }
  | _ => none }
def mulDivCeilMinusFloorRow : OpenClaim := { program := "ytjgodkpeapeflaa", sum := "bafa50b9fdc93c3eb75d581c5054ed2098dc417999047eeae0d9981681badfe3", func := "pontage/pontagelaw2.MulDivCeilMinusFloor", spec := "mulDivCeilMinusFloor", inPlace := ["math/bits.Add64", "math/bits.Sub64"], apart := false }
def MulDivCeilMinusFloorSaid : Prop := mulDivCeilMinusFloorRow.holds Try.pinned (OpenSpec.ofChange mulDivCeilMinusFloorSpec)

/-- ITS FALSE NEIGHBOUR: 'it returns false'. Refute it at one input. -/
def mulDivCeilMinusFloorWrong : ChangeSpec := { name := "mulDivCeilMinusFloor", fn := fun _ => fun
  | [d1, d2, d3] => { results := [.lit (.bool false)], args := [d1, d2, d3] }
  | _ => none }
def MulDivCeilMinusFloorWrongFalsely : Prop := mulDivCeilMinusFloorRow.holds Try.pinned (OpenSpec.ofChange mulDivCeilMinusFloorWrong)

/-- 'pontagelaw2.MuldivIdentities': WHATEVER THE INPUT: true; the input reads as it did. -/
def muldivIdentitiesSpec : ChangeSpec := { name := "muldivIdentities", fn := fun _ => fun
  | [d1, d2, d3] => { results := [.lit (.bool true)], args := [d1, d2, d3] }
  | _ => none }
def muldivIdentitiesRow : OpenClaim := { program := "ytjgodkpeapeflaa", sum := "bafa50b9fdc93c3eb75d581c5054ed2098dc417999047eeae0d9981681badfe3", func := "pontage/pontagelaw2.MuldivIdentities", spec := "muldivIdentities", inPlace := ["math/bits.Add64", "math/bits.Sub64"], apart := false }
def MuldivIdentitiesSaid : Prop := muldivIdentitiesRow.holds Try.pinned (OpenSpec.ofChange muldivIdentitiesSpec)

/-- ITS FALSE NEIGHBOUR: 'it returns false'. Refute it at one input. -/
def muldivIdentitiesWrong : ChangeSpec := { name := "muldivIdentities", fn := fun _ => fun
  | [d1, d2, d3] => { results := [.lit (.bool false)], args := [d1, d2, d3] }
  | _ => none }
def MuldivIdentitiesWrongFalsely : Prop := muldivIdentitiesRow.holds Try.pinned (OpenSpec.ofChange muldivIdentitiesWrong)

/- THE SECOND FORM. 'bulk': how many values and letters a reading holds, each counted each time it is reached (what is shared counts as often as it is met; a slice's spare places count too). A statement '..UptoSaid' is the law's where the arguments, and the package variables that the reading takes, are together of bulk at most 1048576: NARROWER than '..Said'. Prove '..Said' where nothing that the law and all that it calls make is longer than what came in: it says more and counts as full. Else prove '..UptoSaid'. A law counts once. -/
mutual
def uptoBulk {H : Type} : DataW H → Nat
  | .lit (.string bytes) => bytes.length + 1
  | .lit _ => 1
  | .nil => 1
  | .ptr d => uptoBulk d + 1
  | .slice elems spare => uptoBulkAll elems + uptoBulkAll spare + 1
  | .agg parts => uptoBulkAll parts + 1
  | .iface _ d => uptoBulk d + 1
  | .map entries => uptoBulkEntries entries + 1
  | .held _ => 1
def uptoBulkAll {H : Type} : List (DataW H) → Nat
  | [] => 0
  | d :: r => uptoBulk d + uptoBulkAll r
def uptoBulkEntries {H : Type} : List (Lit × DataW H) → Nat
  | [] => 0
  | x :: r => uptoBulkEntry x + uptoBulkEntries r
def uptoBulkEntry {H : Type} : Lit × DataW H → Nat
  | (.string bytes, d) => bytes.length + uptoBulk d + 1
  | (_, d) => uptoBulk d + 1
 end
def uptoSmall : (H : Type) → List (DataW H) → Bool := fun _ ds => decide (uptoBulkAll ds ≤ 1048576)
def OpenSpec.upto (s : _root_.Go.ChangeSpec) : _root_.Go.OpenSpec := { _root_.Go.OpenSpec.ofChange s with cond := some uptoSmall }

/-- 'pontagelaw2.MulDivProduct', WHERE WHAT IT READS IS OF BULK AT MOST 1048576: true; the input reads as it did. -/
def mulDivProductUptoRow : OpenClaim := { program := "ytjgodkpeapeflaa", sum := "bafa50b9fdc93c3eb75d581c5054ed2098dc417999047eeae0d9981681badfe3", func := "pontage/pontagelaw2.MulDivProduct", spec := "mulDivProduct", inPlace := ["math/bits.Add64", "math/bits.Sub64"], apart := false, narrowed := true }
def MulDivProductUptoSaid : Prop := mulDivProductUptoRow.holds Try.pinned (OpenSpec.upto mulDivProductSpec)

/-- 'pontagelaw2.MulDivDivision', WHERE WHAT IT READS IS OF BULK AT MOST 1048576: true; the input reads as it did. -/
def mulDivDivisionUptoRow : OpenClaim := { program := "ytjgodkpeapeflaa", sum := "bafa50b9fdc93c3eb75d581c5054ed2098dc417999047eeae0d9981681badfe3", func := "pontage/pontagelaw2.MulDivDivision", spec := "mulDivDivision", inPlace := ["math/bits.Sub64", "math/bits.Add64"], apart := false, narrowed := true }
def MulDivDivisionUptoSaid : Prop := mulDivDivisionUptoRow.holds Try.pinned (OpenSpec.upto mulDivDivisionSpec)

/-- 'pontagelaw2.MulDivFloorCeil', WHERE WHAT IT READS IS OF BULK AT MOST 1048576: true; the input reads as it did. -/
def mulDivFloorCeilUptoRow : OpenClaim := { program := "ytjgodkpeapeflaa", sum := "bafa50b9fdc93c3eb75d581c5054ed2098dc417999047eeae0d9981681badfe3", func := "pontage/pontagelaw2.MulDivFloorCeil", spec := "mulDivFloorCeil", inPlace := ["math/bits.Add64", "math/bits.Sub64"], apart := false, narrowed := true }
def MulDivFloorCeilUptoSaid : Prop := mulDivFloorCeilUptoRow.holds Try.pinned (OpenSpec.upto mulDivFloorCeilSpec)

/-- 'pontagelaw2.MulDivBoundaries', WHERE WHAT IT READS IS OF BULK AT MOST 1048576: true; the input reads as it did. -/
def mulDivBoundariesUptoRow : OpenClaim := { program := "ytjgodkpeapeflaa", sum := "bafa50b9fdc93c3eb75d581c5054ed2098dc417999047eeae0d9981681badfe3", func := "pontage/pontagelaw2.MulDivBoundaries", spec := "mulDivBoundaries", inPlace := ["math/bits.Add64", "math/bits.Sub64"], apart := false, narrowed := true }
def MulDivBoundariesUptoSaid : Prop := mulDivBoundariesUptoRow.holds Try.pinned (OpenSpec.upto mulDivBoundariesSpec)

/-- 'pontagelaw2.MulDivInverse', WHERE WHAT IT READS IS OF BULK AT MOST 1048576: true; the input reads as it did. -/
def mulDivInverseUptoRow : OpenClaim := { program := "ytjgodkpeapeflaa", sum := "bafa50b9fdc93c3eb75d581c5054ed2098dc417999047eeae0d9981681badfe3", func := "pontage/pontagelaw2.MulDivInverse", spec := "mulDivInverse", inPlace := ["math/bits.Add64", "math/bits.Sub64"], apart := false, narrowed := true }
def MulDivInverseUptoSaid : Prop := mulDivInverseUptoRow.holds Try.pinned (OpenSpec.upto mulDivInverseSpec)

/-- 'pontagelaw2.MulDivCeilMinusFloor', WHERE WHAT IT READS IS OF BULK AT MOST 1048576: true; the input reads as it did. -/
def mulDivCeilMinusFloorUptoRow : OpenClaim := { program := "ytjgodkpeapeflaa", sum := "bafa50b9fdc93c3eb75d581c5054ed2098dc417999047eeae0d9981681badfe3", func := "pontage/pontagelaw2.MulDivCeilMinusFloor", spec := "mulDivCeilMinusFloor", inPlace := ["math/bits.Add64", "math/bits.Sub64"], apart := false, narrowed := true }
def MulDivCeilMinusFloorUptoSaid : Prop := mulDivCeilMinusFloorUptoRow.holds Try.pinned (OpenSpec.upto mulDivCeilMinusFloorSpec)

/-- 'pontagelaw2.MuldivIdentities', WHERE WHAT IT READS IS OF BULK AT MOST 1048576: true; the input reads as it did. -/
def muldivIdentitiesUptoRow : OpenClaim := { program := "ytjgodkpeapeflaa", sum := "bafa50b9fdc93c3eb75d581c5054ed2098dc417999047eeae0d9981681badfe3", func := "pontage/pontagelaw2.MuldivIdentities", spec := "muldivIdentities", inPlace := ["math/bits.Add64", "math/bits.Sub64"], apart := false, narrowed := true }
def MuldivIdentitiesUptoSaid : Prop := muldivIdentitiesUptoRow.holds Try.pinned (OpenSpec.upto muldivIdentitiesSpec)

end Rows
end Go.Proofs.Ytjgodkpeapeflaa
