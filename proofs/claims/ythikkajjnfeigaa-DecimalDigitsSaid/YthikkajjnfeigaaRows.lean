/-
  No cell of these rows narrows 'for every input' (looked for: loops, veiled, ifaces, maps, wideKeys, modest, calm, conditions, laid).
  DERIVED. THE GIVEN ROWS OF THIS SEAT. 5 by the template 'for every input the law returns true; each argument reads behind the call as it read before'; 0 by the template 'total and deterministic' (their statements: YthikkajjnfeigaaTotals.lean).
  GIVEN WITH THE SEED: the statements are not yours to turn. If you find one false, say at which input.
  Laid BY PROGRAM, IN A SANDBOX (cutbox-rows.mjs): the forced cells as the released guide's own fill.sh prints them over the translation 5d136c46ff928eab… (all of the seat's roots in one cut). By AI agents, Wed Nov 11 2026. No macro, syntax, notation, axiom, sorry.
-/
import Derived.Test.YthikkajjnfeigaaChecked
import GoSem.Claim
import GoSem.ClaimJoined
import GoSem.ClaimMapViews
import Derived.JoinedTies
import Derived.KernelRfl
namespace Go.Proofs.Ythikkajjnfeigaa
/- THE CELL 'sum', in the pinned program and in every row, IS THE sha256 OF THE DUMP (.gsa) THAT YthikkajjnfeigaaProg.lean LOADS. Nothing in Lean hashes anything: it is a label: what it is worth is what the hold of that sum in a sandbox is worth. -/
noncomputable def Try.pinned : Pinned := { name := "ythikkajjnfeigaa", sum := "5d136c46ff928eab250413509a989e4720b0ca089722a27d176f3afa594a965f", checked := Try.checked }
namespace Rows
def none {H : Type} : Left H := { results := [], args := [] }

/-- 'pontagelaw4.DecimalParse': WHATEVER THE INPUT: true; the input reads as it did. -/
def decimalParseSpec : ChangeSpec := { name := "decimalParse", fn := fun _ => fun
  | [d1, d2, d3] => { results := [.lit (.bool true)], args := [d1, d2, d3] }
  | _ => none }
def decimalParseRow : OpenClaim := { program := "ythikkajjnfeigaa", sum := "5d136c46ff928eab250413509a989e4720b0ca089722a27d176f3afa594a965f", func := "pontage/pontagelaw4.DecimalParse", spec := "decimalParse", inPlace := ["math/bits.Add64"], named := ["math/bits.divideError", "math/bits.overflowError"], apart := false }
def DecimalParseSaid : Prop := decimalParseRow.holds Try.pinned (OpenSpec.ofChange decimalParseSpec)

/-- ITS FALSE NEIGHBOUR: 'it returns false'. Refute it at one input. -/
def decimalParseWrong : ChangeSpec := { name := "decimalParse", fn := fun _ => fun
  | [d1, d2, d3] => { results := [.lit (.bool false)], args := [d1, d2, d3] }
  | _ => none }
def DecimalParseWrongFalsely : Prop := decimalParseRow.holds Try.pinned (OpenSpec.ofChange decimalParseWrong)

/-- 'pontagelaw4.DecimalDigits': WHATEVER THE INPUT: true; the input reads as it did. -/
def decimalDigitsSpec : ChangeSpec := { name := "decimalDigits", fn := fun _ => fun
  | [d1, d2] => { results := [.lit (.bool true)], args := [d1, d2] }
  | _ => none }
def decimalDigitsRow : OpenClaim := { program := "ythikkajjnfeigaa", sum := "5d136c46ff928eab250413509a989e4720b0ca089722a27d176f3afa594a965f", func := "pontage/pontagelaw4.DecimalDigits", spec := "decimalDigits", inPlace := ["math/bits.Add64"], named := ["math/bits.divideError", "math/bits.overflowError"], apart := false }
def DecimalDigitsSaid : Prop := decimalDigitsRow.holds Try.pinned (OpenSpec.ofChange decimalDigitsSpec)

/-- ITS FALSE NEIGHBOUR: 'it returns false'. Refute it at one input. -/
def decimalDigitsWrong : ChangeSpec := { name := "decimalDigits", fn := fun _ => fun
  | [d1, d2] => { results := [.lit (.bool false)], args := [d1, d2] }
  | _ => none }
def DecimalDigitsWrongFalsely : Prop := decimalDigitsRow.holds Try.pinned (OpenSpec.ofChange decimalDigitsWrong)

/-- 'pontagelaw4.DecimalFormat': WHATEVER THE INPUT: true; the input reads as it did. -/
def decimalFormatSpec : ChangeSpec := { name := "decimalFormat", fn := fun _ => fun
  | [d1, d2, d3] => { results := [.lit (.bool true)], args := [d1, d2, d3] }
  | _ => none }
def decimalFormatRow : OpenClaim := { program := "ythikkajjnfeigaa", sum := "5d136c46ff928eab250413509a989e4720b0ca089722a27d176f3afa594a965f", func := "pontage/pontagelaw4.DecimalFormat", spec := "decimalFormat", inPlace := ["math/bits.Add64"], named := ["math/bits.divideError", "math/bits.overflowError"], apart := false }
def DecimalFormatSaid : Prop := decimalFormatRow.holds Try.pinned (OpenSpec.ofChange decimalFormatSpec)

/-- ITS FALSE NEIGHBOUR: 'it returns false'. Refute it at one input. -/
def decimalFormatWrong : ChangeSpec := { name := "decimalFormat", fn := fun _ => fun
  | [d1, d2, d3] => { results := [.lit (.bool false)], args := [d1, d2, d3] }
  | _ => none }
def DecimalFormatWrongFalsely : Prop := decimalFormatRow.holds Try.pinned (OpenSpec.ofChange decimalFormatWrong)

/-- 'pontagelaw4.DecimalRoundTrip': WHATEVER THE INPUT: true; the input reads as it did. -/
def decimalRoundTripSpec : ChangeSpec := { name := "decimalRoundTrip", fn := fun _ => fun
  | [d1, d2, d3] => { results := [.lit (.bool true)], args := [d1, d2, d3] }
  | _ => none }
def decimalRoundTripRow : OpenClaim := { program := "ythikkajjnfeigaa", sum := "5d136c46ff928eab250413509a989e4720b0ca089722a27d176f3afa594a965f", func := "pontage/pontagelaw4.DecimalRoundTrip", spec := "decimalRoundTrip", inPlace := ["math/bits.Add64"], named := ["math/bits.divideError", "math/bits.overflowError"], apart := false }
def DecimalRoundTripSaid : Prop := decimalRoundTripRow.holds Try.pinned (OpenSpec.ofChange decimalRoundTripSpec)

/-- ITS FALSE NEIGHBOUR: 'it returns false'. Refute it at one input. -/
def decimalRoundTripWrong : ChangeSpec := { name := "decimalRoundTrip", fn := fun _ => fun
  | [d1, d2, d3] => { results := [.lit (.bool false)], args := [d1, d2, d3] }
  | _ => none }
def DecimalRoundTripWrongFalsely : Prop := decimalRoundTripRow.holds Try.pinned (OpenSpec.ofChange decimalRoundTripWrong)

/-- 'pontagelaw4.DecimalOrder': WHATEVER THE INPUT: true; the input reads as it did. -/
def decimalOrderSpec : ChangeSpec := { name := "decimalOrder", fn := fun _ => fun
  | [d1, d2, d3, d4] => { results := [.lit (.bool true)], args := [d1, d2, d3, d4] }
  | _ => none }
def decimalOrderRow : OpenClaim := { program := "ythikkajjnfeigaa", sum := "5d136c46ff928eab250413509a989e4720b0ca089722a27d176f3afa594a965f", func := "pontage/pontagelaw4.DecimalOrder", spec := "decimalOrder", inPlace := ["math/bits.Add64"], named := ["math/bits.divideError", "math/bits.overflowError"], apart := false }
def DecimalOrderSaid : Prop := decimalOrderRow.holds Try.pinned (OpenSpec.ofChange decimalOrderSpec)

/-- ITS FALSE NEIGHBOUR: 'it returns false'. Refute it at one input. -/
def decimalOrderWrong : ChangeSpec := { name := "decimalOrder", fn := fun _ => fun
  | [d1, d2, d3, d4] => { results := [.lit (.bool false)], args := [d1, d2, d3, d4] }
  | _ => none }
def DecimalOrderWrongFalsely : Prop := decimalOrderRow.holds Try.pinned (OpenSpec.ofChange decimalOrderWrong)

/- THE SECOND FORM. 'bulk': how many values and letters a reading holds, each counted each time it is reached (what is shared counts as often as it is met; a slice's spare places count too). A statement '..UptoSaid' is the law's where the arguments, and the package variables that the reading takes, are together of bulk at most 1048576: NARROWER than '..Said'. Prove '..Said' where nothing that the law and all that it calls make is longer than what came in: it says more and counts as full. Else prove '..UptoSaid'. A law counts once. -/
mutual
def uptoBulk {H : Type} : DataW H → Nat
  | .lit (.string bytes) => bytes.length + 1
  | .lit _ => 1
  | .nil => 1
  | .ptr d => uptoBulk d + 1
  | .slice elems spare => uptoBulkAll elems + uptoBulkAll spare + 1
  | .agg parts => uptoBulkAll parts + 1
  | .iface _ d => uptoBulk d + 1
  | .map entries => uptoBulkEntries entries + 1
  | .held _ => 1
def uptoBulkAll {H : Type} : List (DataW H) → Nat
  | [] => 0
  | d :: r => uptoBulk d + uptoBulkAll r
def uptoBulkEntries {H : Type} : List (Lit × DataW H) → Nat
  | [] => 0
  | x :: r => uptoBulkEntry x + uptoBulkEntries r
def uptoBulkEntry {H : Type} : Lit × DataW H → Nat
  | (.string bytes, d) => bytes.length + uptoBulk d + 1
  | (_, d) => uptoBulk d + 1
 end
def uptoSmall : (H : Type) → List (DataW H) → Bool := fun _ ds => decide (uptoBulkAll ds ≤ 1048576)
def OpenSpec.upto (s : _root_.Go.ChangeSpec) : _root_.Go.OpenSpec := { _root_.Go.OpenSpec.ofChange s with cond := some uptoSmall }

/-- 'pontagelaw4.DecimalParse', WHERE WHAT IT READS IS OF BULK AT MOST 1048576: true; the input reads as it did. -/
def decimalParseUptoRow : OpenClaim := { program := "ythikkajjnfeigaa", sum := "5d136c46ff928eab250413509a989e4720b0ca089722a27d176f3afa594a965f", func := "pontage/pontagelaw4.DecimalParse", spec := "decimalParse", inPlace := ["math/bits.Add64"], named := ["math/bits.divideError", "math/bits.overflowError"], apart := false, narrowed := true }
def DecimalParseUptoSaid : Prop := decimalParseUptoRow.holds Try.pinned (OpenSpec.upto decimalParseSpec)

/-- 'pontagelaw4.DecimalDigits', WHERE WHAT IT READS IS OF BULK AT MOST 1048576: true; the input reads as it did. -/
def decimalDigitsUptoRow : OpenClaim := { program := "ythikkajjnfeigaa", sum := "5d136c46ff928eab250413509a989e4720b0ca089722a27d176f3afa594a965f", func := "pontage/pontagelaw4.DecimalDigits", spec := "decimalDigits", inPlace := ["math/bits.Add64"], named := ["math/bits.divideError", "math/bits.overflowError"], apart := false, narrowed := true }
def DecimalDigitsUptoSaid : Prop := decimalDigitsUptoRow.holds Try.pinned (OpenSpec.upto decimalDigitsSpec)

/-- 'pontagelaw4.DecimalFormat', WHERE WHAT IT READS IS OF BULK AT MOST 1048576: true; the input reads as it did. -/
def decimalFormatUptoRow : OpenClaim := { program := "ythikkajjnfeigaa", sum := "5d136c46ff928eab250413509a989e4720b0ca089722a27d176f3afa594a965f", func := "pontage/pontagelaw4.DecimalFormat", spec := "decimalFormat", inPlace := ["math/bits.Add64"], named := ["math/bits.divideError", "math/bits.overflowError"], apart := false, narrowed := true }
def DecimalFormatUptoSaid : Prop := decimalFormatUptoRow.holds Try.pinned (OpenSpec.upto decimalFormatSpec)

/-- 'pontagelaw4.DecimalRoundTrip', WHERE WHAT IT READS IS OF BULK AT MOST 1048576: true; the input reads as it did. -/
def decimalRoundTripUptoRow : OpenClaim := { program := "ythikkajjnfeigaa", sum := "5d136c46ff928eab250413509a989e4720b0ca089722a27d176f3afa594a965f", func := "pontage/pontagelaw4.DecimalRoundTrip", spec := "decimalRoundTrip", inPlace := ["math/bits.Add64"], named := ["math/bits.divideError", "math/bits.overflowError"], apart := false, narrowed := true }
def DecimalRoundTripUptoSaid : Prop := decimalRoundTripUptoRow.holds Try.pinned (OpenSpec.upto decimalRoundTripSpec)

/-- 'pontagelaw4.DecimalOrder', WHERE WHAT IT READS IS OF BULK AT MOST 1048576: true; the input reads as it did. -/
def decimalOrderUptoRow : OpenClaim := { program := "ythikkajjnfeigaa", sum := "5d136c46ff928eab250413509a989e4720b0ca089722a27d176f3afa594a965f", func := "pontage/pontagelaw4.DecimalOrder", spec := "decimalOrder", inPlace := ["math/bits.Add64"], named := ["math/bits.divideError", "math/bits.overflowError"], apart := false, narrowed := true }
def DecimalOrderUptoSaid : Prop := decimalOrderUptoRow.holds Try.pinned (OpenSpec.upto decimalOrderSpec)

end Rows
end Go.Proofs.Ythikkajjnfeigaa
