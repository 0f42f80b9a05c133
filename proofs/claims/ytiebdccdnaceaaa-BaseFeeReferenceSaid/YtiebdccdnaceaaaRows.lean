/-
  No cell of these rows narrows 'for every input' (looked for: loops, veiled, ifaces, maps, wideKeys, modest, calm, conditions, laid).
  DERIVED. THE GIVEN ROWS OF THIS SEAT. 5 by the template 'for every input the law returns true; each argument reads behind the call as it read before'; 0 by the template 'total and deterministic' (their statements: YtiebdccdnaceaaaTotals.lean).
  GIVEN WITH THE SEED: the statements are not yours to turn. If you find one false, say at which input.
  Laid BY PROGRAM, IN A SANDBOX (cutbox-rows.mjs): the forced cells as the released guide's own fill.sh prints them over the translation 76c1ff6d03756fbb… (all of the seat's roots in one cut). By AI agents, Wed Nov 11 2026. No macro, syntax, notation, axiom, sorry.
-/
import Derived.Test.YtiebdccdnaceaaaChecked
import GoSem.Claim
import GoSem.ClaimJoined
import GoSem.ClaimMapViews
import Derived.JoinedTies
import Derived.KernelRfl
namespace Go.Proofs.Ytiebdccdnaceaaa
/- THE CELL 'sum', in the pinned program and in every row, IS THE sha256 OF THE DUMP (.gsa) THAT YtiebdccdnaceaaaProg.lean LOADS. Nothing in Lean hashes anything: it is a label: what it is worth is what the hold of that sum in a sandbox is worth. -/
noncomputable def Try.pinned : Pinned := { name := "ytiebdccdnaceaaa", sum := "76c1ff6d03756fbbd1196709d59f59fd6015c31e35fea0659f50b3453b010801", checked := Try.checked }
namespace Rows
def none {H : Type} : Left H := { results := [], args := [] }

/-- 'pontagelaw14.BaseFeeReference': WHATEVER THE INPUT: true; the input reads as it did. -/
def baseFeeReferenceSpec : ChangeSpec := { name := "baseFeeReference", fn := fun _ => fun
  | [d1, d2, d3] => { results := [.lit (.bool true)], args := [d1, d2, d3] }
  | _ => none }
def baseFeeReferenceRow : OpenClaim := { program := "ytiebdccdnaceaaa", sum := "76c1ff6d03756fbbd1196709d59f59fd6015c31e35fea0659f50b3453b010801", func := "pontage/pontagelaw14.BaseFeeReference", spec := "baseFeeReference", inPlace := ["math/bits.Add64", "math/bits.Sub64"], named := ["math/bits.divideError", "math/bits.overflowError"], apart := false }
def BaseFeeReferenceSaid : Prop := baseFeeReferenceRow.holds Try.pinned (OpenSpec.ofChange baseFeeReferenceSpec)

/-- ITS FALSE NEIGHBOUR: 'it returns false'. Refute it at one input. -/
def baseFeeReferenceWrong : ChangeSpec := { name := "baseFeeReference", fn := fun _ => fun
  | [d1, d2, d3] => { results := [.lit (.bool false)], args := [d1, d2, d3] }
  | _ => none }
def BaseFeeReferenceWrongFalsely : Prop := baseFeeReferenceRow.holds Try.pinned (OpenSpec.ofChange baseFeeReferenceWrong)

/-- 'pontagelaw14.BaseFeeMonotone': WHATEVER THE INPUT: true; the input reads as it did. -/
def baseFeeMonotoneSpec : ChangeSpec := { name := "baseFeeMonotone", fn := fun _ => fun
  | [d1, d2, d3] => { results := [.lit (.bool true)], args := [d1, d2, d3] }
  | _ => none }
def baseFeeMonotoneRow : OpenClaim := { program := "ytiebdccdnaceaaa", sum := "76c1ff6d03756fbbd1196709d59f59fd6015c31e35fea0659f50b3453b010801", func := "pontage/pontagelaw14.BaseFeeMonotone", spec := "baseFeeMonotone", inPlace := ["math/bits.Add64", "math/bits.Sub64"], named := ["math/bits.divideError", "math/bits.overflowError"], apart := false }
def BaseFeeMonotoneSaid : Prop := baseFeeMonotoneRow.holds Try.pinned (OpenSpec.ofChange baseFeeMonotoneSpec)

/-- ITS FALSE NEIGHBOUR: 'it returns false'. Refute it at one input. -/
def baseFeeMonotoneWrong : ChangeSpec := { name := "baseFeeMonotone", fn := fun _ => fun
  | [d1, d2, d3] => { results := [.lit (.bool false)], args := [d1, d2, d3] }
  | _ => none }
def BaseFeeMonotoneWrongFalsely : Prop := baseFeeMonotoneRow.holds Try.pinned (OpenSpec.ofChange baseFeeMonotoneWrong)

/-- 'pontagelaw14.BaseFeeMinimum': WHATEVER THE INPUT: true; the input reads as it did. -/
def baseFeeMinimumSpec : ChangeSpec := { name := "baseFeeMinimum", fn := fun _ => fun
  | [d1, d2] => { results := [.lit (.bool true)], args := [d1, d2] }
  | _ => none }
def baseFeeMinimumRow : OpenClaim := { program := "ytiebdccdnaceaaa", sum := "76c1ff6d03756fbbd1196709d59f59fd6015c31e35fea0659f50b3453b010801", func := "pontage/pontagelaw14.BaseFeeMinimum", spec := "baseFeeMinimum", inPlace := ["math/bits.Add64", "math/bits.Sub64"], named := ["math/bits.divideError", "math/bits.overflowError"], apart := false }
def BaseFeeMinimumSaid : Prop := baseFeeMinimumRow.holds Try.pinned (OpenSpec.ofChange baseFeeMinimumSpec)

/-- ITS FALSE NEIGHBOUR: 'it returns false'. Refute it at one input. -/
def baseFeeMinimumWrong : ChangeSpec := { name := "baseFeeMinimum", fn := fun _ => fun
  | [d1, d2] => { results := [.lit (.bool false)], args := [d1, d2] }
  | _ => none }
def BaseFeeMinimumWrongFalsely : Prop := baseFeeMinimumRow.holds Try.pinned (OpenSpec.ofChange baseFeeMinimumWrong)

/-- 'pontagelaw14.BaseFeeWholeExponents': WHATEVER THE INPUT: true; the input reads as it did. -/
def baseFeeWholeExponentsSpec : ChangeSpec := { name := "baseFeeWholeExponents", fn := fun _ => fun
  | [d1, d2] => { results := [.lit (.bool true)], args := [d1, d2] }
  | _ => none }
def baseFeeWholeExponentsRow : OpenClaim := { program := "ytiebdccdnaceaaa", sum := "76c1ff6d03756fbbd1196709d59f59fd6015c31e35fea0659f50b3453b010801", func := "pontage/pontagelaw14.BaseFeeWholeExponents", spec := "baseFeeWholeExponents", inPlace := ["math/bits.Add64", "math/bits.Sub64"], named := ["math/bits.divideError", "math/bits.overflowError"], apart := false }
def BaseFeeWholeExponentsSaid : Prop := baseFeeWholeExponentsRow.holds Try.pinned (OpenSpec.ofChange baseFeeWholeExponentsSpec)

/-- ITS FALSE NEIGHBOUR: 'it returns false'. Refute it at one input. -/
def baseFeeWholeExponentsWrong : ChangeSpec := { name := "baseFeeWholeExponents", fn := fun _ => fun
  | [d1, d2] => { results := [.lit (.bool false)], args := [d1, d2] }
  | _ => none }
def BaseFeeWholeExponentsWrongFalsely : Prop := baseFeeWholeExponentsRow.holds Try.pinned (OpenSpec.ofChange baseFeeWholeExponentsWrong)

/-- 'pontagelaw14.BasefeeMonotone': WHATEVER THE INPUT: true; the input reads as it did. -/
def basefeeMonotoneSpec : ChangeSpec := { name := "basefeeMonotone", fn := fun _ => fun
  | [d1, d2, d3] => { results := [.lit (.bool true)], args := [d1, d2, d3] }
  | _ => none }
def basefeeMonotoneRow : OpenClaim := { program := "ytiebdccdnaceaaa", sum := "76c1ff6d03756fbbd1196709d59f59fd6015c31e35fea0659f50b3453b010801", func := "pontage/pontagelaw14.BasefeeMonotone", spec := "basefeeMonotone", inPlace := ["math/bits.Add64", "math/bits.Sub64"], named := ["math/bits.divideError", "math/bits.overflowError"], apart := false }
def BasefeeMonotoneSaid : Prop := basefeeMonotoneRow.holds Try.pinned (OpenSpec.ofChange basefeeMonotoneSpec)

/-- ITS FALSE NEIGHBOUR: 'it returns false'. Refute it at one input. -/
def basefeeMonotoneWrong : ChangeSpec := { name := "basefeeMonotone", fn := fun _ => fun
  | [d1, d2, d3] => { results := [.lit (.bool false)], args := [d1, d2, d3] }
  | _ => none }
def BasefeeMonotoneWrongFalsely : Prop := basefeeMonotoneRow.holds Try.pinned (OpenSpec.ofChange basefeeMonotoneWrong)

/- THE SECOND FORM. 'bulk': how many values and letters a reading holds, each counted each time it is reached (what is shared counts as often as it is met; a slice's spare places count too). A statement '..UptoSaid' is the law's where the arguments, and the package variables that the reading takes, are together of bulk at most 1048576: NARROWER than '..Said'. Prove '..Said' where nothing that the law and all that it calls make is longer than what came in: it says more and counts as full. Else prove '..UptoSaid'. A law counts once. -/
mutual
def uptoBulk {H : Type} : DataW H → Nat
  | .lit (.string bytes) => bytes.length + 1
  | .lit _ => 1
  | .nil => 1
  | .ptr d => uptoBulk d + 1
  | .slice elems spare => uptoBulkAll elems + uptoBulkAll spare + 1
  | .agg parts => uptoBulkAll parts + 1
  | .iface _ d => uptoBulk d + 1
  | .map entries => uptoBulkEntries entries + 1
  | .held _ => 1
def uptoBulkAll {H : Type} : List (DataW H) → Nat
  | [] => 0
  | d :: r => uptoBulk d + uptoBulkAll r
def uptoBulkEntries {H : Type} : List (Lit × DataW H) → Nat
  | [] => 0
  | x :: r => uptoBulkEntry x + uptoBulkEntries r
def uptoBulkEntry {H : Type} : Lit × DataW H → Nat
  | (.string bytes, d) => bytes.length + uptoBulk d + 1
  | (_, d) => uptoBulk d + 1
 end
def uptoSmall : (H : Type) → List (DataW H) → Bool := fun _ ds => decide (uptoBulkAll ds ≤ 1048576)
def OpenSpec.upto (s : _root_.Go.ChangeSpec) : _root_.Go.OpenSpec := { _root_.Go.OpenSpec.ofChange s with cond := some uptoSmall }

/-- 'pontagelaw14.BaseFeeReference', WHERE WHAT IT READS IS OF BULK AT MOST 1048576: true; the input reads as it did. -/
def baseFeeReferenceUptoRow : OpenClaim := { program := "ytiebdccdnaceaaa", sum := "76c1ff6d03756fbbd1196709d59f59fd6015c31e35fea0659f50b3453b010801", func := "pontage/pontagelaw14.BaseFeeReference", spec := "baseFeeReference", inPlace := ["math/bits.Add64", "math/bits.Sub64"], named := ["math/bits.divideError", "math/bits.overflowError"], apart := false, narrowed := true }
def BaseFeeReferenceUptoSaid : Prop := baseFeeReferenceUptoRow.holds Try.pinned (OpenSpec.upto baseFeeReferenceSpec)

/-- 'pontagelaw14.BaseFeeMonotone', WHERE WHAT IT READS IS OF BULK AT MOST 1048576: true; the input reads as it did. -/
def baseFeeMonotoneUptoRow : OpenClaim := { program := "ytiebdccdnaceaaa", sum := "76c1ff6d03756fbbd1196709d59f59fd6015c31e35fea0659f50b3453b010801", func := "pontage/pontagelaw14.BaseFeeMonotone", spec := "baseFeeMonotone", inPlace := ["math/bits.Add64", "math/bits.Sub64"], named := ["math/bits.divideError", "math/bits.overflowError"], apart := false, narrowed := true }
def BaseFeeMonotoneUptoSaid : Prop := baseFeeMonotoneUptoRow.holds Try.pinned (OpenSpec.upto baseFeeMonotoneSpec)

/-- 'pontagelaw14.BaseFeeMinimum', WHERE WHAT IT READS IS OF BULK AT MOST 1048576: true; the input reads as it did. -/
def baseFeeMinimumUptoRow : OpenClaim := { program := "ytiebdccdnaceaaa", sum := "76c1ff6d03756fbbd1196709d59f59fd6015c31e35fea0659f50b3453b010801", func := "pontage/pontagelaw14.BaseFeeMinimum", spec := "baseFeeMinimum", inPlace := ["math/bits.Add64", "math/bits.Sub64"], named := ["math/bits.divideError", "math/bits.overflowError"], apart := false, narrowed := true }
def BaseFeeMinimumUptoSaid : Prop := baseFeeMinimumUptoRow.holds Try.pinned (OpenSpec.upto baseFeeMinimumSpec)

/-- 'pontagelaw14.BaseFeeWholeExponents', WHERE WHAT IT READS IS OF BULK AT MOST 1048576: true; the input reads as it did. -/
def baseFeeWholeExponentsUptoRow : OpenClaim := { program := "ytiebdccdnaceaaa", sum := "76c1ff6d03756fbbd1196709d59f59fd6015c31e35fea0659f50b3453b010801", func := "pontage/pontagelaw14.BaseFeeWholeExponents", spec := "baseFeeWholeExponents", inPlace := ["math/bits.Add64", "math/bits.Sub64"], named := ["math/bits.divideError", "math/bits.overflowError"], apart := false, narrowed := true }
def BaseFeeWholeExponentsUptoSaid : Prop := baseFeeWholeExponentsUptoRow.holds Try.pinned (OpenSpec.upto baseFeeWholeExponentsSpec)

/-- 'pontagelaw14.BasefeeMonotone', WHERE WHAT IT READS IS OF BULK AT MOST 1048576: true; the input reads as it did. -/
def basefeeMonotoneUptoRow : OpenClaim := { program := "ytiebdccdnaceaaa", sum := "76c1ff6d03756fbbd1196709d59f59fd6015c31e35fea0659f50b3453b010801", func := "pontage/pontagelaw14.BasefeeMonotone", spec := "basefeeMonotone", inPlace := ["math/bits.Add64", "math/bits.Sub64"], named := ["math/bits.divideError", "math/bits.overflowError"], apart := false, narrowed := true }
def BasefeeMonotoneUptoSaid : Prop := basefeeMonotoneUptoRow.holds Try.pinned (OpenSpec.upto basefeeMonotoneSpec)

end Rows
end Go.Proofs.Ytiebdccdnaceaaa
