/-
  No cell of these rows narrows 'for every input' (looked for: loops, veiled, ifaces, maps, wideKeys, modest, calm, conditions, laid).
  DERIVED. THE GIVEN ROWS OF THIS SEAT. 5 by the template 'for every input the law returns true; each argument reads behind the call as it read before'; 0 by the template 'total and deterministic' (their statements: YteehlkdhgjdpaaaTotals.lean).
  GIVEN WITH THE SEED: the statements are not yours to turn. If you find one false, say at which input.
  Laid BY PROGRAM, IN A SANDBOX (cutbox-rows.mjs): the forced cells as the released guide's own fill.sh prints them over the translation 974021d2d2e28ce4… (all of the seat's roots in one cut). By AI agents, Wed Nov 11 2026. No macro, syntax, notation, axiom, sorry.
-/
import Derived.Test.YteehlkdhgjdpaaaChecked
import GoSem.Claim
import GoSem.ClaimJoined
import GoSem.ClaimMapViews
import Derived.JoinedTies
import Derived.KernelRfl
namespace Go.Proofs.Yteehlkdhgjdpaaa
/- THE CELL 'sum', in the pinned program and in every row, IS THE sha256 OF THE DUMP (.gsa) THAT YteehlkdhgjdpaaaProg.lean LOADS. Nothing in Lean hashes anything: it is a label: what it is worth is what the hold of that sum in a sandbox is worth. -/
noncomputable def Try.pinned : Pinned := { name := "yteehlkdhgjdpaaa", sum := "974021d2d2e28ce492f9793e88ad954a7d6d4849af0a7f2d43cbfef6fbe116dd", checked := Try.checked }
namespace Rows
def none {H : Type} : Left H := { results := [], args := [] }

/-- 'pontagelaw5.BipsExpReference': WHATEVER THE INPUT: true; the input reads as it did. -/
def bipsExpReferenceSpec : ChangeSpec := { name := "bipsExpReference", fn := fun _ => fun
  | [d1, d2] => { results := [.lit (.bool true)], args := [d1, d2] }
  | _ => none }
def bipsExpReferenceRow : OpenClaim := { program := "yteehlkdhgjdpaaa", sum := "974021d2d2e28ce492f9793e88ad954a7d6d4849af0a7f2d43cbfef6fbe116dd", func := "pontage/pontagelaw5.BipsExpReference", spec := "bipsExpReference", inPlace := ["math/bits.Add64", "math/bits.Sub64"], apart := false }
def BipsExpReferenceSaid : Prop := bipsExpReferenceRow.holds Try.pinned (OpenSpec.ofChange bipsExpReferenceSpec)

/-- ITS FALSE NEIGHBOUR: 'it returns false'. Refute it at one input. -/
def bipsExpReferenceWrong : ChangeSpec := { name := "bipsExpReference", fn := fun _ => fun
  | [d1, d2] => { results := [.lit (.bool false)], args := [d1, d2] }
  | _ => none }
def BipsExpReferenceWrongFalsely : Prop := bipsExpReferenceRow.holds Try.pinned (OpenSpec.ofChange bipsExpReferenceWrong)

/-- 'pontagelaw5.BipsExpMonotone': WHATEVER THE INPUT: true; the input reads as it did. -/
def bipsExpMonotoneSpec : ChangeSpec := { name := "bipsExpMonotone", fn := fun _ => fun
  | [d1, d2, d3, d4] => { results := [.lit (.bool true)], args := [d1, d2, d3, d4] }
  | _ => none }
def bipsExpMonotoneRow : OpenClaim := { program := "yteehlkdhgjdpaaa", sum := "974021d2d2e28ce492f9793e88ad954a7d6d4849af0a7f2d43cbfef6fbe116dd", func := "pontage/pontagelaw5.BipsExpMonotone", spec := "bipsExpMonotone", inPlace := ["math/bits.Add64", "math/bits.Sub64"], apart := false }
def BipsExpMonotoneSaid : Prop := bipsExpMonotoneRow.holds Try.pinned (OpenSpec.ofChange bipsExpMonotoneSpec)

/-- ITS FALSE NEIGHBOUR: 'it returns false'. Refute it at one input. -/
def bipsExpMonotoneWrong : ChangeSpec := { name := "bipsExpMonotone", fn := fun _ => fun
  | [d1, d2, d3, d4] => { results := [.lit (.bool false)], args := [d1, d2, d3, d4] }
  | _ => none }
def BipsExpMonotoneWrongFalsely : Prop := bipsExpMonotoneRow.holds Try.pinned (OpenSpec.ofChange bipsExpMonotoneWrong)

/-- 'pontagelaw5.BipsScaleExp': WHATEVER THE INPUT: true; the input reads as it did. -/
def bipsScaleExpSpec : ChangeSpec := { name := "bipsScaleExp", fn := fun _ => fun
  | [d1, d2, d3, d4] => { results := [.lit (.bool true)], args := [d1, d2, d3, d4] }
  | _ => none }
def bipsScaleExpRow : OpenClaim := { program := "yteehlkdhgjdpaaa", sum := "974021d2d2e28ce492f9793e88ad954a7d6d4849af0a7f2d43cbfef6fbe116dd", func := "pontage/pontagelaw5.BipsScaleExp", spec := "bipsScaleExp", inPlace := ["math/bits.Add64", "math/bits.Sub64"], apart := false }
def BipsScaleExpSaid : Prop := bipsScaleExpRow.holds Try.pinned (OpenSpec.ofChange bipsScaleExpSpec)

/-- ITS FALSE NEIGHBOUR: 'it returns false'. Refute it at one input. -/
def bipsScaleExpWrong : ChangeSpec := { name := "bipsScaleExp", fn := fun _ => fun
  | [d1, d2, d3, d4] => { results := [.lit (.bool false)], args := [d1, d2, d3, d4] }
  | _ => none }
def BipsScaleExpWrongFalsely : Prop := bipsScaleExpRow.holds Try.pinned (OpenSpec.ofChange bipsScaleExpWrong)

/-- 'pontagelaw5.BipsSplitSum': WHATEVER THE INPUT: true; the input reads as it did. -/
def bipsSplitSumSpec : ChangeSpec := { name := "bipsSplitSum", fn := fun _ => fun
  | [d1, d2, d3] => { results := [.lit (.bool true)], args := [d1, d2, d3] }
  | _ => none }
def bipsSplitSumRow : OpenClaim := { program := "yteehlkdhgjdpaaa", sum := "974021d2d2e28ce492f9793e88ad954a7d6d4849af0a7f2d43cbfef6fbe116dd", func := "pontage/pontagelaw5.BipsSplitSum", spec := "bipsSplitSum", inPlace := ["math/bits.Add64", "math/bits.Sub64"], apart := false }
def BipsSplitSumSaid : Prop := bipsSplitSumRow.holds Try.pinned (OpenSpec.ofChange bipsSplitSumSpec)

/-- ITS FALSE NEIGHBOUR: 'it returns false'. Refute it at one input. -/
def bipsSplitSumWrong : ChangeSpec := { name := "bipsSplitSum", fn := fun _ => fun
  | [d1, d2, d3] => { results := [.lit (.bool false)], args := [d1, d2, d3] }
  | _ => none }
def BipsSplitSumWrongFalsely : Prop := bipsSplitSumRow.holds Try.pinned (OpenSpec.ofChange bipsSplitSumWrong)

/-- 'pontagelaw5.BipsAdditive': WHATEVER THE INPUT: true; the input reads as it did. -/
def bipsAdditiveSpec : ChangeSpec := { name := "bipsAdditive", fn := fun _ => fun
  | [d1, d2, d3] => { results := [.lit (.bool true)], args := [d1, d2, d3] }
  | _ => none }
def bipsAdditiveRow : OpenClaim := { program := "yteehlkdhgjdpaaa", sum := "974021d2d2e28ce492f9793e88ad954a7d6d4849af0a7f2d43cbfef6fbe116dd", func := "pontage/pontagelaw5.BipsAdditive", spec := "bipsAdditive", inPlace := ["math/bits.Add64", "math/bits.Sub64"], apart := false }
def BipsAdditiveSaid : Prop := bipsAdditiveRow.holds Try.pinned (OpenSpec.ofChange bipsAdditiveSpec)

/-- ITS FALSE NEIGHBOUR: 'it returns false'. Refute it at one input. -/
def bipsAdditiveWrong : ChangeSpec := { name := "bipsAdditive", fn := fun _ => fun
  | [d1, d2, d3] => { results := [.lit (.bool false)], args := [d1, d2, d3] }
  | _ => none }
def BipsAdditiveWrongFalsely : Prop := bipsAdditiveRow.holds Try.pinned (OpenSpec.ofChange bipsAdditiveWrong)

/- THE SECOND FORM. 'bulk': how many values and letters a reading holds, each counted each time it is reached (what is shared counts as often as it is met; a slice's spare places count too). A statement '..UptoSaid' is the law's where the arguments, and the package variables that the reading takes, are together of bulk at most 1048576: NARROWER than '..Said'. Prove '..Said' where nothing that the law and all that it calls make is longer than what came in: it says more and counts as full. Else prove '..UptoSaid'. A law counts once. -/
mutual
def uptoBulk {H : Type} : DataW H → Nat
  | .lit (.string bytes) => bytes.length + 1
  | .lit _ => 1
  | .nil => 1
  | .ptr d => uptoBulk d + 1
  | .slice elems spare => uptoBulkAll elems + uptoBulkAll spare + 1
  | .agg parts => uptoBulkAll parts + 1
  | .iface _ d => uptoBulk d + 1
  | .map entries => uptoBulkEntries entries + 1
  | .held _ => 1
def uptoBulkAll {H : Type} : List (DataW H) → Nat
  | [] => 0
  | d :: r => uptoBulk d + uptoBulkAll r
def uptoBulkEntries {H : Type} : List (Lit × DataW H) → Nat
  | [] => 0
  | x :: r => uptoBulkEntry x + uptoBulkEntries r
def uptoBulkEntry {H : Type} : Lit × DataW H → Nat
  | (.string bytes, d) => bytes.length + uptoBulk d + 1
  | (_, d) => uptoBulk d + 1
 end
def uptoSmall : (H : Type) → List (DataW H) → Bool := fun _ ds => decide (uptoBulkAll ds ≤ 1048576)
def OpenSpec.upto (s : _root_.Go.ChangeSpec) : _root_.Go.OpenSpec := { _root_.Go.OpenSpec.ofChange s with cond := some uptoSmall }

/-- 'pontagelaw5.BipsExpReference', WHERE WHAT IT READS IS OF BULK AT MOST 1048576: true; the input reads as it did. -/
def bipsExpReferenceUptoRow : OpenClaim := { program := "yteehlkdhgjdpaaa", sum := "974021d2d2e28ce492f9793e88ad954a7d6d4849af0a7f2d43cbfef6fbe116dd", func := "pontage/pontagelaw5.BipsExpReference", spec := "bipsExpReference", inPlace := ["math/bits.Add64", "math/bits.Sub64"], apart := false, narrowed := true }
def BipsExpReferenceUptoSaid : Prop := bipsExpReferenceUptoRow.holds Try.pinned (OpenSpec.upto bipsExpReferenceSpec)

/-- 'pontagelaw5.BipsExpMonotone', WHERE WHAT IT READS IS OF BULK AT MOST 1048576: true; the input reads as it did. -/
def bipsExpMonotoneUptoRow : OpenClaim := { program := "yteehlkdhgjdpaaa", sum := "974021d2d2e28ce492f9793e88ad954a7d6d4849af0a7f2d43cbfef6fbe116dd", func := "pontage/pontagelaw5.BipsExpMonotone", spec := "bipsExpMonotone", inPlace := ["math/bits.Add64", "math/bits.Sub64"], apart := false, narrowed := true }
def BipsExpMonotoneUptoSaid : Prop := bipsExpMonotoneUptoRow.holds Try.pinned (OpenSpec.upto bipsExpMonotoneSpec)

/-- 'pontagelaw5.BipsScaleExp', WHERE WHAT IT READS IS OF BULK AT MOST 1048576: true; the input reads as it did. -/
def bipsScaleExpUptoRow : OpenClaim := { program := "yteehlkdhgjdpaaa", sum := "974021d2d2e28ce492f9793e88ad954a7d6d4849af0a7f2d43cbfef6fbe116dd", func := "pontage/pontagelaw5.BipsScaleExp", spec := "bipsScaleExp", inPlace := ["math/bits.Add64", "math/bits.Sub64"], apart := false, narrowed := true }
def BipsScaleExpUptoSaid : Prop := bipsScaleExpUptoRow.holds Try.pinned (OpenSpec.upto bipsScaleExpSpec)

/-- 'pontagelaw5.BipsSplitSum', WHERE WHAT IT READS IS OF BULK AT MOST 1048576: true; the input reads as it did. -/
def bipsSplitSumUptoRow : OpenClaim := { program := "yteehlkdhgjdpaaa", sum := "974021d2d2e28ce492f9793e88ad954a7d6d4849af0a7f2d43cbfef6fbe116dd", func := "pontage/pontagelaw5.BipsSplitSum", spec := "bipsSplitSum", inPlace := ["math/bits.Add64", "math/bits.Sub64"], apart := false, narrowed := true }
def BipsSplitSumUptoSaid : Prop := bipsSplitSumUptoRow.holds Try.pinned (OpenSpec.upto bipsSplitSumSpec)

/-- 'pontagelaw5.BipsAdditive', WHERE WHAT IT READS IS OF BULK AT MOST 1048576: true; the input reads as it did. -/
def bipsAdditiveUptoRow : OpenClaim := { program := "yteehlkdhgjdpaaa", sum := "974021d2d2e28ce492f9793e88ad954a7d6d4849af0a7f2d43cbfef6fbe116dd", func := "pontage/pontagelaw5.BipsAdditive", spec := "bipsAdditive", inPlace := ["math/bits.Add64", "math/bits.Sub64"], apart := false, narrowed := true }
def BipsAdditiveUptoSaid : Prop := bipsAdditiveUptoRow.holds Try.pinned (OpenSpec.upto bipsAdditiveSpec)

end Rows
end Go.Proofs.Yteehlkdhgjdpaaa
