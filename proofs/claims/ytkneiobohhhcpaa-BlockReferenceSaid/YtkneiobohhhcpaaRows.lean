/-
  No cell of these rows narrows 'for every input' (looked for: loops, veiled, ifaces, maps, wideKeys, modest, calm, conditions, laid).
  DERIVED. THE GIVEN ROWS OF THIS SEAT. 3 by the template 'for every input the law returns true; each argument reads behind the call as it read before'; 0 by the template 'total and deterministic' (their statements: YtkneiobohhhcpaaTotals.lean).
  GIVEN WITH THE SEED: the statements are not yours to turn. If you find one false, say at which input.
  Laid BY PROGRAM, IN A SANDBOX (cutbox-rows.mjs): the forced cells as the released guide's own fill.sh prints them over the translation 09edb90572dadabb… (all of the seat's roots in one cut). By AI agents, Wed Nov 11 2026. No macro, syntax, notation, axiom, sorry.
-/
import Derived.Test.YtkneiobohhhcpaaChecked
import GoSem.Claim
import GoSem.ClaimJoined
import GoSem.ClaimMapViews
import Derived.JoinedTies
import Derived.KernelRfl
namespace Go.Proofs.Ytkneiobohhhcpaa
/- THE CELL 'sum', in the pinned program and in every row, IS THE sha256 OF THE DUMP (.gsa) THAT YtkneiobohhhcpaaProg.lean LOADS. Nothing in Lean hashes anything: it is a label: what it is worth is what the hold of that sum in a sandbox is worth. -/
noncomputable def Try.pinned : Pinned := { name := "ytkneiobohhhcpaa", sum := "09edb90572dadabbb3e8bd56367ab8ebc7c42b69a22d05fb6c15d451d4134916", checked := Try.checked }
namespace Rows
def none {H : Type} : Left H := { results := [], args := [] }

/-- 'pontagelaw15.BlockSplitUse': WHATEVER THE INPUT: true; the input reads as it did. -/
def blockSplitUseSpec : ChangeSpec := { name := "blockSplitUse", fn := fun _ => fun
  | [d1, d2, d3, d4] => { results := [.lit (.bool true)], args := [d1, d2, d3, d4] }
  | _ => none }
def blockSplitUseRow : OpenClaim := { program := "ytkneiobohhhcpaa", sum := "09edb90572dadabbb3e8bd56367ab8ebc7c42b69a22d05fb6c15d451d4134916", func := "pontage/pontagelaw15.BlockSplitUse", spec := "blockSplitUse", inPlace := ["math/bits.Add64", "math/bits.Sub64"], named := ["math/bits.divideError", "math/bits.overflowError"], apart := false }
def BlockSplitUseSaid : Prop := blockSplitUseRow.holds Try.pinned (OpenSpec.ofChange blockSplitUseSpec)

/-- ITS FALSE NEIGHBOUR: 'it returns false'. Refute it at one input. -/
def blockSplitUseWrong : ChangeSpec := { name := "blockSplitUse", fn := fun _ => fun
  | [d1, d2, d3, d4] => { results := [.lit (.bool false)], args := [d1, d2, d3, d4] }
  | _ => none }
def BlockSplitUseWrongFalsely : Prop := blockSplitUseRow.holds Try.pinned (OpenSpec.ofChange blockSplitUseWrong)

/-- 'pontagelaw15.BlockReference': WHATEVER THE INPUT: true; the input reads as it did. -/
def blockReferenceSpec : ChangeSpec := { name := "blockReference", fn := fun _ => fun
  | [d1, d2, d3, d4, d5, d6] => { results := [.lit (.bool true)], args := [d1, d2, d3, d4, d5, d6] }
  | _ => none }
def blockReferenceRow : OpenClaim := { program := "ytkneiobohhhcpaa", sum := "09edb90572dadabbb3e8bd56367ab8ebc7c42b69a22d05fb6c15d451d4134916", func := "pontage/pontagelaw15.BlockReference", spec := "blockReference", inPlace := ["math/bits.Add64", "math/bits.Sub64"], named := ["math/bits.divideError", "math/bits.overflowError"], apart := false }
def BlockReferenceSaid : Prop := blockReferenceRow.holds Try.pinned (OpenSpec.ofChange blockReferenceSpec)

/-- ITS FALSE NEIGHBOUR: 'it returns false'. Refute it at one input. -/
def blockReferenceWrong : ChangeSpec := { name := "blockReference", fn := fun _ => fun
  | [d1, d2, d3, d4, d5, d6] => { results := [.lit (.bool false)], args := [d1, d2, d3, d4, d5, d6] }
  | _ => none }
def BlockReferenceWrongFalsely : Prop := blockReferenceRow.holds Try.pinned (OpenSpec.ofChange blockReferenceWrong)

/-- 'pontagelaw15.BlockOverflow': WHATEVER THE INPUT: true; the input reads as it did. -/
def blockOverflowSpec : ChangeSpec := { name := "blockOverflow", fn := fun _ => fun
  | [d1, d2, d3] => { results := [.lit (.bool true)], args := [d1, d2, d3] }
  | _ => none }
def blockOverflowRow : OpenClaim := { program := "ytkneiobohhhcpaa", sum := "09edb90572dadabbb3e8bd56367ab8ebc7c42b69a22d05fb6c15d451d4134916", func := "pontage/pontagelaw15.BlockOverflow", spec := "blockOverflow", inPlace := ["math/bits.Add64", "math/bits.Sub64"], named := ["math/bits.divideError", "math/bits.overflowError"], apart := false }
def BlockOverflowSaid : Prop := blockOverflowRow.holds Try.pinned (OpenSpec.ofChange blockOverflowSpec)

/-- ITS FALSE NEIGHBOUR: 'it returns false'. Refute it at one input. -/
def blockOverflowWrong : ChangeSpec := { name := "blockOverflow", fn := fun _ => fun
  | [d1, d2, d3] => { results := [.lit (.bool false)], args := [d1, d2, d3] }
  | _ => none }
def BlockOverflowWrongFalsely : Prop := blockOverflowRow.holds Try.pinned (OpenSpec.ofChange blockOverflowWrong)

/- THE SECOND FORM. 'bulk': how many values and letters a reading holds, each counted each time it is reached (what is shared counts as often as it is met; a slice's spare places count too). A statement '..UptoSaid' is the law's where the arguments, and the package variables that the reading takes, are together of bulk at most 1048576: NARROWER than '..Said'. Prove '..Said' where nothing that the law and all that it calls make is longer than what came in: it says more and counts as full. Else prove '..UptoSaid'. A law counts once. -/
mutual
def uptoBulk {H : Type} : DataW H → Nat
  | .lit (.string bytes) => bytes.length + 1
  | .lit _ => 1
  | .nil => 1
  | .ptr d => uptoBulk d + 1
  | .slice elems spare => uptoBulkAll elems + uptoBulkAll spare + 1
  | .agg parts => uptoBulkAll parts + 1
  | .iface _ d => uptoBulk d + 1
  | .map entries => uptoBulkEntries entries + 1
  | .held _ => 1
def uptoBulkAll {H : Type} : List (DataW H) → Nat
  | [] => 0
  | d :: r => uptoBulk d + uptoBulkAll r
def uptoBulkEntries {H : Type} : List (Lit × DataW H) → Nat
  | [] => 0
  | x :: r => uptoBulkEntry x + uptoBulkEntries r
def uptoBulkEntry {H : Type} : Lit × DataW H → Nat
  | (.string bytes, d) => bytes.length + uptoBulk d + 1
  | (_, d) => uptoBulk d + 1
 end
def uptoSmall : (H : Type) → List (DataW H) → Bool := fun _ ds => decide (uptoBulkAll ds ≤ 1048576)
def OpenSpec.upto (s : _root_.Go.ChangeSpec) : _root_.Go.OpenSpec := { _root_.Go.OpenSpec.ofChange s with cond := some uptoSmall }

/-- 'pontagelaw15.BlockSplitUse', WHERE WHAT IT READS IS OF BULK AT MOST 1048576: true; the input reads as it did. -/
def blockSplitUseUptoRow : OpenClaim := { program := "ytkneiobohhhcpaa", sum := "09edb90572dadabbb3e8bd56367ab8ebc7c42b69a22d05fb6c15d451d4134916", func := "pontage/pontagelaw15.BlockSplitUse", spec := "blockSplitUse", inPlace := ["math/bits.Add64", "math/bits.Sub64"], named := ["math/bits.divideError", "math/bits.overflowError"], apart := false, narrowed := true }
def BlockSplitUseUptoSaid : Prop := blockSplitUseUptoRow.holds Try.pinned (OpenSpec.upto blockSplitUseSpec)

/-- 'pontagelaw15.BlockReference', WHERE WHAT IT READS IS OF BULK AT MOST 1048576: true; the input reads as it did. -/
def blockReferenceUptoRow : OpenClaim := { program := "ytkneiobohhhcpaa", sum := "09edb90572dadabbb3e8bd56367ab8ebc7c42b69a22d05fb6c15d451d4134916", func := "pontage/pontagelaw15.BlockReference", spec := "blockReference", inPlace := ["math/bits.Add64", "math/bits.Sub64"], named := ["math/bits.divideError", "math/bits.overflowError"], apart := false, narrowed := true }
def BlockReferenceUptoSaid : Prop := blockReferenceUptoRow.holds Try.pinned (OpenSpec.upto blockReferenceSpec)

/-- 'pontagelaw15.BlockOverflow', WHERE WHAT IT READS IS OF BULK AT MOST 1048576: true; the input reads as it did. -/
def blockOverflowUptoRow : OpenClaim := { program := "ytkneiobohhhcpaa", sum := "09edb90572dadabbb3e8bd56367ab8ebc7c42b69a22d05fb6c15d451d4134916", func := "pontage/pontagelaw15.BlockOverflow", spec := "blockOverflow", inPlace := ["math/bits.Add64", "math/bits.Sub64"], named := ["math/bits.divideError", "math/bits.overflowError"], apart := false, narrowed := true }
def BlockOverflowUptoSaid : Prop := blockOverflowUptoRow.holds Try.pinned (OpenSpec.upto blockOverflowSpec)

end Rows
end Go.Proofs.Ytkneiobohhhcpaa
