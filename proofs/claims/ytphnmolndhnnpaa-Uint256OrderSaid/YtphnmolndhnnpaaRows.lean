/-
  No cell of these rows narrows 'for every input' (looked for: loops, veiled, ifaces, maps, wideKeys, modest, calm, conditions, laid).
  DERIVED. THE GIVEN ROWS OF THIS SEAT. 7 by the template 'for every input the law returns true; each argument reads behind the call as it read before'; 0 by the template 'total and deterministic' (their statements: YtphnmolndhnnpaaTotals.lean).
  GIVEN WITH THE SEED: the statements are not yours to turn. If you find one false, say at which input.
  Laid BY PROGRAM, IN A SANDBOX (cutbox-rows.mjs): the forced cells as the released guide's own fill.sh prints them over the translation 279d42d179676b40… (all of the seat's roots in one cut). By AI agents, Wed Nov 11 2026. No macro, syntax, notation, axiom, sorry.
-/
import Derived.Test.YtphnmolndhnnpaaChecked
import GoSem.Claim
import GoSem.ClaimJoined
import GoSem.ClaimMapViews
import Derived.JoinedTies
import Derived.KernelRfl
namespace Go.Proofs.Ytphnmolndhnnpaa
/- THE CELL 'sum', in the pinned program and in every row, IS THE sha256 OF THE DUMP (.gsa) THAT YtphnmolndhnnpaaProg.lean LOADS. Nothing in Lean hashes anything: it is a label: what it is worth is what the hold of that sum in a sandbox is worth. -/
noncomputable def Try.pinned : Pinned := { name := "ytphnmolndhnnpaa", sum := "279d42d179676b403e36dbac1315221e2824ba45a74c3a5c1f2a4db3548070a5", checked := Try.checked }
namespace Rows
def none {H : Type} : Left H := { results := [], args := [] }

/-- 'pontagelaw1.Uint256Order': WHATEVER THE INPUT: true; the input reads as it did. -/
def uint256OrderSpec : ChangeSpec := { name := "uint256Order", fn := fun _ => fun
  | [d1, d2, d3, d4] => { results := [.lit (.bool true)], args := [d1, d2, d3, d4] }
  | _ => none }
def uint256OrderRow : OpenClaim := { program := "ytphnmolndhnnpaa", sum := "279d42d179676b403e36dbac1315221e2824ba45a74c3a5c1f2a4db3548070a5", func := "pontage/pontagelaw1.Uint256Order", spec := "uint256Order", inPlace := ["math/bits.Sub64"], apart := false }
def Uint256OrderSaid : Prop := uint256OrderRow.holds Try.pinned (OpenSpec.ofChange uint256OrderSpec)

/-- ITS FALSE NEIGHBOUR: 'it returns false'. Refute it at one input. -/
def uint256OrderWrong : ChangeSpec := { name := "uint256Order", fn := fun _ => fun
  | [d1, d2, d3, d4] => { results := [.lit (.bool false)], args := [d1, d2, d3, d4] }
  | _ => none }
def Uint256OrderWrongFalsely : Prop := uint256OrderRow.holds Try.pinned (OpenSpec.ofChange uint256OrderWrong)

/-- 'pontagelaw1.Uint256AddSub': WHATEVER THE INPUT: true; the input reads as it did. -/
def uint256AddSubSpec : ChangeSpec := { name := "uint256AddSub", fn := fun _ => fun
  | [d1, d2] => { results := [.lit (.bool true)], args := [d1, d2] }
  | _ => none }
def uint256AddSubRow : OpenClaim := { program := "ytphnmolndhnnpaa", sum := "279d42d179676b403e36dbac1315221e2824ba45a74c3a5c1f2a4db3548070a5", func := "pontage/pontagelaw1.Uint256AddSub", spec := "uint256AddSub", inPlace := ["math/bits.Add64", "math/bits.Sub64"], apart := false }
def Uint256AddSubSaid : Prop := uint256AddSubRow.holds Try.pinned (OpenSpec.ofChange uint256AddSubSpec)

/-- ITS FALSE NEIGHBOUR: 'it returns false'. Refute it at one input. -/
def uint256AddSubWrong : ChangeSpec := { name := "uint256AddSub", fn := fun _ => fun
  | [d1, d2] => { results := [.lit (.bool false)], args := [d1, d2] }
  | _ => none }
def Uint256AddSubWrongFalsely : Prop := uint256AddSubRow.holds Try.pinned (OpenSpec.ofChange uint256AddSubWrong)

/-- 'pontagelaw1.Uint256Mul': WHATEVER THE INPUT: true; the input reads as it did. -/
def uint256MulSpec : ChangeSpec := { name := "uint256Mul", fn := fun _ => fun
  | [d1, d2] => { results := [.lit (.bool true)], args := [d1, d2] }
  | _ => none }
def uint256MulRow : OpenClaim := { program := "ytphnmolndhnnpaa", sum := "279d42d179676b403e36dbac1315221e2824ba45a74c3a5c1f2a4db3548070a5", func := "pontage/pontagelaw1.Uint256Mul", spec := "uint256Mul", inPlace := ["math/bits.Add64", "math/bits.Sub64"], apart := false }
def Uint256MulSaid : Prop := uint256MulRow.holds Try.pinned (OpenSpec.ofChange uint256MulSpec)

/-- ITS FALSE NEIGHBOUR: 'it returns false'. Refute it at one input. -/
def uint256MulWrong : ChangeSpec := { name := "uint256Mul", fn := fun _ => fun
  | [d1, d2] => { results := [.lit (.bool false)], args := [d1, d2] }
  | _ => none }
def Uint256MulWrongFalsely : Prop := uint256MulRow.holds Try.pinned (OpenSpec.ofChange uint256MulWrong)

/-- 'pontagelaw1.Uint256Algebra': WHATEVER THE INPUT: true; the input reads as it did. -/
def uint256AlgebraSpec : ChangeSpec := { name := "uint256Algebra", fn := fun _ => fun
  | [d1, d2, d3] => { results := [.lit (.bool true)], args := [d1, d2, d3] }
  | _ => none }
def uint256AlgebraRow : OpenClaim := { program := "ytphnmolndhnnpaa", sum := "279d42d179676b403e36dbac1315221e2824ba45a74c3a5c1f2a4db3548070a5", func := "pontage/pontagelaw1.Uint256Algebra", spec := "uint256Algebra", inPlace := ["math/bits.Add64", "math/bits.Sub64"], apart := false }
def Uint256AlgebraSaid : Prop := uint256AlgebraRow.holds Try.pinned (OpenSpec.ofChange uint256AlgebraSpec)

/-- ITS FALSE NEIGHBOUR: 'it returns false'. Refute it at one input. -/
def uint256AlgebraWrong : ChangeSpec := { name := "uint256Algebra", fn := fun _ => fun
  | [d1, d2, d3] => { results := [.lit (.bool false)], args := [d1, d2, d3] }
  | _ => none }
def Uint256AlgebraWrongFalsely : Prop := uint256AlgebraRow.holds Try.pinned (OpenSpec.ofChange uint256AlgebraWrong)

/-- 'pontagelaw1.Uint256BitLens': WHATEVER THE INPUT: true; the input reads as it did. -/
def uint256BitLensSpec : ChangeSpec := { name := "uint256BitLens", fn := fun _ => fun
  | [d1, d2] => { results := [.lit (.bool true)], args := [d1, d2] }
  | _ => none }
def uint256BitLensRow : OpenClaim := { program := "ytphnmolndhnnpaa", sum := "279d42d179676b403e36dbac1315221e2824ba45a74c3a5c1f2a4db3548070a5", func := "pontage/pontagelaw1.Uint256BitLens", spec := "uint256BitLens", inPlace := ["math/bits.Add64", "math/bits.Sub64"], apart := false }
def Uint256BitLensSaid : Prop := uint256BitLensRow.holds Try.pinned (OpenSpec.ofChange uint256BitLensSpec)

/-- ITS FALSE NEIGHBOUR: 'it returns false'. Refute it at one input. -/
def uint256BitLensWrong : ChangeSpec := { name := "uint256BitLens", fn := fun _ => fun
  | [d1, d2] => { results := [.lit (.bool false)], args := [d1, d2] }
  | _ => none }
def Uint256BitLensWrongFalsely : Prop := uint256BitLensRow.holds Try.pinned (OpenSpec.ofChange uint256BitLensWrong)

/-- 'pontagelaw1.Uint256Boundaries': WHATEVER THE INPUT: true; the input reads as it did. -/
def uint256BoundariesSpec : ChangeSpec := { name := "uint256Boundaries", fn := fun _ => fun
  | [d1, d2, d3, d4, d5, d6] => { results := [.lit (.bool true)], args := [d1, d2, d3, d4, d5, d6] }
  | _ => none }
def uint256BoundariesRow : OpenClaim := { program := "ytphnmolndhnnpaa", sum := "279d42d179676b403e36dbac1315221e2824ba45a74c3a5c1f2a4db3548070a5", func := "pontage/pontagelaw1.Uint256Boundaries", spec := "uint256Boundaries", inPlace := ["math/bits.Add64", "math/bits.Sub64"], apart := false }
def Uint256BoundariesSaid : Prop := uint256BoundariesRow.holds Try.pinned (OpenSpec.ofChange uint256BoundariesSpec)

/-- ITS FALSE NEIGHBOUR: 'it returns false'. Refute it at one input. -/
def uint256BoundariesWrong : ChangeSpec := { name := "uint256Boundaries", fn := fun _ => fun
  | [d1, d2, d3, d4, d5, d6] => { results := [.lit (.bool false)], args := [d1, d2, d3, d4, d5, d6] }
  | _ => none }
def Uint256BoundariesWrongFalsely : Prop := uint256BoundariesRow.holds Try.pinned (OpenSpec.ofChange uint256BoundariesWrong)

/-- 'pontagelaw1.Uint256Saturating': WHATEVER THE INPUT: true; the input reads as it did. -/
def uint256SaturatingSpec : ChangeSpec := { name := "uint256Saturating", fn := fun _ => fun
  | [d1, d2] => { results := [.lit (.bool true)], args := [d1, d2] }
  | _ => none }
def uint256SaturatingRow : OpenClaim := { program := "ytphnmolndhnnpaa", sum := "279d42d179676b403e36dbac1315221e2824ba45a74c3a5c1f2a4db3548070a5", func := "pontage/pontagelaw1.Uint256Saturating", spec := "uint256Saturating", inPlace := ["math/bits.Add64", "math/bits.Sub64"], apart := false }
def Uint256SaturatingSaid : Prop := uint256SaturatingRow.holds Try.pinned (OpenSpec.ofChange uint256SaturatingSpec)

/-- ITS FALSE NEIGHBOUR: 'it returns false'. Refute it at one input. -/
def uint256SaturatingWrong : ChangeSpec := { name := "uint256Saturating", fn := fun _ => fun
  | [d1, d2] => { results := [.lit (.bool false)], args := [d1, d2] }
  | _ => none }
def Uint256SaturatingWrongFalsely : Prop := uint256SaturatingRow.holds Try.pinned (OpenSpec.ofChange uint256SaturatingWrong)

/- THE SECOND FORM. 'bulk': how many values and letters a reading holds, each counted each time it is reached (what is shared counts as often as it is met; a slice's spare places count too). A statement '..UptoSaid' is the law's where the arguments, and the package variables that the reading takes, are together of bulk at most 1048576: NARROWER than '..Said'. Prove '..Said' where nothing that the law and all that it calls make is longer than what came in: it says more and counts as full. Else prove '..UptoSaid'. A law counts once. -/
mutual
def uptoBulk {H : Type} : DataW H → Nat
  | .lit (.string bytes) => bytes.length + 1
  | .lit _ => 1
  | .nil => 1
  | .ptr d => uptoBulk d + 1
  | .slice elems spare => uptoBulkAll elems + uptoBulkAll spare + 1
  | .agg parts => uptoBulkAll parts + 1
  | .iface _ d => uptoBulk d + 1
  | .map entries => uptoBulkEntries entries + 1
  | .held _ => 1
def uptoBulkAll {H : Type} : List (DataW H) → Nat
  | [] => 0
  | d :: r => uptoBulk d + uptoBulkAll r
def uptoBulkEntries {H : Type} : List (Lit × DataW H) → Nat
  | [] => 0
  | x :: r => uptoBulkEntry x + uptoBulkEntries r
def uptoBulkEntry {H : Type} : Lit × DataW H → Nat
  | (.string bytes, d) => bytes.length + uptoBulk d + 1
  | (_, d) => uptoBulk d + 1
 end
def uptoSmall : (H : Type) → List (DataW H) → Bool := fun _ ds => decide (uptoBulkAll ds ≤ 1048576)
def OpenSpec.upto (s : _root_.Go.ChangeSpec) : _root_.Go.OpenSpec := { _root_.Go.OpenSpec.ofChange s with cond := some uptoSmall }

/-- 'pontagelaw1.Uint256Order', WHERE WHAT IT READS IS OF BULK AT MOST 1048576: true; the input reads as it did. -/
def uint256OrderUptoRow : OpenClaim := { program := "ytphnmolndhnnpaa", sum := "279d42d179676b403e36dbac1315221e2824ba45a74c3a5c1f2a4db3548070a5", func := "pontage/pontagelaw1.Uint256Order", spec := "uint256Order", inPlace := ["math/bits.Sub64"], apart := false, narrowed := true }
def Uint256OrderUptoSaid : Prop := uint256OrderUptoRow.holds Try.pinned (OpenSpec.upto uint256OrderSpec)

/-- 'pontagelaw1.Uint256AddSub', WHERE WHAT IT READS IS OF BULK AT MOST 1048576: true; the input reads as it did. -/
def uint256AddSubUptoRow : OpenClaim := { program := "ytphnmolndhnnpaa", sum := "279d42d179676b403e36dbac1315221e2824ba45a74c3a5c1f2a4db3548070a5", func := "pontage/pontagelaw1.Uint256AddSub", spec := "uint256AddSub", inPlace := ["math/bits.Add64", "math/bits.Sub64"], apart := false, narrowed := true }
def Uint256AddSubUptoSaid : Prop := uint256AddSubUptoRow.holds Try.pinned (OpenSpec.upto uint256AddSubSpec)

/-- 'pontagelaw1.Uint256Mul', WHERE WHAT IT READS IS OF BULK AT MOST 1048576: true; the input reads as it did. -/
def uint256MulUptoRow : OpenClaim := { program := "ytphnmolndhnnpaa", sum := "279d42d179676b403e36dbac1315221e2824ba45a74c3a5c1f2a4db3548070a5", func := "pontage/pontagelaw1.Uint256Mul", spec := "uint256Mul", inPlace := ["math/bits.Add64", "math/bits.Sub64"], apart := false, narrowed := true }
def Uint256MulUptoSaid : Prop := uint256MulUptoRow.holds Try.pinned (OpenSpec.upto uint256MulSpec)

/-- 'pontagelaw1.Uint256Algebra', WHERE WHAT IT READS IS OF BULK AT MOST 1048576: true; the input reads as it did. -/
def uint256AlgebraUptoRow : OpenClaim := { program := "ytphnmolndhnnpaa", sum := "279d42d179676b403e36dbac1315221e2824ba45a74c3a5c1f2a4db3548070a5", func := "pontage/pontagelaw1.Uint256Algebra", spec := "uint256Algebra", inPlace := ["math/bits.Add64", "math/bits.Sub64"], apart := false, narrowed := true }
def Uint256AlgebraUptoSaid : Prop := uint256AlgebraUptoRow.holds Try.pinned (OpenSpec.upto uint256AlgebraSpec)

/-- 'pontagelaw1.Uint256BitLens', WHERE WHAT IT READS IS OF BULK AT MOST 1048576: true; the input reads as it did. -/
def uint256BitLensUptoRow : OpenClaim := { program := "ytphnmolndhnnpaa", sum := "279d42d179676b403e36dbac1315221e2824ba45a74c3a5c1f2a4db3548070a5", func := "pontage/pontagelaw1.Uint256BitLens", spec := "uint256BitLens", inPlace := ["math/bits.Add64", "math/bits.Sub64"], apart := false, narrowed := true }
def Uint256BitLensUptoSaid : Prop := uint256BitLensUptoRow.holds Try.pinned (OpenSpec.upto uint256BitLensSpec)

/-- 'pontagelaw1.Uint256Boundaries', WHERE WHAT IT READS IS OF BULK AT MOST 1048576: true; the input reads as it did. -/
def uint256BoundariesUptoRow : OpenClaim := { program := "ytphnmolndhnnpaa", sum := "279d42d179676b403e36dbac1315221e2824ba45a74c3a5c1f2a4db3548070a5", func := "pontage/pontagelaw1.Uint256Boundaries", spec := "uint256Boundaries", inPlace := ["math/bits.Add64", "math/bits.Sub64"], apart := false, narrowed := true }
def Uint256BoundariesUptoSaid : Prop := uint256BoundariesUptoRow.holds Try.pinned (OpenSpec.upto uint256BoundariesSpec)

/-- 'pontagelaw1.Uint256Saturating', WHERE WHAT IT READS IS OF BULK AT MOST 1048576: true; the input reads as it did. -/
def uint256SaturatingUptoRow : OpenClaim := { program := "ytphnmolndhnnpaa", sum := "279d42d179676b403e36dbac1315221e2824ba45a74c3a5c1f2a4db3548070a5", func := "pontage/pontagelaw1.Uint256Saturating", spec := "uint256Saturating", inPlace := ["math/bits.Add64", "math/bits.Sub64"], apart := false, narrowed := true }
def Uint256SaturatingUptoSaid : Prop := uint256SaturatingUptoRow.holds Try.pinned (OpenSpec.upto uint256SaturatingSpec)

end Rows
end Go.Proofs.Ytphnmolndhnnpaa
