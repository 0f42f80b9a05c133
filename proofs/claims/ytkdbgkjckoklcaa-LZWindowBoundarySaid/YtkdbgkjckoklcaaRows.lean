/-
  No cell of these rows narrows 'for every input' (looked for: loops, veiled, ifaces, maps, wideKeys, modest, calm, conditions, laid).
  DERIVED. THE GIVEN ROWS OF THIS SEAT. 8 by the template 'for every input the law returns true; each argument reads behind the call as it read before'; 0 by the template 'total and deterministic' (their statements: YtkdbgkjckoklcaaTotals.lean).
  GIVEN WITH THE SEED: the statements are not yours to turn. If you find one false, say at which input.
  Laid BY PROGRAM, IN A SANDBOX (cutbox-rows.mjs): the forced cells as the released guide's own fill.sh prints them over the translation e72e33f7aa6e692b… (all of the seat's roots in one cut). By AI agents, Wed Nov 11 2026. No macro, syntax, notation, axiom, sorry.
-/
import Derived.Test.YtkdbgkjckoklcaaChecked
import GoSem.Claim
import GoSem.ClaimJoined
import GoSem.ClaimMapViews
import Derived.JoinedTies
import Derived.KernelRfl
namespace Go.Proofs.Ytkdbgkjckoklcaa
/- THE CELL 'sum', in the pinned program and in every row, IS THE sha256 OF THE DUMP (.gsa) THAT YtkdbgkjckoklcaaProg.lean LOADS. Nothing in Lean hashes anything: it is a label: what it is worth is what the hold of that sum in a sandbox is worth. -/
noncomputable def Try.pinned : Pinned := { name := "ytkdbgkjckoklcaa", sum := "e72e33f7aa6e692b12a0e5179b6e50846bfa2fc4830fa60679d0f6047e758768", checked := Try.checked }
namespace Rows
def none {H : Type} : Left H := { results := [], args := [] }

/-- 'pontagelaw9.LZCompress': WHATEVER THE INPUT: true; the input reads as it did. -/
def lZCompressSpec : ChangeSpec := { name := "lZCompress", fn := fun _ => fun
  | [d] => { results := [.lit (.bool true)], args := [d] }
  | _ => none }
def lZCompressRow : OpenClaim := { program := "ytkdbgkjckoklcaa", sum := "e72e33f7aa6e692b12a0e5179b6e50846bfa2fc4830fa60679d0f6047e758768", func := "pontage/pontagelaw9.LZCompress", spec := "lZCompress", apart := false }
def LZCompressSaid : Prop := lZCompressRow.holds Try.pinned (OpenSpec.ofChange lZCompressSpec)

/-- ITS FALSE NEIGHBOUR: 'it returns false'. Refute it at one input. -/
def lZCompressWrong : ChangeSpec := { name := "lZCompress", fn := fun _ => fun
  | [d] => { results := [.lit (.bool false)], args := [d] }
  | _ => none }
def LZCompressWrongFalsely : Prop := lZCompressRow.holds Try.pinned (OpenSpec.ofChange lZCompressWrong)

/-- 'pontagelaw9.LZCompressRepetitive': WHATEVER THE INPUT: true; the input reads as it did. -/
def lZCompressRepetitiveSpec : ChangeSpec := { name := "lZCompressRepetitive", fn := fun _ => fun
  | [d] => { results := [.lit (.bool true)], args := [d] }
  | _ => none }
def lZCompressRepetitiveRow : OpenClaim := { program := "ytkdbgkjckoklcaa", sum := "e72e33f7aa6e692b12a0e5179b6e50846bfa2fc4830fa60679d0f6047e758768", func := "pontage/pontagelaw9.LZCompressRepetitive", spec := "lZCompressRepetitive", apart := false }
def LZCompressRepetitiveSaid : Prop := lZCompressRepetitiveRow.holds Try.pinned (OpenSpec.ofChange lZCompressRepetitiveSpec)

/-- ITS FALSE NEIGHBOUR: 'it returns false'. Refute it at one input. -/
def lZCompressRepetitiveWrong : ChangeSpec := { name := "lZCompressRepetitive", fn := fun _ => fun
  | [d] => { results := [.lit (.bool false)], args := [d] }
  | _ => none }
def LZCompressRepetitiveWrongFalsely : Prop := lZCompressRepetitiveRow.holds Try.pinned (OpenSpec.ofChange lZCompressRepetitiveWrong)

/-- 'pontagelaw9.LZDecompress': WHATEVER THE INPUT: true; the input reads as it did. -/
def lZDecompressSpec : ChangeSpec := { name := "lZDecompress", fn := fun _ => fun
  | [d1, d2, d3, d4] => { results := [.lit (.bool true)], args := [d1, d2, d3, d4] }
  | _ => none }
def lZDecompressRow : OpenClaim := { program := "ytkdbgkjckoklcaa", sum := "e72e33f7aa6e692b12a0e5179b6e50846bfa2fc4830fa60679d0f6047e758768", func := "pontage/pontagelaw9.LZDecompress", spec := "lZDecompress", apart := false }
def LZDecompressSaid : Prop := lZDecompressRow.holds Try.pinned (OpenSpec.ofChange lZDecompressSpec)

/-- ITS FALSE NEIGHBOUR: 'it returns false'. Refute it at one input. -/
def lZDecompressWrong : ChangeSpec := { name := "lZDecompress", fn := fun _ => fun
  | [d1, d2, d3, d4] => { results := [.lit (.bool false)], args := [d1, d2, d3, d4] }
  | _ => none }
def LZDecompressWrongFalsely : Prop := lZDecompressRow.holds Try.pinned (OpenSpec.ofChange lZDecompressWrong)

/-- 'pontagelaw9.LZRoundTrip': WHATEVER THE INPUT: true; the input reads as it did. -/
def lZRoundTripSpec : ChangeSpec := { name := "lZRoundTrip", fn := fun _ => fun
  | [d] => { results := [.lit (.bool true)], args := [d] }
  | _ => none }
def lZRoundTripRow : OpenClaim := { program := "ytkdbgkjckoklcaa", sum := "e72e33f7aa6e692b12a0e5179b6e50846bfa2fc4830fa60679d0f6047e758768", func := "pontage/pontagelaw9.LZRoundTrip", spec := "lZRoundTrip", apart := false }
def LZRoundTripSaid : Prop := lZRoundTripRow.holds Try.pinned (OpenSpec.ofChange lZRoundTripSpec)

/-- ITS FALSE NEIGHBOUR: 'it returns false'. Refute it at one input. -/
def lZRoundTripWrong : ChangeSpec := { name := "lZRoundTrip", fn := fun _ => fun
  | [d] => { results := [.lit (.bool false)], args := [d] }
  | _ => none }
def LZRoundTripWrongFalsely : Prop := lZRoundTripRow.holds Try.pinned (OpenSpec.ofChange lZRoundTripWrong)

/-- 'pontagelaw9.LZRunLength': WHATEVER THE INPUT: true; the input reads as it did. -/
def lZRunLengthSpec : ChangeSpec := { name := "lZRunLength", fn := fun _ => fun
  | [d1, d2] => { results := [.lit (.bool true)], args := [d1, d2] }
  | _ => none }
def lZRunLengthRow : OpenClaim := { program := "ytkdbgkjckoklcaa", sum := "e72e33f7aa6e692b12a0e5179b6e50846bfa2fc4830fa60679d0f6047e758768", func := "pontage/pontagelaw9.LZRunLength", spec := "lZRunLength", apart := false }
def LZRunLengthSaid : Prop := lZRunLengthRow.holds Try.pinned (OpenSpec.ofChange lZRunLengthSpec)

/-- ITS FALSE NEIGHBOUR: 'it returns false'. Refute it at one input. -/
def lZRunLengthWrong : ChangeSpec := { name := "lZRunLength", fn := fun _ => fun
  | [d1, d2] => { results := [.lit (.bool false)], args := [d1, d2] }
  | _ => none }
def LZRunLengthWrongFalsely : Prop := lZRunLengthRow.holds Try.pinned (OpenSpec.ofChange lZRunLengthWrong)

/-- 'pontagelaw9.LZWindowBoundary': WHATEVER THE INPUT: true; the input reads as it did. -/
def lZWindowBoundarySpec : ChangeSpec := { name := "lZWindowBoundary", fn := fun _ => fun
  | [d1, d2] => { results := [.lit (.bool true)], args := [d1, d2] }
  | _ => none }
def lZWindowBoundaryRow : OpenClaim := { program := "ytkdbgkjckoklcaa", sum := "e72e33f7aa6e692b12a0e5179b6e50846bfa2fc4830fa60679d0f6047e758768", func := "pontage/pontagelaw9.LZWindowBoundary", spec := "lZWindowBoundary", apart := false }
def LZWindowBoundarySaid : Prop := lZWindowBoundaryRow.holds Try.pinned (OpenSpec.ofChange lZWindowBoundarySpec)

/-- ITS FALSE NEIGHBOUR: 'it returns false'. Refute it at one input. -/
def lZWindowBoundaryWrong : ChangeSpec := { name := "lZWindowBoundary", fn := fun _ => fun
  | [d1, d2] => { results := [.lit (.bool false)], args := [d1, d2] }
  | _ => none }
def LZWindowBoundaryWrongFalsely : Prop := lZWindowBoundaryRow.holds Try.pinned (OpenSpec.ofChange lZWindowBoundaryWrong)

/-- 'pontagelaw9.LZDecompressLimit': WHATEVER THE INPUT: true; the input reads as it did. -/
def lZDecompressLimitSpec : ChangeSpec := { name := "lZDecompressLimit", fn := fun _ => fun
  | [d1, d2, d3, d4] => { results := [.lit (.bool true)], args := [d1, d2, d3, d4] }
  | _ => none }
def lZDecompressLimitRow : OpenClaim := { program := "ytkdbgkjckoklcaa", sum := "e72e33f7aa6e692b12a0e5179b6e50846bfa2fc4830fa60679d0f6047e758768", func := "pontage/pontagelaw9.LZDecompressLimit", spec := "lZDecompressLimit", apart := false }
def LZDecompressLimitSaid : Prop := lZDecompressLimitRow.holds Try.pinned (OpenSpec.ofChange lZDecompressLimitSpec)

/-- ITS FALSE NEIGHBOUR: 'it returns false'. Refute it at one input. -/
def lZDecompressLimitWrong : ChangeSpec := { name := "lZDecompressLimit", fn := fun _ => fun
  | [d1, d2, d3, d4] => { results := [.lit (.bool false)], args := [d1, d2, d3, d4] }
  | _ => none }
def LZDecompressLimitWrongFalsely : Prop := lZDecompressLimitRow.holds Try.pinned (OpenSpec.ofChange lZDecompressLimitWrong)

/-- 'pontagelaw9.LZConcatenation': WHATEVER THE INPUT: true; the input reads as it did. -/
def lZConcatenationSpec : ChangeSpec := { name := "lZConcatenation", fn := fun _ => fun
  | [d1, d2] => { results := [.lit (.bool true)], args := [d1, d2] }
  | _ => none }
def lZConcatenationRow : OpenClaim := { program := "ytkdbgkjckoklcaa", sum := "e72e33f7aa6e692b12a0e5179b6e50846bfa2fc4830fa60679d0f6047e758768", func := "pontage/pontagelaw9.LZConcatenation", spec := "lZConcatenation", apart := false }
def LZConcatenationSaid : Prop := lZConcatenationRow.holds Try.pinned (OpenSpec.ofChange lZConcatenationSpec)

/-- ITS FALSE NEIGHBOUR: 'it returns false'. Refute it at one input. -/
def lZConcatenationWrong : ChangeSpec := { name := "lZConcatenation", fn := fun _ => fun
  | [d1, d2] => { results := [.lit (.bool false)], args := [d1, d2] }
  | _ => none }
def LZConcatenationWrongFalsely : Prop := lZConcatenationRow.holds Try.pinned (OpenSpec.ofChange lZConcatenationWrong)

/- THE SECOND FORM. 'bulk': how many values and letters a reading holds, each counted each time it is reached (what is shared counts as often as it is met; a slice's spare places count too). A statement '..UptoSaid' is the law's where the arguments, and the package variables that the reading takes, are together of bulk at most 1048576: NARROWER than '..Said'. Prove '..Said' where nothing that the law and all that it calls make is longer than what came in: it says more and counts as full. Else prove '..UptoSaid'. A law counts once. -/
mutual
def uptoBulk {H : Type} : DataW H → Nat
  | .lit (.string bytes) => bytes.length + 1
  | .lit _ => 1
  | .nil => 1
  | .ptr d => uptoBulk d + 1
  | .slice elems spare => uptoBulkAll elems + uptoBulkAll spare + 1
  | .agg parts => uptoBulkAll parts + 1
  | .iface _ d => uptoBulk d + 1
  | .map entries => uptoBulkEntries entries + 1
  | .held _ => 1
def uptoBulkAll {H : Type} : List (DataW H) → Nat
  | [] => 0
  | d :: r => uptoBulk d + uptoBulkAll r
def uptoBulkEntries {H : Type} : List (Lit × DataW H) → Nat
  | [] => 0
  | x :: r => uptoBulkEntry x + uptoBulkEntries r
def uptoBulkEntry {H : Type} : Lit × DataW H → Nat
  | (.string bytes, d) => bytes.length + uptoBulk d + 1
  | (_, d) => uptoBulk d + 1
 end
def uptoSmall : (H : Type) → List (DataW H) → Bool := fun _ ds => decide (uptoBulkAll ds ≤ 1048576)
def OpenSpec.upto (s : _root_.Go.ChangeSpec) : _root_.Go.OpenSpec := { _root_.Go.OpenSpec.ofChange s with cond := some uptoSmall }

/-- 'pontagelaw9.LZCompress', WHERE WHAT IT READS IS OF BULK AT MOST 1048576: true; the input reads as it did. -/
def lZCompressUptoRow : OpenClaim := { program := "ytkdbgkjckoklcaa", sum := "e72e33f7aa6e692b12a0e5179b6e50846bfa2fc4830fa60679d0f6047e758768", func := "pontage/pontagelaw9.LZCompress", spec := "lZCompress", apart := false, narrowed := true }
def LZCompressUptoSaid : Prop := lZCompressUptoRow.holds Try.pinned (OpenSpec.upto lZCompressSpec)

/-- 'pontagelaw9.LZCompressRepetitive', WHERE WHAT IT READS IS OF BULK AT MOST 1048576: true; the input reads as it did. -/
def lZCompressRepetitiveUptoRow : OpenClaim := { program := "ytkdbgkjckoklcaa", sum := "e72e33f7aa6e692b12a0e5179b6e50846bfa2fc4830fa60679d0f6047e758768", func := "pontage/pontagelaw9.LZCompressRepetitive", spec := "lZCompressRepetitive", apart := false, narrowed := true }
def LZCompressRepetitiveUptoSaid : Prop := lZCompressRepetitiveUptoRow.holds Try.pinned (OpenSpec.upto lZCompressRepetitiveSpec)

/-- 'pontagelaw9.LZDecompress', WHERE WHAT IT READS IS OF BULK AT MOST 1048576: true; the input reads as it did. -/
def lZDecompressUptoRow : OpenClaim := { program := "ytkdbgkjckoklcaa", sum := "e72e33f7aa6e692b12a0e5179b6e50846bfa2fc4830fa60679d0f6047e758768", func := "pontage/pontagelaw9.LZDecompress", spec := "lZDecompress", apart := false, narrowed := true }
def LZDecompressUptoSaid : Prop := lZDecompressUptoRow.holds Try.pinned (OpenSpec.upto lZDecompressSpec)

/-- 'pontagelaw9.LZRoundTrip', WHERE WHAT IT READS IS OF BULK AT MOST 1048576: true; the input reads as it did. -/
def lZRoundTripUptoRow : OpenClaim := { program := "ytkdbgkjckoklcaa", sum := "e72e33f7aa6e692b12a0e5179b6e50846bfa2fc4830fa60679d0f6047e758768", func := "pontage/pontagelaw9.LZRoundTrip", spec := "lZRoundTrip", apart := false, narrowed := true }
def LZRoundTripUptoSaid : Prop := lZRoundTripUptoRow.holds Try.pinned (OpenSpec.upto lZRoundTripSpec)

/-- 'pontagelaw9.LZRunLength', WHERE WHAT IT READS IS OF BULK AT MOST 1048576: true; the input reads as it did. -/
def lZRunLengthUptoRow : OpenClaim := { program := "ytkdbgkjckoklcaa", sum := "e72e33f7aa6e692b12a0e5179b6e50846bfa2fc4830fa60679d0f6047e758768", func := "pontage/pontagelaw9.LZRunLength", spec := "lZRunLength", apart := false, narrowed := true }
def LZRunLengthUptoSaid : Prop := lZRunLengthUptoRow.holds Try.pinned (OpenSpec.upto lZRunLengthSpec)

/-- 'pontagelaw9.LZWindowBoundary', WHERE WHAT IT READS IS OF BULK AT MOST 1048576: true; the input reads as it did. -/
def lZWindowBoundaryUptoRow : OpenClaim := { program := "ytkdbgkjckoklcaa", sum := "e72e33f7aa6e692b12a0e5179b6e50846bfa2fc4830fa60679d0f6047e758768", func := "pontage/pontagelaw9.LZWindowBoundary", spec := "lZWindowBoundary", apart := false, narrowed := true }
def LZWindowBoundaryUptoSaid : Prop := lZWindowBoundaryUptoRow.holds Try.pinned (OpenSpec.upto lZWindowBoundarySpec)

/-- 'pontagelaw9.LZDecompressLimit', WHERE WHAT IT READS IS OF BULK AT MOST 1048576: true; the input reads as it did. -/
def lZDecompressLimitUptoRow : OpenClaim := { program := "ytkdbgkjckoklcaa", sum := "e72e33f7aa6e692b12a0e5179b6e50846bfa2fc4830fa60679d0f6047e758768", func := "pontage/pontagelaw9.LZDecompressLimit", spec := "lZDecompressLimit", apart := false, narrowed := true }
def LZDecompressLimitUptoSaid : Prop := lZDecompressLimitUptoRow.holds Try.pinned (OpenSpec.upto lZDecompressLimitSpec)

/-- 'pontagelaw9.LZConcatenation', WHERE WHAT IT READS IS OF BULK AT MOST 1048576: true; the input reads as it did. -/
def lZConcatenationUptoRow : OpenClaim := { program := "ytkdbgkjckoklcaa", sum := "e72e33f7aa6e692b12a0e5179b6e50846bfa2fc4830fa60679d0f6047e758768", func := "pontage/pontagelaw9.LZConcatenation", spec := "lZConcatenation", apart := false, narrowed := true }
def LZConcatenationUptoSaid : Prop := lZConcatenationUptoRow.holds Try.pinned (OpenSpec.upto lZConcatenationSpec)

end Rows
end Go.Proofs.Ytkdbgkjckoklcaa
