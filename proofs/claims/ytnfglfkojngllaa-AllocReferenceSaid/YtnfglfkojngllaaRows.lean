/-
  No cell of these rows narrows 'for every input' (looked for: loops, veiled, ifaces, maps, wideKeys, modest, calm, conditions, laid).
  DERIVED. THE GIVEN ROWS OF THIS SEAT. 4 by the template 'for every input the law returns true; each argument reads behind the call as it read before'; 0 by the template 'total and deterministic' (their statements: YtnfglfkojngllaaTotals.lean).
  GIVEN WITH THE SEED: the statements are not yours to turn. If you find one false, say at which input.
  Laid BY PROGRAM, IN A SANDBOX (cutbox-rows.mjs): the forced cells as the released guide's own fill.sh prints them over the translation b74791a78bceb397… (all of the seat's roots in one cut). By AI agents, Wed Nov 11 2026. No macro, syntax, notation, axiom, sorry.
-/
import Derived.Test.YtnfglfkojngllaaChecked
import GoSem.Claim
import GoSem.ClaimJoined
import GoSem.ClaimMapViews
import Derived.JoinedTies
import Derived.KernelRfl
namespace Go.Proofs.Ytnfglfkojngllaa
/- THE CELL 'sum', in the pinned program and in every row, IS THE sha256 OF THE DUMP (.gsa) THAT YtnfglfkojngllaaProg.lean LOADS. Nothing in Lean hashes anything: it is a label: what it is worth is what the hold of that sum in a sandbox is worth. -/
noncomputable def Try.pinned : Pinned := { name := "ytnfglfkojngllaa", sum := "b74791a78bceb39719f952371b4b9506281747b0e872d0acc29ae7dd0ffc13e8", checked := Try.checked }
namespace Rows
def none {H : Type} : Left H := { results := [], args := [] }

/-- 'pontagelaw18.AllocReference': WHATEVER THE INPUT: true; the input reads as it did. -/
def allocReferenceSpec : ChangeSpec := { name := "allocReference", fn := fun _ => fun
  | [d1, d2, d3, d4, d5] => { results := [.lit (.bool true)], args := [d1, d2, d3, d4, d5] }
  | _ => none }
def allocReferenceRow : OpenClaim := { program := "ytnfglfkojngllaa", sum := "b74791a78bceb39719f952371b4b9506281747b0e872d0acc29ae7dd0ffc13e8", func := "pontage/pontagelaw18.AllocReference", spec := "allocReference", inPlace := ["math/bits.Add64", "math/bits.Sub64"], apart := false }
def AllocReferenceSaid : Prop := allocReferenceRow.holds Try.pinned (OpenSpec.ofChange allocReferenceSpec)

/-- ITS FALSE NEIGHBOUR: 'it returns false'. Refute it at one input. -/
def allocReferenceWrong : ChangeSpec := { name := "allocReference", fn := fun _ => fun
  | [d1, d2, d3, d4, d5] => { results := [.lit (.bool false)], args := [d1, d2, d3, d4, d5] }
  | _ => none }
def AllocReferenceWrongFalsely : Prop := allocReferenceRow.holds Try.pinned (OpenSpec.ofChange allocReferenceWrong)

/-- 'pontagelaw18.AllocMonotone': WHATEVER THE INPUT: true; the input reads as it did. -/
def allocMonotoneSpec : ChangeSpec := { name := "allocMonotone", fn := fun _ => fun
  | [d1, d2, d3, d4, d5] => { results := [.lit (.bool true)], args := [d1, d2, d3, d4, d5] }
  | _ => none }
def allocMonotoneRow : OpenClaim := { program := "ytnfglfkojngllaa", sum := "b74791a78bceb39719f952371b4b9506281747b0e872d0acc29ae7dd0ffc13e8", func := "pontage/pontagelaw18.AllocMonotone", spec := "allocMonotone", inPlace := ["math/bits.Add64", "math/bits.Sub64"], apart := false }
def AllocMonotoneSaid : Prop := allocMonotoneRow.holds Try.pinned (OpenSpec.ofChange allocMonotoneSpec)

/-- ITS FALSE NEIGHBOUR: 'it returns false'. Refute it at one input. -/
def allocMonotoneWrong : ChangeSpec := { name := "allocMonotone", fn := fun _ => fun
  | [d1, d2, d3, d4, d5] => { results := [.lit (.bool false)], args := [d1, d2, d3, d4, d5] }
  | _ => none }
def AllocMonotoneWrongFalsely : Prop := allocMonotoneRow.holds Try.pinned (OpenSpec.ofChange allocMonotoneWrong)

/-- 'pontagelaw18.AllocProportional': WHATEVER THE INPUT: true; the input reads as it did. -/
def allocProportionalSpec : ChangeSpec := { name := "allocProportional", fn := fun _ => fun
  | [d1, d2, d3, d4] => { results := [.lit (.bool true)], args := [d1, d2, d3, d4] }
  | _ => none }
def allocProportionalRow : OpenClaim := { program := "ytnfglfkojngllaa", sum := "b74791a78bceb39719f952371b4b9506281747b0e872d0acc29ae7dd0ffc13e8", func := "pontage/pontagelaw18.AllocProportional", spec := "allocProportional", inPlace := ["math/bits.Add64", "math/bits.Sub64"], apart := false }
def AllocProportionalSaid : Prop := allocProportionalRow.holds Try.pinned (OpenSpec.ofChange allocProportionalSpec)

/-- ITS FALSE NEIGHBOUR: 'it returns false'. Refute it at one input. -/
def allocProportionalWrong : ChangeSpec := { name := "allocProportional", fn := fun _ => fun
  | [d1, d2, d3, d4] => { results := [.lit (.bool false)], args := [d1, d2, d3, d4] }
  | _ => none }
def AllocProportionalWrongFalsely : Prop := allocProportionalRow.holds Try.pinned (OpenSpec.ofChange allocProportionalWrong)

/-- 'pontagelaw18.AllocRemainder': WHATEVER THE INPUT: true; the input reads as it did. -/
def allocRemainderSpec : ChangeSpec := { name := "allocRemainder", fn := fun _ => fun
  | [d1, d2, d3, d4] => { results := [.lit (.bool true)], args := [d1, d2, d3, d4] }
  | _ => none }
def allocRemainderRow : OpenClaim := { program := "ytnfglfkojngllaa", sum := "b74791a78bceb39719f952371b4b9506281747b0e872d0acc29ae7dd0ffc13e8", func := "pontage/pontagelaw18.AllocRemainder", spec := "allocRemainder", inPlace := ["math/bits.Add64", "math/bits.Sub64"], apart := false }
def AllocRemainderSaid : Prop := allocRemainderRow.holds Try.pinned (OpenSpec.ofChange allocRemainderSpec)

/-- ITS FALSE NEIGHBOUR: 'it returns false'. Refute it at one input. -/
def allocRemainderWrong : ChangeSpec := { name := "allocRemainder", fn := fun _ => fun
  | [d1, d2, d3, d4] => { results := [.lit (.bool false)], args := [d1, d2, d3, d4] }
  | _ => none }
def AllocRemainderWrongFalsely : Prop := allocRemainderRow.holds Try.pinned (OpenSpec.ofChange allocRemainderWrong)

/- THE SECOND FORM. 'bulk': how many values and letters a reading holds, each counted each time it is reached (what is shared counts as often as it is met; a slice's spare places count too). A statement '..UptoSaid' is the law's where the arguments, and the package variables that the reading takes, are together of bulk at most 1048576: NARROWER than '..Said'. Prove '..Said' where nothing that the law and all that it calls make is longer than what came in: it says more and counts as full. Else prove '..UptoSaid'. A law counts once. -/
mutual
def uptoBulk {H : Type} : DataW H → Nat
  | .lit (.string bytes) => bytes.length + 1
  | .lit _ => 1
  | .nil => 1
  | .ptr d => uptoBulk d + 1
  | .slice elems spare => uptoBulkAll elems + uptoBulkAll spare + 1
  | .agg parts => uptoBulkAll parts + 1
  | .iface _ d => uptoBulk d + 1
  | .map entries => uptoBulkEntries entries + 1
  | .held _ => 1
def uptoBulkAll {H : Type} : List (DataW H) → Nat
  | [] => 0
  | d :: r => uptoBulk d + uptoBulkAll r
def uptoBulkEntries {H : Type} : List (Lit × DataW H) → Nat
  | [] => 0
  | x :: r => uptoBulkEntry x + uptoBulkEntries r
def uptoBulkEntry {H : Type} : Lit × DataW H → Nat
  | (.string bytes, d) => bytes.length + uptoBulk d + 1
  | (_, d) => uptoBulk d + 1
 end
def uptoSmall : (H : Type) → List (DataW H) → Bool := fun _ ds => decide (uptoBulkAll ds ≤ 1048576)
def OpenSpec.upto (s : _root_.Go.ChangeSpec) : _root_.Go.OpenSpec := { _root_.Go.OpenSpec.ofChange s with cond := some uptoSmall }

/-- 'pontagelaw18.AllocReference', WHERE WHAT IT READS IS OF BULK AT MOST 1048576: true; the input reads as it did. -/
def allocReferenceUptoRow : OpenClaim := { program := "ytnfglfkojngllaa", sum := "b74791a78bceb39719f952371b4b9506281747b0e872d0acc29ae7dd0ffc13e8", func := "pontage/pontagelaw18.AllocReference", spec := "allocReference", inPlace := ["math/bits.Add64", "math/bits.Sub64"], apart := false, narrowed := true }
def AllocReferenceUptoSaid : Prop := allocReferenceUptoRow.holds Try.pinned (OpenSpec.upto allocReferenceSpec)

/-- 'pontagelaw18.AllocMonotone', WHERE WHAT IT READS IS OF BULK AT MOST 1048576: true; the input reads as it did. -/
def allocMonotoneUptoRow : OpenClaim := { program := "ytnfglfkojngllaa", sum := "b74791a78bceb39719f952371b4b9506281747b0e872d0acc29ae7dd0ffc13e8", func := "pontage/pontagelaw18.AllocMonotone", spec := "allocMonotone", inPlace := ["math/bits.Add64", "math/bits.Sub64"], apart := false, narrowed := true }
def AllocMonotoneUptoSaid : Prop := allocMonotoneUptoRow.holds Try.pinned (OpenSpec.upto allocMonotoneSpec)

/-- 'pontagelaw18.AllocProportional', WHERE WHAT IT READS IS OF BULK AT MOST 1048576: true; the input reads as it did. -/
def allocProportionalUptoRow : OpenClaim := { program := "ytnfglfkojngllaa", sum := "b74791a78bceb39719f952371b4b9506281747b0e872d0acc29ae7dd0ffc13e8", func := "pontage/pontagelaw18.AllocProportional", spec := "allocProportional", inPlace := ["math/bits.Add64", "math/bits.Sub64"], apart := false, narrowed := true }
def AllocProportionalUptoSaid : Prop := allocProportionalUptoRow.holds Try.pinned (OpenSpec.upto allocProportionalSpec)

/-- 'pontagelaw18.AllocRemainder', WHERE WHAT IT READS IS OF BULK AT MOST 1048576: true; the input reads as it did. -/
def allocRemainderUptoRow : OpenClaim := { program := "ytnfglfkojngllaa", sum := "b74791a78bceb39719f952371b4b9506281747b0e872d0acc29ae7dd0ffc13e8", func := "pontage/pontagelaw18.AllocRemainder", spec := "allocRemainder", inPlace := ["math/bits.Add64", "math/bits.Sub64"], apart := false, narrowed := true }
def AllocRemainderUptoSaid : Prop := allocRemainderUptoRow.holds Try.pinned (OpenSpec.upto allocRemainderSpec)

end Rows
end Go.Proofs.Ytnfglfkojngllaa
