/-
  No cell of these rows narrows 'for every input' (looked for: loops, veiled, ifaces, maps, wideKeys, modest, calm, conditions, laid).
  DERIVED. THE GIVEN ROWS OF THIS SEAT. 5 by the template 'for every input the law returns true; each argument reads behind the call as it read before'; 0 by the template 'total and deterministic' (their statements: YtfkfheapikgejaaTotals.lean).
  GIVEN WITH THE SEED: the statements are not yours to turn. If you find one false, say at which input.
  Laid BY PROGRAM, IN A SANDBOX (cutbox-rows.mjs): the forced cells as the released guide's own fill.sh prints them over the translation ac334a452796e9bf… (all of the seat's roots in one cut). By AI agents, Wed Nov 11 2026. No macro, syntax, notation, axiom, sorry.
-/
import Derived.Test.YtfkfheapikgejaaChecked
import GoSem.Claim
import GoSem.ClaimJoined
import GoSem.ClaimMapViews
import Derived.JoinedTies
import Derived.KernelRfl
namespace Go.Proofs.Ytfkfheapikgejaa
/- THE CELL 'sum', in the pinned program and in every row, IS THE sha256 OF THE DUMP (.gsa) THAT YtfkfheapikgejaaProg.lean LOADS. Nothing in Lean hashes anything: it is a label: what it is worth is what the hold of that sum in a sandbox is worth. -/
noncomputable def Try.pinned : Pinned := { name := "ytfkfheapikgejaa", sum := "ac334a452796e9bf14494230ced431707694ab902d08fd519bba3d7b25f2b03b", checked := Try.checked }
namespace Rows
def none {H : Type} : Left H := { results := [], args := [] }

/-- 'pontagelaw10.SizeUnits': WHATEVER THE INPUT: true; the input reads as it did. -/
def sizeUnitsSpec : ChangeSpec := { name := "sizeUnits", fn := fun _ => fun
  | [d1, d2, d3] => { results := [.lit (.bool true)], args := [d1, d2, d3] }
  | _ => none }
def sizeUnitsRow : OpenClaim := { program := "ytfkfheapikgejaa", sum := "ac334a452796e9bf14494230ced431707694ab902d08fd519bba3d7b25f2b03b", func := "pontage/pontagelaw10.SizeUnits", spec := "sizeUnits", apart := false }
def SizeUnitsSaid : Prop := sizeUnitsRow.holds Try.pinned (OpenSpec.ofChange sizeUnitsSpec)

/-- ITS FALSE NEIGHBOUR: 'it returns false'. Refute it at one input. -/
def sizeUnitsWrong : ChangeSpec := { name := "sizeUnits", fn := fun _ => fun
  | [d1, d2, d3] => { results := [.lit (.bool false)], args := [d1, d2, d3] }
  | _ => none }
def SizeUnitsWrongFalsely : Prop := sizeUnitsRow.holds Try.pinned (OpenSpec.ofChange sizeUnitsWrong)

/-- 'pontagelaw10.SizeClamped': WHATEVER THE INPUT: true; the input reads as it did. -/
def sizeClampedSpec : ChangeSpec := { name := "sizeClamped", fn := fun _ => fun
  | [d1, d2, d3] => { results := [.lit (.bool true)], args := [d1, d2, d3] }
  | _ => none }
def sizeClampedRow : OpenClaim := { program := "ytfkfheapikgejaa", sum := "ac334a452796e9bf14494230ced431707694ab902d08fd519bba3d7b25f2b03b", func := "pontage/pontagelaw10.SizeClamped", spec := "sizeClamped", apart := false }
def SizeClampedSaid : Prop := sizeClampedRow.holds Try.pinned (OpenSpec.ofChange sizeClampedSpec)

/-- ITS FALSE NEIGHBOUR: 'it returns false'. Refute it at one input. -/
def sizeClampedWrong : ChangeSpec := { name := "sizeClamped", fn := fun _ => fun
  | [d1, d2, d3] => { results := [.lit (.bool false)], args := [d1, d2, d3] }
  | _ => none }
def SizeClampedWrongFalsely : Prop := sizeClampedRow.holds Try.pinned (OpenSpec.ofChange sizeClampedWrong)

/-- 'pontagelaw10.SizeLimit': WHATEVER THE INPUT: true; the input reads as it did. -/
def sizeLimitSpec : ChangeSpec := { name := "sizeLimit", fn := fun _ => fun
  | [d1, d2] => { results := [.lit (.bool true)], args := [d1, d2] }
  | _ => none }
def sizeLimitRow : OpenClaim := { program := "ytfkfheapikgejaa", sum := "ac334a452796e9bf14494230ced431707694ab902d08fd519bba3d7b25f2b03b", func := "pontage/pontagelaw10.SizeLimit", spec := "sizeLimit", apart := false }
def SizeLimitSaid : Prop := sizeLimitRow.holds Try.pinned (OpenSpec.ofChange sizeLimitSpec)

/-- ITS FALSE NEIGHBOUR: 'it returns false'. Refute it at one input. -/
def sizeLimitWrong : ChangeSpec := { name := "sizeLimit", fn := fun _ => fun
  | [d1, d2] => { results := [.lit (.bool false)], args := [d1, d2] }
  | _ => none }
def SizeLimitWrongFalsely : Prop := sizeLimitRow.holds Try.pinned (OpenSpec.ofChange sizeLimitWrong)

/-- 'pontagelaw10.SizeCost': WHATEVER THE INPUT: true; the input reads as it did. -/
def sizeCostSpec : ChangeSpec := { name := "sizeCost", fn := fun _ => fun
  | [d1, d2, d3] => { results := [.lit (.bool true)], args := [d1, d2, d3] }
  | _ => none }
def sizeCostRow : OpenClaim := { program := "ytfkfheapikgejaa", sum := "ac334a452796e9bf14494230ced431707694ab902d08fd519bba3d7b25f2b03b", func := "pontage/pontagelaw10.SizeCost", spec := "sizeCost", inPlace := ["math/bits.Add64"], apart := false }
def SizeCostSaid : Prop := sizeCostRow.holds Try.pinned (OpenSpec.ofChange sizeCostSpec)

/-- ITS FALSE NEIGHBOUR: 'it returns false'. Refute it at one input. -/
def sizeCostWrong : ChangeSpec := { name := "sizeCost", fn := fun _ => fun
  | [d1, d2, d3] => { results := [.lit (.bool false)], args := [d1, d2, d3] }
  | _ => none }
def SizeCostWrongFalsely : Prop := sizeCostRow.holds Try.pinned (OpenSpec.ofChange sizeCostWrong)

/-- 'pontagelaw10.SizeestLinear': WHATEVER THE INPUT: true; the input reads as it did. -/
def sizeestLinearSpec : ChangeSpec := { name := "sizeestLinear", fn := fun _ => fun
  | [d1, d2, d3, d4, d5] => { results := [.lit (.bool true)], args := [d1, d2, d3, d4, d5] }
  | _ => none }
def sizeestLinearRow : OpenClaim := { program := "ytfkfheapikgejaa", sum := "ac334a452796e9bf14494230ced431707694ab902d08fd519bba3d7b25f2b03b", func := "pontage/pontagelaw10.SizeestLinear", spec := "sizeestLinear", inPlace := ["math/bits.Add64"], apart := false }
def SizeestLinearSaid : Prop := sizeestLinearRow.holds Try.pinned (OpenSpec.ofChange sizeestLinearSpec)

/-- ITS FALSE NEIGHBOUR: 'it returns false'. Refute it at one input. -/
def sizeestLinearWrong : ChangeSpec := { name := "sizeestLinear", fn := fun _ => fun
  | [d1, d2, d3, d4, d5] => { results := [.lit (.bool false)], args := [d1, d2, d3, d4, d5] }
  | _ => none }
def SizeestLinearWrongFalsely : Prop := sizeestLinearRow.holds Try.pinned (OpenSpec.ofChange sizeestLinearWrong)

/- THE SECOND FORM. 'bulk': how many values and letters a reading holds, each counted each time it is reached (what is shared counts as often as it is met; a slice's spare places count too). A statement '..UptoSaid' is the law's where the arguments, and the package variables that the reading takes, are together of bulk at most 1048576: NARROWER than '..Said'. Prove '..Said' where nothing that the law and all that it calls make is longer than what came in: it says more and counts as full. Else prove '..UptoSaid'. A law counts once. -/
mutual
def uptoBulk {H : Type} : DataW H → Nat
  | .lit (.string bytes) => bytes.length + 1
  | .lit _ => 1
  | .nil => 1
  | .ptr d => uptoBulk d + 1
  | .slice elems spare => uptoBulkAll elems + uptoBulkAll spare + 1
  | .agg parts => uptoBulkAll parts + 1
  | .iface _ d => uptoBulk d + 1
  | .map entries => uptoBulkEntries entries + 1
  | .held _ => 1
def uptoBulkAll {H : Type} : List (DataW H) → Nat
  | [] => 0
  | d :: r => uptoBulk d + uptoBulkAll r
def uptoBulkEntries {H : Type} : List (Lit × DataW H) → Nat
  | [] => 0
  | x :: r => uptoBulkEntry x + uptoBulkEntries r
def uptoBulkEntry {H : Type} : Lit × DataW H → Nat
  | (.string bytes, d) => bytes.length + uptoBulk d + 1
  | (_, d) => uptoBulk d + 1
 end
def uptoSmall : (H : Type) → List (DataW H) → Bool := fun _ ds => decide (uptoBulkAll ds ≤ 1048576)
def OpenSpec.upto (s : _root_.Go.ChangeSpec) : _root_.Go.OpenSpec := { _root_.Go.OpenSpec.ofChange s with cond := some uptoSmall }

/-- 'pontagelaw10.SizeUnits', WHERE WHAT IT READS IS OF BULK AT MOST 1048576: true; the input reads as it did. -/
def sizeUnitsUptoRow : OpenClaim := { program := "ytfkfheapikgejaa", sum := "ac334a452796e9bf14494230ced431707694ab902d08fd519bba3d7b25f2b03b", func := "pontage/pontagelaw10.SizeUnits", spec := "sizeUnits", apart := false, narrowed := true }
def SizeUnitsUptoSaid : Prop := sizeUnitsUptoRow.holds Try.pinned (OpenSpec.upto sizeUnitsSpec)

/-- 'pontagelaw10.SizeClamped', WHERE WHAT IT READS IS OF BULK AT MOST 1048576: true; the input reads as it did. -/
def sizeClampedUptoRow : OpenClaim := { program := "ytfkfheapikgejaa", sum := "ac334a452796e9bf14494230ced431707694ab902d08fd519bba3d7b25f2b03b", func := "pontage/pontagelaw10.SizeClamped", spec := "sizeClamped", apart := false, narrowed := true }
def SizeClampedUptoSaid : Prop := sizeClampedUptoRow.holds Try.pinned (OpenSpec.upto sizeClampedSpec)

/-- 'pontagelaw10.SizeLimit', WHERE WHAT IT READS IS OF BULK AT MOST 1048576: true; the input reads as it did. -/
def sizeLimitUptoRow : OpenClaim := { program := "ytfkfheapikgejaa", sum := "ac334a452796e9bf14494230ced431707694ab902d08fd519bba3d7b25f2b03b", func := "pontage/pontagelaw10.SizeLimit", spec := "sizeLimit", apart := false, narrowed := true }
def SizeLimitUptoSaid : Prop := sizeLimitUptoRow.holds Try.pinned (OpenSpec.upto sizeLimitSpec)

/-- 'pontagelaw10.SizeCost', WHERE WHAT IT READS IS OF BULK AT MOST 1048576: true; the input reads as it did. -/
def sizeCostUptoRow : OpenClaim := { program := "ytfkfheapikgejaa", sum := "ac334a452796e9bf14494230ced431707694ab902d08fd519bba3d7b25f2b03b", func := "pontage/pontagelaw10.SizeCost", spec := "sizeCost", inPlace := ["math/bits.Add64"], apart := false, narrowed := true }
def SizeCostUptoSaid : Prop := sizeCostUptoRow.holds Try.pinned (OpenSpec.upto sizeCostSpec)

/-- 'pontagelaw10.SizeestLinear', WHERE WHAT IT READS IS OF BULK AT MOST 1048576: true; the input reads as it did. -/
def sizeestLinearUptoRow : OpenClaim := { program := "ytfkfheapikgejaa", sum := "ac334a452796e9bf14494230ced431707694ab902d08fd519bba3d7b25f2b03b", func := "pontage/pontagelaw10.SizeestLinear", spec := "sizeestLinear", inPlace := ["math/bits.Add64"], apart := false, narrowed := true }
def SizeestLinearUptoSaid : Prop := sizeestLinearUptoRow.holds Try.pinned (OpenSpec.upto sizeestLinearSpec)

end Rows
end Go.Proofs.Ytfkfheapikgejaa
