/-
  No cell of these rows narrows 'for every input' (looked for: loops, veiled, ifaces, maps, wideKeys, modest, calm, conditions, laid).
  DERIVED. THE GIVEN ROWS OF THIS SEAT. 4 by the template 'for every input the law returns true; each argument reads behind the call as it read before'; 0 by the template 'total and deterministic' (their statements: YtejffhdfbopbpaaTotals.lean).
  GIVEN WITH THE SEED: the statements are not yours to turn. If you find one false, say at which input.
  Laid BY PROGRAM, IN A SANDBOX (cutbox-rows.mjs): the forced cells as the released guide's own fill.sh prints them over the translation 66d6af6aa70222d3… (all of the seat's roots in one cut). By AI agents, Wed Nov 11 2026. No macro, syntax, notation, axiom, sorry.
-/
import Derived.Test.YtejffhdfbopbpaaChecked
import GoSem.Claim
import GoSem.ClaimJoined
import GoSem.ClaimMapViews
import Derived.JoinedTies
import Derived.KernelRfl
namespace Go.Proofs.Ytejffhdfbopbpaa
/- THE CELL 'sum', in the pinned program and in every row, IS THE sha256 OF THE DUMP (.gsa) THAT YtejffhdfbopbpaaProg.lean LOADS. Nothing in Lean hashes anything: it is a label: what it is worth is what the hold of that sum in a sandbox is worth. -/
noncomputable def Try.pinned : Pinned := { name := "ytejffhdfbopbpaa", sum := "66d6af6aa70222d345522ede147b6562ee918081547e21facaa3f9705100bb17", checked := Try.checked }
namespace Rows
def none {H : Type} : Left H := { results := [], args := [] }

/-- 'pontagelaw13.BacklogArithmetic': WHATEVER THE INPUT: true; the input reads as it did. -/
def backlogArithmeticSpec : ChangeSpec := { name := "backlogArithmetic", fn := fun _ => fun
  | [d1, d2, d3] => { results := [.lit (.bool true)], args := [d1, d2, d3] }
  | _ => none }
def backlogArithmeticRow : OpenClaim := { program := "ytejffhdfbopbpaa", sum := "66d6af6aa70222d345522ede147b6562ee918081547e21facaa3f9705100bb17", func := "pontage/pontagelaw13.BacklogArithmetic", spec := "backlogArithmetic", inPlace := ["math/bits.Add64"], apart := false }
def BacklogArithmeticSaid : Prop := backlogArithmeticRow.holds Try.pinned (OpenSpec.ofChange backlogArithmeticSpec)

/-- ITS FALSE NEIGHBOUR: 'it returns false'. Refute it at one input. -/
def backlogArithmeticWrong : ChangeSpec := { name := "backlogArithmetic", fn := fun _ => fun
  | [d1, d2, d3] => { results := [.lit (.bool false)], args := [d1, d2, d3] }
  | _ => none }
def BacklogArithmeticWrongFalsely : Prop := backlogArithmeticRow.holds Try.pinned (OpenSpec.ofChange backlogArithmeticWrong)

/-- 'pontagelaw13.BacklogDrainAdditive': WHATEVER THE INPUT: true; the input reads as it did. -/
def backlogDrainAdditiveSpec : ChangeSpec := { name := "backlogDrainAdditive", fn := fun _ => fun
  | [d1, d2, d3, d4] => { results := [.lit (.bool true)], args := [d1, d2, d3, d4] }
  | _ => none }
def backlogDrainAdditiveRow : OpenClaim := { program := "ytejffhdfbopbpaa", sum := "66d6af6aa70222d345522ede147b6562ee918081547e21facaa3f9705100bb17", func := "pontage/pontagelaw13.BacklogDrainAdditive", spec := "backlogDrainAdditive", inPlace := ["math/bits.Add64"], apart := false }
def BacklogDrainAdditiveSaid : Prop := backlogDrainAdditiveRow.holds Try.pinned (OpenSpec.ofChange backlogDrainAdditiveSpec)

/-- ITS FALSE NEIGHBOUR: 'it returns false'. Refute it at one input. -/
def backlogDrainAdditiveWrong : ChangeSpec := { name := "backlogDrainAdditive", fn := fun _ => fun
  | [d1, d2, d3, d4] => { results := [.lit (.bool false)], args := [d1, d2, d3, d4] }
  | _ => none }
def BacklogDrainAdditiveWrongFalsely : Prop := backlogDrainAdditiveRow.holds Try.pinned (OpenSpec.ofChange backlogDrainAdditiveWrong)

/-- 'pontagelaw13.BacklogNoWrap': WHATEVER THE INPUT: true; the input reads as it did. -/
def backlogNoWrapSpec : ChangeSpec := { name := "backlogNoWrap", fn := fun _ => fun
  | [d1, d2, d3, d4] => { results := [.lit (.bool true)], args := [d1, d2, d3, d4] }
  | _ => none }
def backlogNoWrapRow : OpenClaim := { program := "ytejffhdfbopbpaa", sum := "66d6af6aa70222d345522ede147b6562ee918081547e21facaa3f9705100bb17", func := "pontage/pontagelaw13.BacklogNoWrap", spec := "backlogNoWrap", inPlace := ["math/bits.Add64"], apart := false }
def BacklogNoWrapSaid : Prop := backlogNoWrapRow.holds Try.pinned (OpenSpec.ofChange backlogNoWrapSpec)

/-- ITS FALSE NEIGHBOUR: 'it returns false'. Refute it at one input. -/
def backlogNoWrapWrong : ChangeSpec := { name := "backlogNoWrap", fn := fun _ => fun
  | [d1, d2, d3, d4] => { results := [.lit (.bool false)], args := [d1, d2, d3, d4] }
  | _ => none }
def BacklogNoWrapWrongFalsely : Prop := backlogNoWrapRow.holds Try.pinned (OpenSpec.ofChange backlogNoWrapWrong)

/-- 'pontagelaw13.BacklogOrder': WHATEVER THE INPUT: true; the input reads as it did. -/
def backlogOrderSpec : ChangeSpec := { name := "backlogOrder", fn := fun _ => fun
  | [d1, d2, d3, d4] => { results := [.lit (.bool true)], args := [d1, d2, d3, d4] }
  | _ => none }
def backlogOrderRow : OpenClaim := { program := "ytejffhdfbopbpaa", sum := "66d6af6aa70222d345522ede147b6562ee918081547e21facaa3f9705100bb17", func := "pontage/pontagelaw13.BacklogOrder", spec := "backlogOrder", inPlace := ["math/bits.Add64"], apart := false }
def BacklogOrderSaid : Prop := backlogOrderRow.holds Try.pinned (OpenSpec.ofChange backlogOrderSpec)

/-- ITS FALSE NEIGHBOUR: 'it returns false'. Refute it at one input. -/
def backlogOrderWrong : ChangeSpec := { name := "backlogOrder", fn := fun _ => fun
  | [d1, d2, d3, d4] => { results := [.lit (.bool false)], args := [d1, d2, d3, d4] }
  | _ => none }
def BacklogOrderWrongFalsely : Prop := backlogOrderRow.holds Try.pinned (OpenSpec.ofChange backlogOrderWrong)

/- THE SECOND FORM. 'bulk': how many values and letters a reading holds, each counted each time it is reached (what is shared counts as often as it is met; a slice's spare places count too). A statement '..UptoSaid' is the law's where the arguments, and the package variables that the reading takes, are together of bulk at most 1048576: NARROWER than '..Said'. Prove '..Said' where nothing that the law and all that it calls make is longer than what came in: it says more and counts as full. Else prove '..UptoSaid'. A law counts once. -/
mutual
def uptoBulk {H : Type} : DataW H → Nat
  | .lit (.string bytes) => bytes.length + 1
  | .lit _ => 1
  | .nil => 1
  | .ptr d => uptoBulk d + 1
  | .slice elems spare => uptoBulkAll elems + uptoBulkAll spare + 1
  | .agg parts => uptoBulkAll parts + 1
  | .iface _ d => uptoBulk d + 1
  | .map entries => uptoBulkEntries entries + 1
  | .held _ => 1
def uptoBulkAll {H : Type} : List (DataW H) → Nat
  | [] => 0
  | d :: r => uptoBulk d + uptoBulkAll r
def uptoBulkEntries {H : Type} : List (Lit × DataW H) → Nat
  | [] => 0
  | x :: r => uptoBulkEntry x + uptoBulkEntries r
def uptoBulkEntry {H : Type} : Lit × DataW H → Nat
  | (.string bytes, d) => bytes.length + uptoBulk d + 1
  | (_, d) => uptoBulk d + 1
 end
def uptoSmall : (H : Type) → List (DataW H) → Bool := fun _ ds => decide (uptoBulkAll ds ≤ 1048576)
def OpenSpec.upto (s : _root_.Go.ChangeSpec) : _root_.Go.OpenSpec := { _root_.Go.OpenSpec.ofChange s with cond := some uptoSmall }

/-- 'pontagelaw13.BacklogArithmetic', WHERE WHAT IT READS IS OF BULK AT MOST 1048576: true; the input reads as it did. -/
def backlogArithmeticUptoRow : OpenClaim := { program := "ytejffhdfbopbpaa", sum := "66d6af6aa70222d345522ede147b6562ee918081547e21facaa3f9705100bb17", func := "pontage/pontagelaw13.BacklogArithmetic", spec := "backlogArithmetic", inPlace := ["math/bits.Add64"], apart := false, narrowed := true }
def BacklogArithmeticUptoSaid : Prop := backlogArithmeticUptoRow.holds Try.pinned (OpenSpec.upto backlogArithmeticSpec)

/-- 'pontagelaw13.BacklogDrainAdditive', WHERE WHAT IT READS IS OF BULK AT MOST 1048576: true; the input reads as it did. -/
def backlogDrainAdditiveUptoRow : OpenClaim := { program := "ytejffhdfbopbpaa", sum := "66d6af6aa70222d345522ede147b6562ee918081547e21facaa3f9705100bb17", func := "pontage/pontagelaw13.BacklogDrainAdditive", spec := "backlogDrainAdditive", inPlace := ["math/bits.Add64"], apart := false, narrowed := true }
def BacklogDrainAdditiveUptoSaid : Prop := backlogDrainAdditiveUptoRow.holds Try.pinned (OpenSpec.upto backlogDrainAdditiveSpec)

/-- 'pontagelaw13.BacklogNoWrap', WHERE WHAT IT READS IS OF BULK AT MOST 1048576: true; the input reads as it did. -/
def backlogNoWrapUptoRow : OpenClaim := { program := "ytejffhdfbopbpaa", sum := "66d6af6aa70222d345522ede147b6562ee918081547e21facaa3f9705100bb17", func := "pontage/pontagelaw13.BacklogNoWrap", spec := "backlogNoWrap", inPlace := ["math/bits.Add64"], apart := false, narrowed := true }
def BacklogNoWrapUptoSaid : Prop := backlogNoWrapUptoRow.holds Try.pinned (OpenSpec.upto backlogNoWrapSpec)

/-- 'pontagelaw13.BacklogOrder', WHERE WHAT IT READS IS OF BULK AT MOST 1048576: true; the input reads as it did. -/
def backlogOrderUptoRow : OpenClaim := { program := "ytejffhdfbopbpaa", sum := "66d6af6aa70222d345522ede147b6562ee918081547e21facaa3f9705100bb17", func := "pontage/pontagelaw13.BacklogOrder", spec := "backlogOrder", inPlace := ["math/bits.Add64"], apart := false, narrowed := true }
def BacklogOrderUptoSaid : Prop := backlogOrderUptoRow.holds Try.pinned (OpenSpec.upto backlogOrderSpec)

end Rows
end Go.Proofs.Ytejffhdfbopbpaa
