/-
  No cell of these rows narrows 'for every input' (looked for: loops, veiled, ifaces, maps, wideKeys, modest, calm, conditions, laid).
  DERIVED. THE GIVEN ROWS OF THIS SEAT. 5 by the template 'for every input the law returns true; each argument reads behind the call as it read before'; 0 by the template 'total and deterministic' (their statements: YtbnpgecpanfpiaaTotals.lean).
  GIVEN WITH THE SEED: the statements are not yours to turn. If you find one false, say at which input.
  Laid BY PROGRAM, IN A SANDBOX (cutbox-rows.mjs): the forced cells as the released guide's own fill.sh prints them over the translation 75f8c36353c26993… (all of the seat's roots in one cut). By AI agents, Wed Nov 11 2026. No macro, syntax, notation, axiom, sorry.
-/
import Derived.Test.YtbnpgecpanfpiaaChecked
import GoSem.Claim
import GoSem.ClaimJoined
import GoSem.ClaimMapViews
import Derived.JoinedTies
import Derived.KernelRfl
namespace Go.Proofs.Ytbnpgecpanfpiaa
/- THE CELL 'sum', in the pinned program and in every row, IS THE sha256 OF THE DUMP (.gsa) THAT YtbnpgecpanfpiaaProg.lean LOADS. Nothing in Lean hashes anything: it is a label: what it is worth is what the hold of that sum in a sandbox is worth. -/
noncomputable def Try.pinned : Pinned := { name := "ytbnpgecpanfpiaa", sum := "75f8c36353c269936b0651c506600aa6b1b45e127775d2d0c723ec3f31cd3efe", checked := Try.checked }
namespace Rows
def none {H : Type} : Left H := { results := [], args := [] }

/-- 'pontagelaw12.ParamsValidity': WHATEVER THE INPUT: true; the input reads as it did. -/
def paramsValiditySpec : ChangeSpec := { name := "paramsValidity", fn := fun _ => fun
  | [d1, d2] => { results := [.lit (.bool true)], args := [d1, d2] }
  | _ => none }
def paramsValidityRow : OpenClaim := { program := "ytbnpgecpanfpiaa", sum := "75f8c36353c269936b0651c506600aa6b1b45e127775d2d0c723ec3f31cd3efe", func := "pontage/pontagelaw12.ParamsValidity", spec := "paramsValidity", apart := false }
def ParamsValiditySaid : Prop := paramsValidityRow.holds Try.pinned (OpenSpec.ofChange paramsValiditySpec)

/-- ITS FALSE NEIGHBOUR: 'it returns false'. Refute it at one input. -/
def paramsValidityWrong : ChangeSpec := { name := "paramsValidity", fn := fun _ => fun
  | [d1, d2] => { results := [.lit (.bool false)], args := [d1, d2] }
  | _ => none }
def ParamsValidityWrongFalsely : Prop := paramsValidityRow.holds Try.pinned (OpenSpec.ofChange paramsValidityWrong)

/-- 'pontagelaw12.ParamsSet': WHATEVER THE INPUT: true; the input reads as it did. -/
def paramsSetSpec : ChangeSpec := { name := "paramsSet", fn := fun _ => fun
  | [d1, d2] => { results := [.lit (.bool true)], args := [d1, d2] }
  | _ => none }
def paramsSetRow : OpenClaim := { program := "ytbnpgecpanfpiaa", sum := "75f8c36353c269936b0651c506600aa6b1b45e127775d2d0c723ec3f31cd3efe", func := "pontage/pontagelaw12.ParamsSet", spec := "paramsSet", apart := false }
def ParamsSetSaid : Prop := paramsSetRow.holds Try.pinned (OpenSpec.ofChange paramsSetSpec)

/-- ITS FALSE NEIGHBOUR: 'it returns false'. Refute it at one input. -/
def paramsSetWrong : ChangeSpec := { name := "paramsSet", fn := fun _ => fun
  | [d1, d2] => { results := [.lit (.bool false)], args := [d1, d2] }
  | _ => none }
def ParamsSetWrongFalsely : Prop := paramsSetRow.holds Try.pinned (OpenSpec.ofChange paramsSetWrong)

/-- 'pontagelaw12.ParamsSetGet': WHATEVER THE INPUT: true; the input reads as it did. -/
def paramsSetGetSpec : ChangeSpec := { name := "paramsSetGet", fn := fun _ => fun
  | [d1, d2] => { results := [.lit (.bool true)], args := [d1, d2] }
  | _ => none }
def paramsSetGetRow : OpenClaim := { program := "ytbnpgecpanfpiaa", sum := "75f8c36353c269936b0651c506600aa6b1b45e127775d2d0c723ec3f31cd3efe", func := "pontage/pontagelaw12.ParamsSetGet", spec := "paramsSetGet", apart := false }
def ParamsSetGetSaid : Prop := paramsSetGetRow.holds Try.pinned (OpenSpec.ofChange paramsSetGetSpec)

/-- ITS FALSE NEIGHBOUR: 'it returns false'. Refute it at one input. -/
def paramsSetGetWrong : ChangeSpec := { name := "paramsSetGet", fn := fun _ => fun
  | [d1, d2] => { results := [.lit (.bool false)], args := [d1, d2] }
  | _ => none }
def ParamsSetGetWrongFalsely : Prop := paramsSetGetRow.holds Try.pinned (OpenSpec.ofChange paramsSetGetWrong)

/-- 'pontagelaw12.ParamsCommute': WHATEVER THE INPUT: true; the input reads as it did. -/
def paramsCommuteSpec : ChangeSpec := { name := "paramsCommute", fn := fun _ => fun
  | [d1, d2] => { results := [.lit (.bool true)], args := [d1, d2] }
  | _ => none }
def paramsCommuteRow : OpenClaim := { program := "ytbnpgecpanfpiaa", sum := "75f8c36353c269936b0651c506600aa6b1b45e127775d2d0c723ec3f31cd3efe", func := "pontage/pontagelaw12.ParamsCommute", spec := "paramsCommute", apart := false }
def ParamsCommuteSaid : Prop := paramsCommuteRow.holds Try.pinned (OpenSpec.ofChange paramsCommuteSpec)

/-- ITS FALSE NEIGHBOUR: 'it returns false'. Refute it at one input. -/
def paramsCommuteWrong : ChangeSpec := { name := "paramsCommute", fn := fun _ => fun
  | [d1, d2] => { results := [.lit (.bool false)], args := [d1, d2] }
  | _ => none }
def ParamsCommuteWrongFalsely : Prop := paramsCommuteRow.holds Try.pinned (OpenSpec.ofChange paramsCommuteWrong)

/-- 'pontagelaw12.ParamsRanges': WHATEVER THE INPUT: true; the input reads as it did. -/
def paramsRangesSpec : ChangeSpec := { name := "paramsRanges", fn := fun _ => fun
  | [d1, d2] => { results := [.lit (.bool true)], args := [d1, d2] }
  | _ => none }
def paramsRangesRow : OpenClaim := { program := "ytbnpgecpanfpiaa", sum := "75f8c36353c269936b0651c506600aa6b1b45e127775d2d0c723ec3f31cd3efe", func := "pontage/pontagelaw12.ParamsRanges", spec := "paramsRanges", inPlace := ["math/bits.Add64"], apart := false }
def ParamsRangesSaid : Prop := paramsRangesRow.holds Try.pinned (OpenSpec.ofChange paramsRangesSpec)

/-- ITS FALSE NEIGHBOUR: 'it returns false'. Refute it at one input. -/
def paramsRangesWrong : ChangeSpec := { name := "paramsRanges", fn := fun _ => fun
  | [d1, d2] => { results := [.lit (.bool false)], args := [d1, d2] }
  | _ => none }
def ParamsRangesWrongFalsely : Prop := paramsRangesRow.holds Try.pinned (OpenSpec.ofChange paramsRangesWrong)

/- THE SECOND FORM. 'bulk': how many values and letters a reading holds, each counted each time it is reached (what is shared counts as often as it is met; a slice's spare places count too). A statement '..UptoSaid' is the law's where the arguments, and the package variables that the reading takes, are together of bulk at most 1048576: NARROWER than '..Said'. Prove '..Said' where nothing that the law and all that it calls make is longer than what came in: it says more and counts as full. Else prove '..UptoSaid'. A law counts once. -/
mutual
def uptoBulk {H : Type} : DataW H → Nat
  | .lit (.string bytes) => bytes.length + 1
  | .lit _ => 1
  | .nil => 1
  | .ptr d => uptoBulk d + 1
  | .slice elems spare => uptoBulkAll elems + uptoBulkAll spare + 1
  | .agg parts => uptoBulkAll parts + 1
  | .iface _ d => uptoBulk d + 1
  | .map entries => uptoBulkEntries entries + 1
  | .held _ => 1
def uptoBulkAll {H : Type} : List (DataW H) → Nat
  | [] => 0
  | d :: r => uptoBulk d + uptoBulkAll r
def uptoBulkEntries {H : Type} : List (Lit × DataW H) → Nat
  | [] => 0
  | x :: r => uptoBulkEntry x + uptoBulkEntries r
def uptoBulkEntry {H : Type} : Lit × DataW H → Nat
  | (.string bytes, d) => bytes.length + uptoBulk d + 1
  | (_, d) => uptoBulk d + 1
 end
def uptoSmall : (H : Type) → List (DataW H) → Bool := fun _ ds => decide (uptoBulkAll ds ≤ 1048576)
def OpenSpec.upto (s : _root_.Go.ChangeSpec) : _root_.Go.OpenSpec := { _root_.Go.OpenSpec.ofChange s with cond := some uptoSmall }

/-- 'pontagelaw12.ParamsValidity', WHERE WHAT IT READS IS OF BULK AT MOST 1048576: true; the input reads as it did. -/
def paramsValidityUptoRow : OpenClaim := { program := "ytbnpgecpanfpiaa", sum := "75f8c36353c269936b0651c506600aa6b1b45e127775d2d0c723ec3f31cd3efe", func := "pontage/pontagelaw12.ParamsValidity", spec := "paramsValidity", apart := false, narrowed := true }
def ParamsValidityUptoSaid : Prop := paramsValidityUptoRow.holds Try.pinned (OpenSpec.upto paramsValiditySpec)

/-- 'pontagelaw12.ParamsSet', WHERE WHAT IT READS IS OF BULK AT MOST 1048576: true; the input reads as it did. -/
def paramsSetUptoRow : OpenClaim := { program := "ytbnpgecpanfpiaa", sum := "75f8c36353c269936b0651c506600aa6b1b45e127775d2d0c723ec3f31cd3efe", func := "pontage/pontagelaw12.ParamsSet", spec := "paramsSet", apart := false, narrowed := true }
def ParamsSetUptoSaid : Prop := paramsSetUptoRow.holds Try.pinned (OpenSpec.upto paramsSetSpec)

/-- 'pontagelaw12.ParamsSetGet', WHERE WHAT IT READS IS OF BULK AT MOST 1048576: true; the input reads as it did. -/
def paramsSetGetUptoRow : OpenClaim := { program := "ytbnpgecpanfpiaa", sum := "75f8c36353c269936b0651c506600aa6b1b45e127775d2d0c723ec3f31cd3efe", func := "pontage/pontagelaw12.ParamsSetGet", spec := "paramsSetGet", apart := false, narrowed := true }
def ParamsSetGetUptoSaid : Prop := paramsSetGetUptoRow.holds Try.pinned (OpenSpec.upto paramsSetGetSpec)

/-- 'pontagelaw12.ParamsCommute', WHERE WHAT IT READS IS OF BULK AT MOST 1048576: true; the input reads as it did. -/
def paramsCommuteUptoRow : OpenClaim := { program := "ytbnpgecpanfpiaa", sum := "75f8c36353c269936b0651c506600aa6b1b45e127775d2d0c723ec3f31cd3efe", func := "pontage/pontagelaw12.ParamsCommute", spec := "paramsCommute", apart := false, narrowed := true }
def ParamsCommuteUptoSaid : Prop := paramsCommuteUptoRow.holds Try.pinned (OpenSpec.upto paramsCommuteSpec)

/-- 'pontagelaw12.ParamsRanges', WHERE WHAT IT READS IS OF BULK AT MOST 1048576: true; the input reads as it did. -/
def paramsRangesUptoRow : OpenClaim := { program := "ytbnpgecpanfpiaa", sum := "75f8c36353c269936b0651c506600aa6b1b45e127775d2d0c723ec3f31cd3efe", func := "pontage/pontagelaw12.ParamsRanges", spec := "paramsRanges", inPlace := ["math/bits.Add64"], apart := false, narrowed := true }
def ParamsRangesUptoSaid : Prop := paramsRangesUptoRow.holds Try.pinned (OpenSpec.upto paramsRangesSpec)

end Rows
end Go.Proofs.Ytbnpgecpanfpiaa
