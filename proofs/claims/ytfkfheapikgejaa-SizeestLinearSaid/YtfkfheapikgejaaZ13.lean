/- Chapter 9: runs, and chains of matches, walked. -/
import Derived.WalkKit
import Derived.KernelRfl
import Derived.RowKit3
import Derived.Deep.LoopGhost
import Derived.Deep.QuietTactic
import Derived.BigQuiet
import Derived.WideLaws
import Derived.Laws.Rows
import Derived.Below
import Derived.Deep.Draws
import Derived.Outline
import Derived.LoopN
import Derived.Handy
import Derived.Laws.Externs
import Derived.Laws.BitsAllLaws
import Derived.Laws.BitsLemmas
import Derived.Deep.DeepCutAuto
import Derived.Deep.CutBlock
import Derived.Deep.RegionHeld3
import Derived.Test.YtfkfheapikgejaaZ10
import Derived.Test.YtfkfheapikgejaaMD
import Derived.Maps.AppendAt
import Derived.Deep.AppendLies
import Derived.Deep.QuietTactic
import Derived.BigQuiet
import Derived.Laws.OwnMore
import Derived.OwnWalk
namespace Go.Proofs.Ytfkfheapikgejaa
open Go.RowKit
set_option linter.unusedVariables false
set_option linter.unusedSimpArgs false
theorem made_zero (n : Nat) : (madeCells (Value.int .u8 0).cells (n * 1)).toList = (List.replicate n (0 : UInt8)).map bv := by
  rw [Nat.mul_one]
  exact (toList_madeCells_one _ n).trans (by rw [List.map_replicate]; rfl)
theorem u8_of {x : Int} (wx : (Lit.int .u8 x).wf = true) : ∃ X : UInt8, (X.toNat : Int) = x := by
  have hx8 : 0 ≤ x ∧ x < 256 := by
    simp [Lit.wf, IntKind.min, IntKind.max] at wx
    simp [IntKind.bits, IntKind.signed] at wx
    omega
  exact ⟨UInt8.ofNat x.toNat, by rw [toNat_of (by omega)]; omega⟩
def runL (K i : Nat) (X : UInt8) : List UInt8 := List.replicate i X ++ List.replicate (K - i) 0
theorem runL_len {K i : Nat} (X : UInt8) (h : i ≤ K) : (runL K i X).length = K := by unfold runL; simp; omega
theorem runL_set {K i : Nat} (X : UInt8) (h : i < K) : (runL K i X).set i X = runL K (i + 1) X := by
  unfold runL
  rw [List.set_append_right _ _ (by simp), List.length_replicate, Nat.sub_self, show K - i = (K - (i + 1)) + 1 by omega, List.replicate_succ, List.set_cons_zero, List.replicate_succ', List.append_assoc]
  rfl
theorem owns_set {w : World} {B g n cap i : Nat} {o o' : List UInt8} {X : UInt8} (hn : o.length = n) (h : Owns w B (.slice (some ⟨g, 0, none⟩) n cap) o) (ho : o.set i X = o') : Owns (w.setCell ⟨g, i, none⟩ (bv X)) B (.slice (some ⟨g, 0, none⟩) n cap) o' := by
  subst hn
  subst ho
  have h2 : w.ownsRow B 5 1 (.slice (some ⟨g, 0, none⟩) o.length cap) o.length (o.map bv) := h
  unfold Owns
  rw [List.map_set, List.length_set]
  exact (h2.stored i (bv X)).1
theorem owns_free {w : World} {B g n cap : Nat} {o : List UInt8} (hn : o.length = n) (h : Owns w B (.slice (some ⟨g, 0, none⟩) n cap) o) (i : Nat) : w.frozen? ⟨g, i, none⟩ = false := by
  subst hn
  have h2 : w.ownsRow B 5 1 (.slice (some ⟨g, 0, none⟩) o.length cap) o.length (o.map bv) := h
  exact h2.frozenAt i
end Go.Proofs.Ytfkfheapikgejaa
