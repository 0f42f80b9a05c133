/- Chapter 9: compression against its reference, and the round trip, walked. -/
import Derived.WalkKit
import Derived.KernelRfl
import Derived.RowKit3
import Derived.Deep.LoopGhost
import Derived.Deep.QuietTactic
import Derived.BigQuiet
import Derived.WideLaws
import Derived.Laws.Rows
import Derived.Below
import Derived.Deep.Draws
import Derived.Outline
import Derived.LoopN
import Derived.Handy
import Derived.Laws.Externs
import Derived.Laws.BitsAllLaws
import Derived.Laws.BitsLemmas
import Derived.Deep.DeepCutAuto
import Derived.Deep.CutBlock
import Derived.Deep.RegionHeld3
import Derived.Test.YtfkfheapikgejaaZ9
import Derived.Test.YtfkfheapikgejaaZ8
namespace Go.Proofs.Ytfkfheapikgejaa
open Go.RowKit
set_option linter.unusedVariables false
set_option linter.unusedSimpArgs false
theorem Owns.row {w : World} {B : Nat} {A : Option Addr} {n c : Nat} {o : List UInt8} (h : Owns w B (.slice A n c) o) : BRow w A o := by
  obtain ⟨A', c', e, _, hr⟩ := h.shape
  injection e with e1 e2 e3
  rw [e1]
  exact hr
theorem comp_small {l : List UInt8} (h : l.length ≤ 100000) : (comp l 0 0).length ≤ 200000 := by have := comp_bound l; omega
end Go.Proofs.Ytfkfheapikgejaa
