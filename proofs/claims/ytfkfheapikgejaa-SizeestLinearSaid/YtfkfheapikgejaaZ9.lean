/- Chapter 9: the examples. -/
import Derived.WalkKit
import Derived.KernelRfl
import Derived.RowKit3
import Derived.Deep.LoopGhost
import Derived.Deep.QuietTactic
import Derived.BigQuiet
import Derived.WideLaws
import Derived.Laws.Rows
import Derived.Below
import Derived.Deep.Draws
import Derived.Outline
import Derived.LoopN
import Derived.Handy
import Derived.Laws.Externs
import Derived.Laws.BitsAllLaws
import Derived.Laws.BitsLemmas
import Derived.Deep.DeepCutAuto
import Derived.Deep.CutBlock
import Derived.Deep.RegionHeld3
import Derived.Test.YtfkfheapikgejaaZ7
import Derived.Lib.SlBytesConst
import Derived.Lib.SmallJoins
namespace Go.Proofs.Ytfkfheapikgejaa
open Go.RowKit
set_option linter.unusedVariables false
set_option linter.unusedSimpArgs false
theorem heap_new_at {w : World} {o : Obj} {g : Nat} (hg : g = w.heap.size) : (w.alloc o).heap[g]? = some o := by subst hg; exact heap_alloc_new w o
theorem BRow.lit {W : World} {g : Nat} {C : Array Value} {t : TypeId} {fr : Nat × Nat} {l : List UInt8} (h : W.heap[g]? = some (.cells C t fr)) (hC : C = (l.map bv).toArray) : BRow W (some ⟨g, 0, none⟩) l := by
  intro hl
  refine ⟨g, 0, rfl, fun i hi => ?_⟩
  rw [Nat.zero_add, cell_of_row W g i C t fr h, hC, gb, List.getD_eq_getElem?_getD, List.getElem?_eq_getElem hi]
  simp [bv, List.getElem?_eq_getElem hi]
theorem BRow.to {w w' : World} {ad : Option Addr} {l : List UInt8} (h : BRow w ad l) (hb : Below w.heap.size w w') : BRow w' ad l := h.below hb (Nat.le_refl _)
end Go.Proofs.Ytfkfheapikgejaa
