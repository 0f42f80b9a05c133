/- params: load and store of the whole row in a plain region. -/
import Derived.WalkKit
import Derived.KernelRfl
import Derived.RowKit3
import Derived.Deep.LoopGhost
import Derived.Deep.QuietTactic
import Derived.BigQuiet
import Derived.WideLaws
import Derived.Laws.Rows
import Derived.Below
import Derived.Deep.Draws
import Derived.Outline
import Derived.LoopN
import Derived.Handy
import Derived.Laws.Externs
import Derived.Laws.BitsAllLaws
import Derived.Laws.BitsLemmas
import Derived.Deep.DeepCutAuto
import Derived.Deep.CutBlock
import Derived.Deep.RegionHeld3
import Derived.Test.YtkneiobohhhcpaaP7
namespace Go.Proofs.Ytkneiobohhhcpaa
open Go.RowKit
set_option linter.unusedVariables false
set_option linter.unusedSimpArgs false
theorem wpList_load_row26 {ops : Array Oper} {rest : List Oper} {op : Oper} {a : Act} {w : World} {Q : Exit → Act → World → Prop} (hgd : op.guard = none) (x : Operand) (ho : op.op = .load 27 x) {g : Nat} {P : Nat → Int} (hx : a.eval x = .pointer (some ⟨g, 0, none⟩)) (hb : PBlk w g P)
    (h : wpList Try.prog ops Q rest (a.put op.dst (.agg (pC P))) w) : wpList Try.prog ops Q (op :: rest) a w := by
  refine wpList_load_mid (P := Try.prog) hgd 27 x ho g 0 hx (pC P).toList _ hb.range Try.underlying27 rfl (by rw [pC_len]; exact sizeP) ?_
  rw [Array.toArray_toList]
  exact h
theorem wpList_store_row26 {ops : Array Oper} {rest : List Oper} {op : Oper} {a : Act} {w : World} {Q : Exit → Act → World → Prop} (hgd : op.guard = none) (x y : Operand) (ho : op.op = .store 27 x y) {g : Nat} {P0 : Nat → Int} (P : Nat → Int) (hx : a.eval x = .pointer (some ⟨g, 0, none⟩)) (hy : a.eval y = .agg (pC P)) (hb : PBlk w g P0)
    (h : ∀ w', PBlk w' g P → (∀ B W, B ≤ g → Below B W w → Below B W w') → (∀ b Q', b ≠ g → PBlk w b Q' → PBlk w' b Q') → wpList Try.prog ops Q rest (a.put op.dst undef) w') : wpList Try.prog ops Q (op :: rest) a w :=
  wpList_store_mid (P := Try.prog) hgd 27 x y ho g 0 (pC P) hx hy hb.there sizeP (pC_one _) (h _ (hb.put P) (fun B W hB hb => below_setCells hB _ _ _ hb) (fun b Q' hn hq => hq.putFar (fun e => hn e.symm) _))
theorem wp_load_row26 {op : Oper} {a : Act} {w : World} {K : Act → World → Prop} {Q : Exit → Act → World → Prop} (x : Operand) (ho : op.op = .load 27 x) {g : Nat} {P : Nat → Int} (hx : a.eval x = .pointer (some ⟨g, 0, none⟩)) (hb : PBlk w g P)
    (h : K (a.put op.dst (.agg (pC P))) w) : op.wp Try.prog a w K Q := by
  refine wp_load_mid (P := Try.prog) 27 x ho g 0 hx (pC P).toList _ hb.range Try.underlying27 rfl (by rw [pC_len]; exact sizeP) ?_
  rw [Array.toArray_toList]
  exact h
theorem wpList_want {P : Program} {ops : Array Oper} {Q : Exit → Act → World → Prop} {a : Act} {w : World} {rest : List Oper} {o : Oper} (hw : Region.wanted o (yielded ops a.tmps) = true)
    (h : ∀ K : Act → World → Prop, (∀ a w, wpList P ops Q rest a w → K a w) → o.wp P a w K Q) : wpList P ops Q (o :: rest) a w :=
  wpList_step fun K hK => by rw [if_pos hw]; exact h K hK
/-- The row's load where the operation is guarded, and wanted. -/
theorem wpList_load_row26g {ops : Array Oper} {rest : List Oper} {op : Oper} {a : Act} {w : World} {Q : Exit → Act → World → Prop} (hw : Region.wanted op (yielded ops a.tmps) = true) (x : Operand) (ho : op.op = .load 27 x) {g : Nat} {P : Nat → Int} (hx : a.eval x = .pointer (some ⟨g, 0, none⟩)) (hb : PBlk w g P)
    (h : wpList Try.prog ops Q rest (a.put op.dst (.agg (pC P))) w) : wpList Try.prog ops Q (op :: rest) a w :=
  wpList_want hw fun _ hK => wp_load_row26 x ho hx hb (hK _ _ h)
end Go.Proofs.Ytkneiobohhhcpaa
