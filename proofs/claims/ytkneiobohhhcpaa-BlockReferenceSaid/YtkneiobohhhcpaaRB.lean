/- A block that is known whole: loads and stores of whole rows of cells. -/
import Derived.WalkKit
import Derived.KernelRfl
import Derived.RowKit3
import Derived.Deep.LoopGhost
import Derived.Deep.QuietTactic
import Derived.BigQuiet
import Derived.WideLaws
import Derived.Laws.Rows
import Derived.Below
import Derived.Deep.Draws
import Derived.Outline
import Derived.LoopN
import Derived.Handy
import Derived.Laws.Externs
import Derived.Laws.BitsAllLaws
import Derived.Laws.BitsLemmas
import Derived.Deep.DeepCutAuto
import Derived.Deep.CutBlock
import Derived.Deep.RegionHeld3
import Derived.Test.YtkneiobohhhcpaaP6
namespace Go.Proofs.Ytkneiobohhhcpaa
open Go.RowKit
set_option linter.unusedVariables false
set_option linter.unusedSimpArgs false
/-- block g is this row of cells -/
def RBlk (w : World) (g : Nat) (cs : Array Value) (T : TypeId) : Prop := w.heap[g]? = some (.cells cs T (0, 0))
section
variable {w w' : World} {g b B : Nat} {cs ds : Array Value} {T : TypeId}
theorem RBlk.lt (h : RBlk w g cs T) : g < w.heap.size := (Array.getElem?_eq_some_iff.1 h).1
theorem RBlk.cell (h : RBlk w g cs T) (i : Nat) : w.cell? ⟨g, i, none⟩ = cs[i]? := cell_of_row w g i _ _ (0, 0) h
theorem RBlk.free (h : RBlk w g cs T) (i : Nat) : w.frozen? ⟨g, i, none⟩ = false := by
  unfold RBlk at h
  simp [World.frozen?, h]
theorem RBlk.range (h : RBlk w g cs T) : w.rangeAt g 0 cs.toList := by
  intro j v hj
  rw [Nat.zero_add, h.cell j, ← hj, Array.getElem?_toList]
theorem RBlk.there (h : RBlk w g cs T) : w.there g 0 cs.size := by
  intro j hj
  rw [Nat.zero_add, h.cell j, h.free, Array.getElem?_eq_getElem hj]
  exact ⟨rfl, rfl⟩
theorem RBlk.new (w : World) (cs : Array Value) (T : TypeId) : RBlk (w.alloc (.cells cs T)) w.heap.size cs T := Go.heap_alloc_new w _
theorem RBlk.below (h : RBlk w g cs T) (hb : Below B w w') (hg : g < B) : RBlk w' g cs T := (hb.block g hg).trans h
theorem RBlk.alloc (h : RBlk w g cs T) (o : Obj) : RBlk (w.alloc o) g cs T := (Below.heap_alloc w o g h.lt).trans h
theorem RBlk.drew (h : RBlk w g cs T) : RBlk w.drew g cs T := h
theorem RBlk.far {i : Nat} (h : RBlk w g cs T) (hn : b ≠ g) (v : Value) : RBlk (w.setCell ⟨b, i, none⟩ v) g cs T := heap_setF h hn
theorem RBlk.set {i : Nat} (h : RBlk w g cs T) (v : Value) : RBlk (w.setCell ⟨g, i, none⟩ v) g (cs.setIfInBounds i v) T := heap_setC h
theorem RBlk.putFar (h : RBlk w g cs T) (hn : b ≠ g) (vs : List Value) : RBlk (w.setCells b 0 vs) g cs T := heap_setCells_far hn vs 0 w h
theorem RBlk.put (h : RBlk w g cs T) (hs : ds.size = cs.size) : RBlk (w.setCells g 0 ds.toList) g ds T := by
  obtain ⟨es, h1, h2, h3⟩ := heap_setCells ds.toList 0 w _ h
  have e : es = ds := by
    apply Array.ext_getElem?
    intro j
    rw [h3, Array.length_toList, hs]
    rcases Nat.lt_or_ge j cs.size with hj | hj
    · rw [if_pos (by omega), Nat.sub_zero, Array.getElem?_toList]
    · rw [if_neg (by omega), Array.getElem?_eq_none hj, Array.getElem?_eq_none (by omega)]
  rw [e] at h1
  exact h1
end
theorem PBlk.row {w : World} {g : Nat} {P : Nat → Int} (h : PBlk w g P) : RBlk w g (pC P) 27 := h
/-- what a store into block g leaves of all else -/
def Same (w w' : World) (g : Nat) : Prop := (∀ B W, B ≤ g → Below B W w → Below B W w') ∧ w'.heap.size = w.heap.size ∧ ∀ b, b ≠ g → w'.heap[b]? = w.heap[b]?
theorem Same.row {w w' : World} {g b : Nat} {cs : Array Value} {T : TypeId} (h : Same w w' g) (hb : RBlk w b cs T) (hn : b ≠ g) : RBlk w' b cs T := (h.2.2 b hn).trans hb
theorem size_setCells (g : Nat) : ∀ (vs : List Value) (o : Nat) (W : World), (W.setCells g o vs).heap.size = W.heap.size
  | [], o, W => rfl
  | v :: vs, o, W => (size_setCells g vs (o + 1) _).trans (by simp)
section
variable {ops : Array Oper} {rest : List Oper} {op : Oper} {a : Act} {w : World} {Q : Exit → Act → World → Prop} {g : Nat} {cs ds : Array Value} {T : TypeId} {d : TypeDesc}
theorem wpList_load_rowR (hw : Region.wanted op (yielded ops a.tmps) = true) (x : Operand) (ho : op.op = .load T x) (hx : a.eval x = .pointer (some ⟨g, 0, none⟩)) (hb : RBlk w g cs T) (hu : Try.prog.underlying T = some d) (hd : d.isRow = true) (hi : (Try.prog.info? T).map (·.size) = some cs.size)
    (h : wpList Try.prog ops Q rest (a.put op.dst (.agg cs)) w) : wpList Try.prog ops Q (op :: rest) a w := by
  refine wpList_want hw fun K hK => ?_
  refine wp_load_mid (P := Try.prog) T x ho g 0 hx cs.toList d hb.range hu hd (by rw [Array.length_toList]; exact hi) ?_
  rw [Array.toArray_toList]
  exact hK _ _ h
theorem wpList_store_rowR (hw : Region.wanted op (yielded ops a.tmps) = true) (x y : Operand) (ho : op.op = .store T x y) (hx : a.eval x = .pointer (some ⟨g, 0, none⟩)) (hy : a.eval y = .agg ds) (hb : RBlk w g cs T) (hs : ds.size = cs.size) (hi : (Try.prog.info? T).map (·.size) = some ds.size) (h1 : ds.all (·.oneCell') = true)
    (h : ∀ w', RBlk w' g ds T → Same w w' g → wpList Try.prog ops Q rest (a.put op.dst undef) w') : wpList Try.prog ops Q (op :: rest) a w := by
  refine wpList_want hw fun K hK => ?_
  refine wp_store_mid (P := Try.prog) T x y ho g 0 ds hx hy (hs ▸ hb.there) hi h1 ?_
  exact hK _ _ (h _ (hb.put hs) ⟨fun B W hB hb' => below_setCells hB _ _ _ hb', size_setCells _ _ _ _, fun b hn => heap_setCells_far (fun e => hn e.symm) _ _ _ rfl⟩)
end
/-- results that lie in a row of cells -/
theorem results_rowR1 {fn : Func} {s : Tmp} {ty : TypeId} {g : Nat} {w : World} {cs : Array Value} {d : TypeDesc} {tmps : Array Value} (h : fn.results = #[.cell s ty]) (hs : tmps.getD s undef = .pointer (some ⟨g, 0, none⟩)) (hb : RBlk w g cs ty) (hu : Try.prog.underlying ty = some d) (hd : d.isRow = true) (hi : (Try.prog.info? ty).map (·.size) = some cs.size) :
    (results fn tmps).run Try.prog w = .ok (.agg cs) w := by
  have hr := run_loadVar_mid (P := Try.prog) w g 0 ty cs.toList d hb.range hu hd (by rw [hi, Array.length_toList])
  rw [Array.toArray_toList] at hr
  have hs' : tmps[s]?.getD undef = .pointer (some ⟨g, 0, none⟩) := by simpa using hs
  simp [results, h, hs', hr, asAddr, Result.andThen]
theorem results_rowR2 {fn : Func} {s u : Tmp} {ty : TypeId} {g : Nat} {w : World} {cs : Array Value} {d : TypeDesc} {tmps : Array Value} (h : fn.results = #[.cell s ty, .tmp u]) (hs : tmps.getD s undef = .pointer (some ⟨g, 0, none⟩)) (hb : RBlk w g cs ty) (hu : Try.prog.underlying ty = some d) (hd : d.isRow = true) (hi : (Try.prog.info? ty).map (·.size) = some cs.size) :
    (results fn tmps).run Try.prog w = .ok (.tuple #[.agg cs, tmps.getD u undef]) w := by
  have hr := run_loadVar_mid (P := Try.prog) w g 0 ty cs.toList d hb.range hu hd (by rw [hi, Array.length_toList])
  rw [Array.toArray_toList] at hr
  have hs' : tmps[s]?.getD undef = .pointer (some ⟨g, 0, none⟩) := by simpa using hs
  simp [results, h, hs', hr, asAddr, Result.andThen]
end Go.Proofs.Ytkneiobohhhcpaa
