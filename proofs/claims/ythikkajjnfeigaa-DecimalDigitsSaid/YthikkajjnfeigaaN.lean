/- Named steps: every operation on memory leaves a world with a name of its own, and facts on whole blocks. -/
import Derived.WalkKit
import Derived.KernelRfl
import Derived.RowKit3
import Derived.Deep.LoopGhost
import Derived.Deep.QuietTactic
import Derived.BigQuiet
import Derived.WideLaws
import Derived.Laws.Rows
import Derived.Below
import Derived.Deep.Draws
import Derived.Outline
import Derived.LoopN
import Derived.Handy
import Derived.Laws.Externs
import Derived.Laws.BitsAllLaws
import Derived.Laws.BitsLemmas
import Derived.Deep.DeepCutAuto
import Derived.Deep.CutBlock
import Derived.Deep.RegionHeld3
import Derived.Deep.MidRow
import Derived.Deep.WholeRow
namespace Go.Proofs.Ythikkajjnfeigaa
open Go.RowKit
set_option linter.unusedVariables false
set_option linter.unusedSimpArgs false
/-- block g is this row of cells -/
def NB (w : World) (g : Nat) (cs : Array Value) (T : TypeId) : Prop := w.heap[g]? = some (.cells cs T (0, 0))
theorem n_setC {W : World} {g i : Nat} {cs : Array Value} {t : TypeId} {fr : Nat × Nat} {v : Value} (h : W.heap[g]? = some (.cells cs t fr)) : (W.setCell ⟨g, i, none⟩ v).heap[g]? = some (.cells (cs.setIfInBounds i v) t fr) := by
  simp only [World.setCell, Array.getElem?_modify, if_true]
  rw [h]
  rfl
theorem n_setF {W : World} {b g i : Nat} {v : Value} {o : Option Obj} (h : W.heap[g]? = o) (hn : b ≠ g) : (W.setCell ⟨b, i, none⟩ v).heap[g]? = o := by
  rw [← h]
  simp [World.setCell, Array.getElem?_modify, hn]
/-- the row with the values vs laid over it from o on -/
def splice (cs : Array Value) (o : Nat) (vs : List Value) : Array Value := (cs.toList.take o ++ vs ++ cs.toList.drop (o + vs.length)).toArray
theorem splice_get {cs : Array Value} {o : Nat} {vs : List Value} (h : o + vs.length ≤ cs.size) (j : Nat) : (splice cs o vs)[j]? = if j < o then cs[j]? else if j < o + vs.length then vs[j - o]? else cs[j]? := by
  unfold splice
  have hl : cs.toList.length = cs.size := Array.length_toList
  rw [List.getElem?_toArray, List.append_assoc, List.getElem?_append, List.getElem?_append, List.length_take, hl, show min o cs.size = o by omega, List.getElem?_take, List.getElem?_drop]
  by_cases h1 : j < o
  · rw [if_pos h1, if_pos h1, if_pos h1, Array.getElem?_toList]
  · rw [if_neg h1, if_neg h1]
    by_cases h2 : j < o + vs.length
    · rw [if_pos (by omega), if_pos h2]
    · rw [if_neg (by omega), if_neg h2, Array.getElem?_toList]
      congr 1
      omega
theorem n_set_list {cs : Array Value} {o : Nat} {v : Value} {vs : List Value} (h : o + (v :: vs).length ≤ cs.size) : splice (cs.setIfInBounds o v) (o + 1) vs = splice cs o (v :: vs) := by
  apply Array.ext_getElem?
  intro j
  simp only [List.length_cons] at h
  rw [splice_get (by simp; omega), splice_get (by simp; omega), Array.getElem?_setIfInBounds]
  simp only [List.length_cons]
  rcases Nat.lt_trichotomy j o with hj | hj | hj
  · rw [if_pos (by omega), if_pos hj, if_neg (by omega)]
  · subst hj
    rw [if_pos (by omega), if_pos rfl, if_pos (by omega), if_neg (by omega), if_pos (by omega), Nat.sub_self]
    rfl
  · rw [if_neg (by omega), if_neg (show ¬ j < o by omega), if_neg (show ¬ o = j by omega)]
    by_cases h2 : j < o + 1 + vs.length
    · rw [if_pos h2, if_pos (by omega), show j - o = (j - (o + 1)) + 1 by omega]
      rfl
    · rw [if_neg h2, if_neg (by omega)]
theorem n_setCells {g : Nat} {t : TypeId} {fr : Nat × Nat} : ∀ (vs : List Value) (o : Nat) (W : World) (cs : Array Value), o + vs.length ≤ cs.size → W.heap[g]? = some (.cells cs t fr) → (W.setCells g o vs).heap[g]? = some (.cells (splice cs o vs) t fr)
  | [], o, W, cs, hl, h => by
    have : splice cs o [] = cs := by unfold splice; simp
    rw [this]
    exact h
  | v :: vs, o, W, cs, hl, h => by
    have := n_setCells vs (o + 1) (W.setCell ⟨g, o, none⟩ v) (cs.setIfInBounds o v) (by simp at hl ⊢; omega) (n_setC h)
    rw [n_set_list hl] at this
    exact this
theorem n_below_setCells {B g : Nat} {w : World} (hg : B ≤ g) : ∀ (vs : List Value) (o : Nat) (W : World), Below B w W → Below B w (W.setCells g o vs)
  | [], o, W, h => h
  | v :: vs, o, W, h => n_below_setCells hg vs (o + 1) _ (h.setCell hg v)
theorem n_far {b g : Nat} {x : Option Obj} (hn : b ≠ g) : ∀ (vs : List Value) (o : Nat) (W : World), W.heap[g]? = x → (W.setCells b o vs).heap[g]? = x
  | [], o, W, h => h
  | v :: vs, o, W, h => n_far hn vs (o + 1) _ (n_setF h hn)
theorem n_size (g : Nat) : ∀ (vs : List Value) (o : Nat) (W : World), (W.setCells g o vs).heap.size = W.heap.size
  | [], o, W => rfl
  | v :: vs, o, W => (n_size g vs (o + 1) _).trans (by simp)
section
variable {w w' : World} {g b B : Nat} {cs ds : Array Value} {T : TypeId}
theorem NB.lt (h : NB w g cs T) : g < w.heap.size := (Array.getElem?_eq_some_iff.1 h).1
theorem NB.cell (h : NB w g cs T) (i : Nat) : w.cell? ⟨g, i, none⟩ = cs[i]? := cell_of_row w g i _ _ (0, 0) h
theorem NB.free (h : NB w g cs T) (i : Nat) : w.frozen? ⟨g, i, none⟩ = false := by
  unfold NB at h
  simp [World.frozen?, h]
theorem NB.range (h : NB w g cs T) : w.rangeAt g 0 cs.toList := by
  intro j v hj
  rw [Nat.zero_add, h.cell j, ← hj, Array.getElem?_toList]
theorem NB.rangeAt (h : NB w g cs T) {o : Nat} {l : List Value} (hl : (cs.toList.drop o).take l.length = l) : w.rangeAt g o l := by
  intro j v hj
  rw [h.cell, ← Array.getElem?_toList, ← hj, ← hl, List.getElem?_take, if_pos, List.getElem?_drop]
  · have := (List.getElem?_eq_some_iff.1 hj).1
    exact this
theorem NB.there (h : NB w g cs T) {o n : Nat} (ho : o + n ≤ cs.size) : w.there g o n := by
  intro j hj
  rw [h.cell, h.free, Array.getElem?_eq_getElem (show o + j < cs.size by omega)]
  exact ⟨rfl, rfl⟩
theorem NB.below (h : NB w g cs T) (hb : Below B w w') (hg : g < B) : NB w' g cs T := (hb.block g hg).trans h
theorem NB.new (w : World) (cs : Array Value) (T : TypeId) : NB (w.alloc (.cells cs T)) w.heap.size cs T := Go.heap_alloc_new w _
end
/-- what a store into block g leaves of all else -/
structure Upd (w w' : World) (g : Nat) : Prop where
  keep : ∀ B W, B ≤ g → Below B W w → Below B W w'
  size : w'.heap.size = w.heap.size
  far : ∀ b, b ≠ g → w'.heap[b]? = w.heap[b]?
theorem NB.upd {w w' : World} {g b : Nat} {cs : Array Value} {T : TypeId} (hb : NB w b cs T) (h : Upd w w' g) (hn : b ≠ g) : NB w' b cs T := (h.far b hn).trans hb
theorem Upd.of (w : World) (g o : Nat) (vs : List Value) : Upd w (w.setCells g o vs) g := ⟨fun _ _ hB hb => n_below_setCells hB _ _ _ hb, n_size _ _ _ _, fun _ hn => n_far (fun e => hn e.symm) _ _ _ rfl⟩
/-- all that was there is as it was, but for block g -/
structure Exc (g : Nat) (w w' : World) : Prop where
  os : w'.os = w.os
  tape : w'.tape = w.tape
  output : w'.output = w.output
  size : w.heap.size ≤ w'.heap.size
  block : ∀ k, k < w.heap.size → k ≠ g → w'.heap[k]? = w.heap[k]?
theorem Exc.refl (g : Nat) (w : World) : Exc g w w.drew := ⟨rfl, rfl, rfl, Nat.le_refl _, fun _ _ _ => rfl⟩
theorem Exc.trans {g : Nat} {w w' w'' : World} (h : Exc g w w') (hb : Below w'.heap.size w' w'') : Exc g w w'' :=
  ⟨hb.os.trans h.os, hb.tape.trans h.tape, hb.output.trans h.output, Nat.le_trans h.size hb.size, fun k hk hn => (hb.block k (Nat.lt_of_lt_of_le hk h.size)).trans (h.block k hk hn)⟩
theorem Exc.upd {g : Nat} {w w' w'' : World} (h : Exc g w w') (hu : Upd w' w'' g) : Exc g w w'' := by
  have hb := hu.keep 0 w' (Nat.zero_le _) (Below.refl _ _)
  exact ⟨hb.os.trans h.os, hb.tape.trans h.tape, hb.output.trans h.output, by rw [hu.size]; exact h.size, fun k hk hn => (hu.far k hn).trans (h.block k hk hn)⟩
theorem Exc.below {g B : Nat} {a w w' : World} (h : Exc g w w') (hb : Below B a w) (hg : B ≤ g) (hB : B ≤ w.heap.size) : Below B a w' :=
  hb.trans ⟨h.os, h.tape, h.output, h.size, fun k hk => h.block k (by omega) (by omega)⟩
theorem NB.exc {w w' : World} {g b : Nat} {cs : Array Value} {T : TypeId} (hn : NB w b cs T) (h : Exc g w w') (hne : b ≠ g) : NB w' b cs T := (h.block b hn.lt hne).trans hn
theorem n_want {P : Program} {ops : Array Oper} {Q : Exit → Act → World → Prop} {a : Act} {w : World} {rest : List Oper} {o : Oper} (hw : Region.wanted o (yielded ops a.tmps) = true)
    (h : ∀ K : Act → World → Prop, (∀ a w, wpList P ops Q rest a w → K a w) → o.wp P a w K Q) : wpList P ops Q (o :: rest) a w :=
  wpList_step fun K hK => by rw [if_pos hw]; exact h K hK
section
variable {P : Program} {op : Oper} {a : Act} {w : World} {K : Act → World → Prop} {Q : Exit → Act → World → Prop} {T T' : TypeId} {g : Nat} {cs : Array Value}
theorem o_alloc (ho : op.op = .alloc T) {v : Value} {n : Nat} (hz : (P.info? T).map (fun i => (i.zero, i.size)) = some (some v, n))
    (h : K (a.put op.dst (.pointer (some ⟨w.heap.size, 0, none⟩))) (w.alloc (.cells v.cells T))) : op.wp P a w K Q := by
  have hzv := (zero_of_info hz).1
  unfold Oper.wp execOp
  simp only [ho, Instr.alloc, newVar, newRow, Sem.run_bind, Sem.run_pure, Result.andThen_ok, hzv, run_newObj_alloc]
  exact h
theorem o_box {x : Operand} (ho : op.op = .box T x) {v : Value} (hx : a.eval x = v)
    (h : K (a.put op.dst (.pointer (some ⟨w.heap.size, 0, none⟩))) (w.alloc (.cells v.cells T))) : op.wp P a w K Q := by
  unfold Oper.wp execOp
  simp only [ho, hx, Instr.box, newVar, newRow, Sem.run_bind, Sem.run_pure, Result.andThen_ok, run_newObj_alloc]
  exact h
theorem o_load {x : Operand} (ho : op.op = .load T x) {o : Nat} (hx : a.eval x = .pointer (some ⟨g, o, none⟩)) (hb : NB w g cs T') {v : Value} (hv : cs[o]? = some v) {d : TypeDesc} (hu : P.underlying T = some d) (hd : d.isRow = false)
    (h : K (a.put op.dst v) w) : op.wp P a w K Q := by
  have hagg : (isAgg T).run P w = .ok false w := by
    unfold isAgg
    rw [Sem.run_bind, run_underlying hu w]
    cases d <;> simp_all
  have hl := (hb.cell o).trans hv
  unfold Oper.wp execOp
  simp [ho, hx, Instr.loadAt, Instr.sureAddr, loadVar, Sem.run_bind, hagg, hl]
  exact h
theorem o_loads {x : Operand} (ho : op.op = .load T x) {o : Nat} (hx : a.eval x = .pointer (some ⟨g, o, none⟩)) (hb : NB w g cs T') {l : List Value} (hl : (cs.toList.drop o).take l.length = l) {d : TypeDesc} (hu : P.underlying T = some d) (hd : d.isRow = true) (hi : (P.info? T).map (·.size) = some l.length)
    (h : K (a.put op.dst (.agg l.toArray)) w) : op.wp P a w K Q :=
  wp_load_mid T x ho g o hx l d (hb.rangeAt hl) hu hd hi h
theorem o_store {x y : Operand} (ho : op.op = .store T x y) {o : Nat} (hx : a.eval x = .pointer (some ⟨g, o, none⟩)) {v : Value} (hy : a.eval y = v) (hv : v.cells = #[v]) (h1 : v.oneCell' = true) (hb : NB w g cs T') (hs : o < cs.size) (hi : (P.info? T).map (·.size) = some 1)
    (h : K (a.put op.dst undef) (w.setCells g o [v])) : op.wp P a w K Q := by
  have ht := hb.there (o := o) (n := 1) (by omega)
  have hst := run_storeCells_cells (P := P) g o [v] 0 w (fun j hj => by simpa using (ht j (by simpa using hj)).1) (fun j hj => by simpa using (ht j (by simpa using hj)).2) (fun u hu => by simp at hu; rw [hu]; exact h1)
  unfold Oper.wp execOp
  cases hq : P.info? T with
  | none => simp [hq] at hi
  | some i =>
    have hs1 : i.size = 1 := by simpa [hq] using hi
    simp only [Nat.add_zero] at hst
    simp [ho, hx, hy, Instr.storeAt, Instr.sureAddr, storeVar, sizeOf, typeInfo, hq, hv, hs1, hst, Sem.run_bind]
    exact h
theorem o_stores {x y : Operand} (ho : op.op = .store T x y) {o : Nat} (hx : a.eval x = .pointer (some ⟨g, o, none⟩)) {vs : Array Value} (hy : a.eval y = .agg vs) (h1 : vs.all (·.oneCell') = true) (hb : NB w g cs T') (hs : o + vs.size ≤ cs.size) (hi : (P.info? T).map (·.size) = some vs.size)
    (h : K (a.put op.dst undef) (w.setCells g o vs.toList)) : op.wp P a w K Q :=
  wp_store_mid T x y ho g o vs hx hy (hb.there hs) hi h1 h
end
section
variable {P : Program} {ops : Array Oper} {rest : List Oper} {op : Oper} {a : Act} {w : World} {Q : Exit → Act → World → Prop} {T T' : TypeId} {g : Nat} {cs : Array Value}
theorem n_alloc (hw : Region.wanted op (yielded ops a.tmps) = true) (ho : op.op = .alloc T) {v : Value} {n : Nat} (hz : (P.info? T).map (fun i => (i.zero, i.size)) = some (some v, n)) {ds : Array Value} (hds : v.cells = ds)
    (h : ∀ w', NB w' w.heap.size ds T → Below w.heap.size w w' → wpList P ops Q rest (a.put op.dst (.pointer (some ⟨w.heap.size, 0, none⟩))) w') : wpList P ops Q (op :: rest) a w :=
  n_want hw fun K hK => o_alloc ho hz (hK _ _ (h _ (hds ▸ NB.new _ _ _) ((Below.refl _ _).alloc (Nat.le_refl _) _)))
theorem n_box (hw : Region.wanted op (yielded ops a.tmps) = true) {x : Operand} (ho : op.op = .box T x) {v : Value} (hx : a.eval x = v) {ds : Array Value} (hds : v.cells = ds)
    (h : ∀ w', NB w' w.heap.size ds T → Below w.heap.size w w' → wpList P ops Q rest (a.put op.dst (.pointer (some ⟨w.heap.size, 0, none⟩))) w') : wpList P ops Q (op :: rest) a w :=
  n_want hw fun K hK => o_box ho hx (hK _ _ (h _ (hds ▸ NB.new _ _ _) ((Below.refl _ _).alloc (Nat.le_refl _) _)))
theorem n_load (hw : Region.wanted op (yielded ops a.tmps) = true) {x : Operand} (ho : op.op = .load T x) {o : Nat} (hx : a.eval x = .pointer (some ⟨g, o, none⟩)) (hb : NB w g cs T') {v : Value} (hv : cs[o]? = some v) {d : TypeDesc} (hu : P.underlying T = some d) (hd : d.isRow = false)
    (h : wpList P ops Q rest (a.put op.dst v) w) : wpList P ops Q (op :: rest) a w :=
  n_want hw fun K hK => o_load ho hx hb hv hu hd (hK _ _ h)
theorem n_loads (hw : Region.wanted op (yielded ops a.tmps) = true) {x : Operand} (ho : op.op = .load T x) {o : Nat} (hx : a.eval x = .pointer (some ⟨g, o, none⟩)) (hb : NB w g cs T') {ds : Array Value} (hl : (cs.toList.drop o).take ds.toList.length = ds.toList) {d : TypeDesc} (hu : P.underlying T = some d) (hd : d.isRow = true) (hi : (P.info? T).map (·.size) = some ds.toList.length)
    (h : wpList P ops Q rest (a.put op.dst (.agg ds)) w) : wpList P ops Q (op :: rest) a w :=
  n_want hw fun K hK => o_loads ho hx hb hl hu hd hi (hK _ _ (by rw [Array.toArray_toList]; exact h))
theorem n_loadr (hw : Region.wanted op (yielded ops a.tmps) = true) {x : Operand} (ho : op.op = .load T x) {o : Nat} (hx : a.eval x = .pointer (some ⟨g, o, none⟩)) {ds : Array Value} (hb : w.rangeAt g o ds.toList) {d : TypeDesc} (hu : P.underlying T = some d) (hd : d.isRow = true) (hi : (P.info? T).map (·.size) = some ds.toList.length)
    (h : wpList P ops Q rest (a.put op.dst (.agg ds)) w) : wpList P ops Q (op :: rest) a w :=
  n_want hw fun K hK => wp_load_mid T x ho g o hx ds.toList d hb hu hd hi (hK _ _ (by rw [Array.toArray_toList]; exact h))
theorem n_loadc (hw : Region.wanted op (yielded ops a.tmps) = true) {x : Operand} (ho : op.op = .load T x) {o : Nat} (hx : a.eval x = .pointer (some ⟨g, o, none⟩)) {v : Value} (hv : w.cell? ⟨g, o, none⟩ = some v) {d : TypeDesc} (hu : P.underlying T = some d) (hd : d.isRow = false)
    (h : wpList P ops Q rest (a.put op.dst v) w) : wpList P ops Q (op :: rest) a w :=
  n_want hw fun K hK => by
    have hagg : (isAgg T).run P w = .ok false w := by
      unfold isAgg
      rw [Sem.run_bind, run_underlying hu w]
      cases d <;> simp_all
    unfold Oper.wp execOp
    simp [ho, hx, Instr.loadAt, Instr.sureAddr, loadVar, Sem.run_bind, hagg, hv]
    exact hK _ _ h
/-- a whole row, out of its head -/
theorem n_loadw (hw : Region.wanted op (yielded ops a.tmps) = true) {x : Operand} (ho : op.op = .load T x) (hx : a.eval x = .pointer (some ⟨g, 0, none⟩)) (hb : NB w g cs T') {d : TypeDesc} (hu : P.underlying T = some d) (hd : d.isRow = true) (hi : (P.info? T).map (·.size) = some cs.size)
    (h : wpList P ops Q rest (a.put op.dst (.agg cs)) w) : wpList P ops Q (op :: rest) a w :=
  n_loads hw ho hx hb (by rw [List.drop_zero, List.take_length]) hu hd (by rw [Array.length_toList]; exact hi) h
theorem n_store (hw : Region.wanted op (yielded ops a.tmps) = true) {x y : Operand} (ho : op.op = .store T x y) {o : Nat} (hx : a.eval x = .pointer (some ⟨g, o, none⟩)) {v : Value} (hy : a.eval y = v) (hv : v.cells = #[v]) (h1 : v.oneCell' = true) (hb : NB w g cs T') (hs : o < cs.size) (hi : (P.info? T).map (·.size) = some 1)
    (h : ∀ w', NB w' g (cs.setIfInBounds o v) T' → Upd w w' g → wpList P ops Q rest (a.put op.dst undef) w') : wpList P ops Q (op :: rest) a w :=
  n_want hw fun K hK => o_store ho hx hy hv h1 hb hs hi (hK _ _ (h _ (n_setC hb) (Upd.of _ _ _ _)))
theorem n_stores (hw : Region.wanted op (yielded ops a.tmps) = true) {x y : Operand} (ho : op.op = .store T x y) {o : Nat} (hx : a.eval x = .pointer (some ⟨g, o, none⟩)) {vs : Array Value} (hy : a.eval y = .agg vs) (h1 : vs.all (·.oneCell') = true) (hb : NB w g cs T') (hs : o + vs.size ≤ cs.size) (hi : (P.info? T).map (·.size) = some vs.size)
    (h : ∀ w', NB w' g (splice cs o vs.toList) T' → Upd w w' g → wpList P ops Q rest (a.put op.dst undef) w') : wpList P ops Q (op :: rest) a w :=
  n_want hw fun K hK => o_stores ho hx hy h1 hb hs hi (hK _ _ (h _ (n_setCells _ _ _ _ (by rw [Array.length_toList]; exact hs) hb) (Upd.of _ _ _ _)))
/-- a whole row, from its head -/
theorem n_storew (hw : Region.wanted op (yielded ops a.tmps) = true) {x y : Operand} (ho : op.op = .store T x y) (hx : a.eval x = .pointer (some ⟨g, 0, none⟩)) {vs : Array Value} (hy : a.eval y = .agg vs) (h1 : vs.all (·.oneCell') = true) (hb : NB w g cs T') (hs : vs.size = cs.size) (hi : (P.info? T).map (·.size) = some vs.size)
    (h : ∀ w', NB w' g vs T' → Upd w w' g → wpList P ops Q rest (a.put op.dst undef) w') : wpList P ops Q (op :: rest) a w :=
  n_stores hw ho hx hy h1 hb (by omega) hi fun w' hn hu => h w' (by
    have e : splice cs 0 vs.toList = vs := by
      unfold splice
      rw [List.drop_eq_nil_of_le (by simp; omega)]
      simp
    rw [e] at hn
    exact hn) hu
end
/-! the same at one operation (in a region that draws its order) -/
section
variable {P : Program} {op : Oper} {a : Act} {w : World} {K : Act → World → Prop} {Q : Exit → Act → World → Prop} {T T' : TypeId} {g : Nat} {cs : Array Value}
theorem q_alloc (ho : op.op = .alloc T) {v : Value} {n : Nat} (hz : (P.info? T).map (fun i => (i.zero, i.size)) = some (some v, n)) {ds : Array Value} (hds : v.cells = ds)
    (h : ∀ w', NB w' w.heap.size ds T → Below w.heap.size w w' → K (a.put op.dst (.pointer (some ⟨w.heap.size, 0, none⟩))) w') : op.wp P a w K Q :=
  o_alloc ho hz (h _ (hds ▸ NB.new _ _ _) ((Below.refl _ _).alloc (Nat.le_refl _) _))
theorem q_box {x : Operand} (ho : op.op = .box T x) {v : Value} (hx : a.eval x = v) {ds : Array Value} (hds : v.cells = ds)
    (h : ∀ w', NB w' w.heap.size ds T → Below w.heap.size w w' → K (a.put op.dst (.pointer (some ⟨w.heap.size, 0, none⟩))) w') : op.wp P a w K Q :=
  o_box ho hx (h _ (hds ▸ NB.new _ _ _) ((Below.refl _ _).alloc (Nat.le_refl _) _))
theorem q_load {x : Operand} (ho : op.op = .load T x) {o : Nat} (hx : a.eval x = .pointer (some ⟨g, o, none⟩)) (hb : NB w g cs T') {v : Value} (hv : cs[o]? = some v) {d : TypeDesc} (hu : P.underlying T = some d) (hd : d.isRow = false)
    (h : K (a.put op.dst v) w) : op.wp P a w K Q := o_load ho hx hb hv hu hd h
theorem q_loads {x : Operand} (ho : op.op = .load T x) {o : Nat} (hx : a.eval x = .pointer (some ⟨g, o, none⟩)) (hb : NB w g cs T') {ds : Array Value} (hl : (cs.toList.drop o).take ds.toList.length = ds.toList) {d : TypeDesc} (hu : P.underlying T = some d) (hd : d.isRow = true) (hi : (P.info? T).map (·.size) = some ds.toList.length)
    (h : K (a.put op.dst (.agg ds)) w) : op.wp P a w K Q := o_loads ho hx hb hl hu hd hi (by rw [Array.toArray_toList]; exact h)
theorem q_store {x y : Operand} (ho : op.op = .store T x y) {o : Nat} (hx : a.eval x = .pointer (some ⟨g, o, none⟩)) {v : Value} (hy : a.eval y = v) (hv : v.cells = #[v]) (h1 : v.oneCell' = true) (hb : NB w g cs T') (hs : o < cs.size) (hi : (P.info? T).map (·.size) = some 1)
    (h : ∀ w', NB w' g (cs.setIfInBounds o v) T' → Upd w w' g → K (a.put op.dst undef) w') : op.wp P a w K Q :=
  o_store ho hx hy hv h1 hb hs hi (h _ (n_setC hb) (Upd.of _ _ _ _))
theorem q_stores {x y : Operand} (ho : op.op = .store T x y) {o : Nat} (hx : a.eval x = .pointer (some ⟨g, o, none⟩)) {vs : Array Value} (hy : a.eval y = .agg vs) (h1 : vs.all (·.oneCell') = true) (hb : NB w g cs T') (hs : o + vs.size ≤ cs.size) (hi : (P.info? T).map (·.size) = some vs.size)
    (h : ∀ w', NB w' g (splice cs o vs.toList) T' → Upd w w' g → K (a.put op.dst undef) w') : op.wp P a w K Q :=
  o_stores ho hx hy h1 hb hs hi (h _ (n_setCells _ _ _ _ (by rw [Array.length_toList]; exact hs) hb) (Upd.of _ _ _ _))
theorem q_storew {x y : Operand} (ho : op.op = .store T x y) (hx : a.eval x = .pointer (some ⟨g, 0, none⟩)) {vs : Array Value} (hy : a.eval y = .agg vs) (h1 : vs.all (·.oneCell') = true) (hb : NB w g cs T') (hs : vs.size = cs.size) (hi : (P.info? T).map (·.size) = some vs.size)
    (h : ∀ w', NB w' g vs T' → Upd w w' g → K (a.put op.dst undef) w') : op.wp P a w K Q :=
  q_stores ho hx hy h1 hb (by omega) hi fun w' hn hu => h w' (by
    have e : splice cs 0 vs.toList = vs := by
      unfold splice
      rw [List.drop_eq_nil_of_le (by simp; omega)]
      simp
    rw [e] at hn
    exact hn) hu
end
/-- one result, as it is read at the return -/
def Reads (P : Program) (w : World) (tmps : Array Value) (r : ResultVar) (v : Value) : Prop := match r with | .tmp t => tmps.getD t undef = v | .cell a t => ∃ ad, tmps.getD a undef = .pointer (some ad) ∧ (loadVar t ad).run P w = .ok v w
section
variable {P : Program} {w : World} {tmps : Array Value} {g : Nat} {cs : Array Value} {T : TypeId}
theorem reads_tmp {t : Tmp} {v : Value} (h : tmps.getD t undef = v) : Reads P w tmps (.tmp t) v := h
theorem reads_row {a : Tmp} (h : tmps.getD a undef = .pointer (some ⟨g, 0, none⟩)) (hb : NB w g cs T) {d : TypeDesc} (hu : P.underlying T = some d) (hd : d.isRow = true) (hi : (P.info? T).map (·.size) = some cs.size) : Reads P w tmps (.cell a T) (.agg cs) := by
  have hr := run_loadVar_mid (P := P) w g 0 T cs.toList d hb.range hu hd (by rw [Array.length_toList]; exact hi)
  rw [Array.toArray_toList] at hr
  exact ⟨_, h, hr⟩
theorem reads_cell {a : Tmp} (h : tmps.getD a undef = .pointer (some ⟨g, 0, none⟩)) (hb : NB w g cs T) {v : Value} (hv : cs[0]? = some v) {d : TypeDesc} (hu : P.underlying T = some d) (hd : d.isRow = false) : Reads P w tmps (.cell a T) v := by
  have hagg : (isAgg T).run P w = .ok false w := by
    unfold isAgg
    rw [Sem.run_bind, run_underlying hu w]
    cases d <;> simp_all
  have hl := (hb.cell 0).trans hv
  refine ⟨_, h, ?_⟩
  simp [loadVar, Sem.run_bind, hagg, hl]
theorem results1 {fn : Func} {r1 : ResultVar} {v1 : Value} (h : fn.results = #[r1]) (h1 : Reads P w tmps r1 v1) : (results fn tmps).run P w = .ok v1 w := by
  unfold Reads at h1
  all_goals (cases r1 <;> (try (obtain ⟨ad1, p1, q1⟩ := h1)) <;> (try (simp only [Array.getD_eq_getD_getElem?] at p1)) <;> (try (simp only [Array.getD_eq_getD_getElem?] at h1)))
  all_goals simp_all [results, asAddr, Result.andThen]
theorem results2 {fn : Func} {r1 r2 : ResultVar} {v1 v2 : Value} (h : fn.results = #[r1, r2]) (h1 : Reads P w tmps r1 v1) (h2 : Reads P w tmps r2 v2) : (results fn tmps).run P w = .ok (.tuple #[v1, v2]) w := by
  unfold Reads at h1 h2
  all_goals (cases r1 <;> (try (obtain ⟨ad1, p1, q1⟩ := h1)) <;> (try (simp only [Array.getD_eq_getD_getElem?] at p1)) <;> (try (simp only [Array.getD_eq_getD_getElem?] at h1)))
  all_goals (cases r2 <;> (try (obtain ⟨ad2, p2, q2⟩ := h2)) <;> (try (simp only [Array.getD_eq_getD_getElem?] at p2)) <;> (try (simp only [Array.getD_eq_getD_getElem?] at h2)))
  all_goals simp_all [results, asAddr, Result.andThen]
theorem results3 {fn : Func} {r1 r2 r3 : ResultVar} {v1 v2 v3 : Value} (h : fn.results = #[r1, r2, r3]) (h1 : Reads P w tmps r1 v1) (h2 : Reads P w tmps r2 v2) (h3 : Reads P w tmps r3 v3) : (results fn tmps).run P w = .ok (.tuple #[v1, v2, v3]) w := by
  unfold Reads at h1 h2 h3
  all_goals (cases r1 <;> (try (obtain ⟨ad1, p1, q1⟩ := h1)) <;> (try (simp only [Array.getD_eq_getD_getElem?] at p1)) <;> (try (simp only [Array.getD_eq_getD_getElem?] at h1)))
  all_goals (cases r2 <;> (try (obtain ⟨ad2, p2, q2⟩ := h2)) <;> (try (simp only [Array.getD_eq_getD_getElem?] at p2)) <;> (try (simp only [Array.getD_eq_getD_getElem?] at h2)))
  all_goals (cases r3 <;> (try (obtain ⟨ad3, p3, q3⟩ := h3)) <;> (try (simp only [Array.getD_eq_getD_getElem?] at p3)) <;> (try (simp only [Array.getD_eq_getD_getElem?] at h3)))
  all_goals simp_all [results, asAddr, Result.andThen]
end
end Go.Proofs.Ythikkajjnfeigaa
