/- Package pontageref1, walked: Sub. -/
import Derived.WalkKit
import Derived.KernelRfl
import Derived.RowKit3
import Derived.Deep.LoopGhost
import Derived.Deep.QuietTactic
import Derived.BigQuiet
import Derived.WideLaws
import Derived.Laws.Rows
import Derived.Below
import Derived.Deep.Draws
import Derived.Outline
import Derived.LoopN
import Derived.Handy
import Derived.Laws.Externs
import Derived.Laws.BitsAllLaws
import Derived.Laws.BitsLemmas
import Derived.Deep.DeepCutAuto
import Derived.Deep.CutBlock
import Derived.Deep.RegionHeld3
import Derived.Test.YtfkfheapikgejaaR5
import Derived.Laws.MakeOwn
namespace Go.Proofs.Ytfkfheapikgejaa
open Go.RowKit
set_option linter.unusedVariables false
set_option linter.unusedSimpArgs false
/-- Block g holds these digits, and no more. -/
def Blk (w : World) (g : Nat) (L : List Nat) : Prop := w.heap[g]? = some (.cells (L.map fun d : Nat => Value.int .i64 (d : Int)).toArray 3 (0, 0))
theorem Blk.lt {w : World} {g : Nat} {L : List Nat} (h : Blk w g L) : g < w.heap.size := (Array.getElem?_eq_some_iff.1 h).1
theorem Blk.cell {w : World} {g : Nat} {L : List Nat} (h : Blk w g L) {i : Nat} (hi : i < L.length) : w.cell? ⟨g, i, none⟩ = some (.int .i64 ((L.getD i 0 : Nat) : Int)) := by
  rw [cell_of_row w g i _ _ (0, 0) h, List.getD_eq_getElem?_getD, List.getElem?_eq_getElem hi]
  simp [hi]
theorem Blk.free {w : World} {g : Nat} {L : List Nat} (h : Blk w g L) (i : Nat) : w.frozen? ⟨g, i, none⟩ = false := frozen_of_row w g i _ _ h
theorem Blk.set {w : World} {g : Nat} {L : List Nat} (h : Blk w g L) {i x : Nat} {v : Int} (hi : i < L.length) (hv : v = (x : Int)) : Blk (w.setCell ⟨g, i, none⟩ (.int .i64 v)) g (L.set i x) := by
  subst hv
  unfold Blk
  rw [heap_setCell_same w g i _ _ _ h]
  congr 2
  apply Array.ext'
  simp
theorem Blk.keep {w w' : World} {g : Nat} {L : List Nat} (h : Blk w g L) (e : w'.heap[g]? = w.heap[g]?) : Blk w' g L := e.trans h
theorem Blk.below {w w' : World} {g B : Nat} {L : List Nat} (h : Blk w g L) (hb : Below B w w') (hg : g < B) : Blk w' g L := h.keep (hb.block g hg)
theorem Blk.row {w : World} {g : Nat} {L : List Nat} (h : Blk w g L) : Row w (some ⟨g, 0, none⟩) L := fun _ => ⟨g, 0, rfl, fun i hi => by rw [Nat.zero_add]; exact h.cell hi⟩
theorem made_nat (n : Nat) : madeCells (Value.int .i64 0).cells (n * 1) = ((List.replicate n 0).map fun d : Nat => Value.int .i64 (d : Int)).toArray := by
  apply Array.ext'
  rw [show (Value.int .i64 0).cells = #[Value.int .i64 0] from rfl, toList_madeCells_one]
  simp
theorem Blk.made (w : World) (n : Nat) : Blk (w.alloc (.cells (madeCells (Value.int .i64 0).cells (n * 1)) 3)) w.heap.size (List.replicate n 0) := by
  unfold Blk
  rw [made_nat]
  show (w.heap.push _)[w.heap.size]? = _
  simp
theorem make_n {n : Nat} (hn : n ≤ 1000000) (W : World) : (Instr.makeSlice 52 (.int .i64 (n : Int)) (.int .i64 (n : Int))).run Try.prog W = .ok (.slice (some ⟨W.heap.size, 0, none⟩) n n) (W.alloc (.cells (madeCells (Value.int .i64 0).cells (n * 1)) 3)) := by
  obtain ⟨i0, hi, hz0, hz1, hz2⟩ := info_parts infoI
  have h := run_make (P := Try.prog) W 52 3 i0 (.int .i64 0) Try.underlying52 hi hz0 .i64 .i64 (n : Int) (n : Int) (by omega) (by omega) (by rw [hz2]; omega) (by omega)
  rw [hz1] at h
  simpa using h
/-- What the loop of Sub keeps. -/
structure SubInv (A B k u : Nat) (L : List Nat) : Prop where
  len : L.length = nd A
  dg : Digs L
  eq : val (L.take k) + val ((dig B).take k) = val ((dig A).take k) + u * 65536 ^ k
  u1 : u ≤ 1
theorem SubInv.step {A B k u d d' x u' : Nat} {L : List Nat} (h : SubInv A B k u L) (ed : (dig A).getD k 0 = d) (ed' : (dig B).getD k 0 = d') (hx : x + u + d' = d + u' * 65536) (hu : u' ≤ 1 ∧ x < 65536) (hk : k < nd A) : SubInv A B (k + 1) u' (L.set k x) := by
  obtain ⟨len, dg, eq, u1⟩ := h
  refine ⟨by rw [List.length_set]; exact len, digs_set dg hu.2, ?_, hu.1⟩
  have hkl : k < (L.set k x).length := by rw [List.length_set]; omega
  rw [val_take_succ hkl, take_step, take_step, ed, ed']
  have e1 : (L.set k x).take k = L.take k := by rw [List.take_set_of_le (by omega)]
  have e2 : (L.set k x).getD k 0 = x := by rw [List.getD_eq_getElem?_getD, List.getElem?_set_self (by omega)]; rfl
  rw [e1, e2, Nat.pow_succ, Nat.mul_comm (65536 ^ k) 65536, ← Nat.mul_assoc]
  have e3 : (x + u + d') * 65536 ^ k = (d + u' * 65536) * 65536 ^ k := by rw [hx]
  rw [Nat.add_mul, Nat.add_mul, Nat.add_mul] at e3
  omega
theorem SubInv.done {A B u : Nat} {L : List Nat} (h : SubInv A B (nd A) u L) (hle : B ≤ A) : val L = A - B := by
  obtain ⟨len, dg, eq, u1⟩ := h
  have hB : nd B ≤ nd A := nd_le_of (Nat.lt_of_le_of_lt hle (nd_lt A))
  rw [List.take_of_length_le (by omega), List.take_of_length_le hB, List.take_of_length_le (show (dig A).length ≤ nd A from Nat.le_refl _), val_dig, val_dig] at eq
  have hl := val_lt dg
  rw [len] at hl
  have : u = 0 ∨ u = 1 := by omega
  rcases this with rfl | rfl <;> omega
end Go.Proofs.Ytfkfheapikgejaa
