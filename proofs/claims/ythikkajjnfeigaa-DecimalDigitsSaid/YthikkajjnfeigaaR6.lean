/- Package pontageref1, walked: Sub. -/
import Derived.WalkKit
import Derived.KernelRfl
import Derived.RowKit3
import Derived.Deep.LoopGhost
import Derived.Deep.QuietTactic
import Derived.BigQuiet
import Derived.WideLaws
import Derived.Laws.Rows
import Derived.Below
import Derived.Deep.Draws
import Derived.Outline
import Derived.LoopN
import Derived.Handy
import Derived.Laws.Externs
import Derived.Laws.BitsAllLaws
import Derived.Laws.BitsLemmas
import Derived.Deep.DeepCutAuto
import Derived.Deep.CutBlock
import Derived.Deep.RegionHeld3
import Derived.Test.YthikkajjnfeigaaR5
import Derived.Laws.MakeOwn
namespace Go.Proofs.Ythikkajjnfeigaa
open Go.RowKit
set_option linter.unusedVariables false
set_option linter.unusedSimpArgs false
/-- Block g holds these digits, and no more. -/
def Blk (w : World) (g : Nat) (L : List Nat) : Prop := w.heap[g]? = some (.cells (L.map fun d : Nat => Value.int .i64 (d : Int)).toArray 3 (0, 0))
theorem Blk.lt {w : World} {g : Nat} {L : List Nat} (h : Blk w g L) : g < w.heap.size := (Array.getElem?_eq_some_iff.1 h).1
theorem Blk.cell {w : World} {g : Nat} {L : List Nat} (h : Blk w g L) {i : Nat} (hi : i < L.length) : w.cell? ⟨g, i, none⟩ = some (.int .i64 ((L.getD i 0 : Nat) : Int)) := by
  rw [cell_of_row w g i _ _ (0, 0) h, List.getD_eq_getElem?_getD, List.getElem?_eq_getElem hi]
  simp [hi]
theorem Blk.free {w : World} {g : Nat} {L : List Nat} (h : Blk w g L) (i : Nat) : w.frozen? ⟨g, i, none⟩ = false := frozen_of_row w g i _ _ h
theorem Blk.set {w : World} {g : Nat} {L : List Nat} (h : Blk w g L) {i x : Nat} {v : Int} (hi : i < L.length) (hv : v = (x : Int)) : Blk (w.setCell ⟨g, i, none⟩ (.int .i64 v)) g (L.set i x) := by
  subst hv
  unfold Blk
  rw [heap_setCell_same w g i _ _ _ h]
  congr 2
  apply Array.ext'
  simp
theorem Blk.keep {w w' : World} {g : Nat} {L : List Nat} (h : Blk w g L) (e : w'.heap[g]? = w.heap[g]?) : Blk w' g L := e.trans h
theorem Blk.below {w w' : World} {g B : Nat} {L : List Nat} (h : Blk w g L) (hb : Below B w w') (hg : g < B) : Blk w' g L := h.keep (hb.block g hg)
theorem Blk.row {w : World} {g : Nat} {L : List Nat} (h : Blk w g L) : Row w (some ⟨g, 0, none⟩) L := fun _ => ⟨g, 0, rfl, fun i hi => by rw [Nat.zero_add]; exact h.cell hi⟩
theorem made_nat (n : Nat) : madeCells (Value.int .i64 0).cells (n * 1) = ((List.replicate n 0).map fun d : Nat => Value.int .i64 (d : Int)).toArray := by
  apply Array.ext'
  rw [show (Value.int .i64 0).cells = #[Value.int .i64 0] from rfl, toList_madeCells_one]
  simp
theorem Blk.made (w : World) (n : Nat) : Blk (w.alloc (.cells (madeCells (Value.int .i64 0).cells (n * 1)) 3)) w.heap.size (List.replicate n 0) := by
  unfold Blk
  rw [made_nat]
  show (w.heap.push _)[w.heap.size]? = _
  simp
theorem make_n {n : Nat} (hn : n ≤ 1000000) (W : World) : (Instr.makeSlice 48 (.int .i64 (n : Int)) (.int .i64 (n : Int))).run Try.prog W = .ok (.slice (some ⟨W.heap.size, 0, none⟩) n n) (W.alloc (.cells (madeCells (Value.int .i64 0).cells (n * 1)) 3)) := by
  obtain ⟨i0, hi, hz0, hz1, hz2⟩ := info_parts infoI
  have h := run_make (P := Try.prog) W 48 3 i0 (.int .i64 0) Try.underlying48 hi hz0 .i64 .i64 (n : Int) (n : Int) (by omega) (by omega) (by rw [hz2]; omega) (by omega)
  rw [hz1] at h
  simpa using h
/-- What the loop of Sub keeps. -/
structure SubInv (A B k u : Nat) (L : List Nat) : Prop where
  len : L.length = nd A
  dg : Digs L
  eq : val (L.take k) + val ((dig B).take k) = val ((dig A).take k) + u * 65536 ^ k
  u1 : u ≤ 1
theorem SubInv.step {A B k u d d' x u' : Nat} {L : List Nat} (h : SubInv A B k u L) (ed : (dig A).getD k 0 = d) (ed' : (dig B).getD k 0 = d') (hx : x + u + d' = d + u' * 65536) (hu : u' ≤ 1 ∧ x < 65536) (hk : k < nd A) : SubInv A B (k + 1) u' (L.set k x) := by
  obtain ⟨len, dg, eq, u1⟩ := h
  refine ⟨by rw [List.length_set]; exact len, digs_set dg hu.2, ?_, hu.1⟩
  have hkl : k < (L.set k x).length := by rw [List.length_set]; omega
  rw [val_take_succ hkl, take_step, take_step, ed, ed']
  have e1 : (L.set k x).take k = L.take k := by rw [List.take_set_of_le (by omega)]
  have e2 : (L.set k x).getD k 0 = x := by rw [List.getD_eq_getElem?_getD, List.getElem?_set_self (by omega)]; rfl
  rw [e1, e2, Nat.pow_succ, Nat.mul_comm (65536 ^ k) 65536, ← Nat.mul_assoc]
  have e3 : (x + u + d') * 65536 ^ k = (d + u' * 65536) * 65536 ^ k := by rw [hx]
  rw [Nat.add_mul, Nat.add_mul, Nat.add_mul] at e3
  omega
theorem SubInv.done {A B u : Nat} {L : List Nat} (h : SubInv A B (nd A) u L) (hle : B ≤ A) : val L = A - B := by
  obtain ⟨len, dg, eq, u1⟩ := h
  have hB : nd B ≤ nd A := nd_le_of (Nat.lt_of_le_of_lt hle (nd_lt A))
  rw [List.take_of_length_le (by omega), List.take_of_length_le hB, List.take_of_length_le (show (dig A).length ≤ nd A from Nat.le_refl _), val_dig, val_dig] at eq
  have hl := val_lt dg
  rw [len] at hl
  have : u = 0 ∨ u = 1 := by omega
  rcases this with rfl | rfl <;> omega
set_option maxHeartbeats 4000000 in
theorem rsub_f {A B : Nat} (hle : B ≤ A) (ad : Option Addr) (n c : Nat) (ad' : Option Addr) (n' c' : Nat) (w : World) (hA : Hid (Big w ad n c A)) (hB : Hid (Big w ad' n' c' B)) (hlen : n ≤ 100000) (hlen' : n' ≤ 100000) :
    Calls Try.prog 45 #[.slice ad n c, .slice ad' n' c'] w fun e w' => ∃ ad n'' c, e = .returned (.slice ad n'' c) ∧ Hid (Big w' ad n'' c (A - B)) ∧ n'' ≤ n ∧ Below w.heap.size w w' ∧ (∀ b o, ad = some ⟨b, o, none⟩ → w.heap.size ≤ b) := by
  have hmk := make_n (n := n) (by omega)
  have HLE := hide hle
  clear hle
  go_enter Try.func45, Try.ntmps45
  go_wp2
  clear hmk
  go_loopw [6, 7] (fun v6 v7 wr => ∃ (k u : Nat) (L : List Nat), v7 = .int .i64 k ∧ v6 = .int .i64 u ∧ k ≤ n ∧ Hid (SubInv A B k u L) ∧ Hid (Blk wr w.heap.size L) ∧ Hid (Below w.heap.size w wr)) (fun _ v7 _ => n - (intOf v7).toNat)
  case atStart => exact ⟨0, 0, List.replicate n 0, rfl, rfl, by omega, hide ⟨by rw [List.length_replicate]; exact hA.out.hn, digs_rep n, by simp [val], by omega⟩, hide (by have := Blk.made w n; rw [Nat.mul_one] at this; exact this), hide (by (repeat' (first | (with_reducible exact Below.refl _ _) | (with_reducible assumption) | (with_reducible refine Below.alloc ?_ ?_ _) | (with_reducible refine Below.drew ?_) | (with_reducible refine below_drewN ?_ _) | (with_reducible refine Below.setCell ?_ ?_ _) | (with_reducible refine below_step (by with_reducible assumption) ?_ ?_) | (first | (with_reducible exact Nat.le_refl _) | (with_reducible assumption) | omega | (simp only [World.size_alloc, World.size_setCell, World.size_drew, size_drewN]; omega) | (simp; omega) | (simp; done)))))⟩
  case round =>
    obtain ⟨k, u, L, rfl, rfl, hk, HI, HK, HBl⟩ := hrel
    have hu1 := HI.out.u1
    by_cases h1 : k < n
    · have hkc := HK.out.cell (i := k) (by rw [HI.out.len, ← hA.out.hn]; exact h1)
      have hkf := HK.out.free k
      obtain ⟨b, o, rfl, hcell⟩ := hA.out.row (by intro e; have := hA.out.hn; unfold nd at this; rw [e] at this; simp at this; omega)
      have hx := hcell k (by have := hA.out.hn; unfold nd at this; omega)
      have hbl := World.block_lt_of_cell? w _ hx
      replace hx := (HBl.out.cell (p := ⟨b, o + k, none⟩) hbl).trans hx
      obtain ⟨d, ed⟩ : ∃ d, (dig A).getD k 0 = d := ⟨_, rfl⟩
      have hd : d < 65536 := by rw [← ed]; exact getD_lt (digs_dig A) k
      rw [ed] at hx
      replace ed := hide ed
      clear hcell hbl
      by_cases h2 : k < n'
      · obtain ⟨b', o', rfl, hcell⟩ := hB.out.row (by intro e; have := hB.out.hn; unfold nd at this; rw [e] at this; simp at this; omega)
        have hx' := hcell k (by have := hB.out.hn; unfold nd at this; omega)
        have hbl := World.block_lt_of_cell? w _ hx'
        replace hx' := (HBl.out.cell (p := ⟨b', o' + k, none⟩) hbl).trans hx'
        obtain ⟨d', ed'⟩ : ∃ d, (dig B).getD k 0 = d := ⟨_, rfl⟩
        have hd' : d' < 65536 := by rw [← ed']; exact getD_lt (digs_dig B) k
        rw [ed'] at hx'
        replace ed' := hide ed'
        clear hcell hbl
        by_cases h3 : d < u + d'
        · have q : decide (((d : Nat) : Int) - (u : Int) - (d' : Int) < 0) = true := decide_eq_true (by omega)
          have q' : ((d : Nat) : Int) - (u : Int) - (d' : Int) < 0 := by omega
          go_wp2
          go_roundw
          case rel =>
            have hb := HBl.out
            refine ⟨k + 1, 1, L.set k (d + 65536 - u - d'), by go_num, by go_num, by omega, hide ?_, hide ?_, hide ?_⟩
            · exact HI.out.step ed.out ed'.out (by omega) (by omega) (by have := hA.out.hn; omega)
            · exact HK.out.set (by rw [HI.out.len, ← hA.out.hn]; omega) (by omega)
            · exact (by (repeat' (first | (with_reducible exact Below.refl _ _) | (with_reducible assumption) | (with_reducible refine Below.alloc ?_ ?_ _) | (with_reducible refine Below.drew ?_) | (with_reducible refine below_drewN ?_ _) | (with_reducible refine Below.setCell ?_ ?_ _) | (with_reducible refine below_step (by with_reducible assumption) ?_ ?_) | (first | (with_reducible exact Nat.le_refl _) | (with_reducible assumption) | omega | (simp only [World.size_alloc, World.size_setCell, World.size_drew, size_drewN]; omega) | (simp; omega) | (simp; done)))))
          case measure => simp [intOf]; omega
        · have q : decide (((d : Nat) : Int) - (u : Int) - (d' : Int) < 0) = false := decide_eq_false (by omega)
          have q' : ¬ ((d : Nat) : Int) - (u : Int) - (d' : Int) < 0 := by omega
          go_wp2
          go_roundw
          case rel =>
            have hb := HBl.out
            refine ⟨k + 1, 0, L.set k (d - u - d'), by go_num, by go_num, by omega, hide ?_, hide ?_, hide ?_⟩
            · exact HI.out.step ed.out ed'.out (by omega) (by omega) (by have := hA.out.hn; omega)
            · exact HK.out.set (by rw [HI.out.len, ← hA.out.hn]; omega) (by omega)
            · exact (by (repeat' (first | (with_reducible exact Below.refl _ _) | (with_reducible assumption) | (with_reducible refine Below.alloc ?_ ?_ _) | (with_reducible refine Below.drew ?_) | (with_reducible refine below_drewN ?_ _) | (with_reducible refine Below.setCell ?_ ?_ _) | (with_reducible refine below_step (by with_reducible assumption) ?_ ?_) | (first | (with_reducible exact Nat.le_refl _) | (with_reducible assumption) | omega | (simp only [World.size_alloc, World.size_setCell, World.size_drew, size_drewN]; omega) | (simp; omega) | (simp; done)))))
          case measure => simp [intOf]; omega
      · have ed' := hide (show (dig B).getD k 0 = 0 by rw [List.getD_eq_getElem?_getD, List.getElem?_eq_none (by have := hB.out.hn; unfold nd at this; omega)]; rfl)
        by_cases h3 : d < u
        · have q : decide (((d : Nat) : Int) - (u : Int) < 0) = true := decide_eq_true (by omega)
          have q' : ((d : Nat) : Int) - (u : Int) < 0 := by omega
          go_wp2
          go_roundw
          case rel =>
            have hb := HBl.out
            refine ⟨k + 1, 1, L.set k (d + 65536 - u), by go_num, by go_num, by omega, hide ?_, hide ?_, hide ?_⟩
            · exact HI.out.step ed.out ed'.out (by omega) (by omega) (by have := hA.out.hn; omega)
            · exact HK.out.set (by rw [HI.out.len, ← hA.out.hn]; omega) (by omega)
            · exact (by (repeat' (first | (with_reducible exact Below.refl _ _) | (with_reducible assumption) | (with_reducible refine Below.alloc ?_ ?_ _) | (with_reducible refine Below.drew ?_) | (with_reducible refine below_drewN ?_ _) | (with_reducible refine Below.setCell ?_ ?_ _) | (with_reducible refine below_step (by with_reducible assumption) ?_ ?_) | (first | (with_reducible exact Nat.le_refl _) | (with_reducible assumption) | omega | (simp only [World.size_alloc, World.size_setCell, World.size_drew, size_drewN]; omega) | (simp; omega) | (simp; done)))))
          case measure => simp [intOf]; omega
        · have q : decide (((d : Nat) : Int) - (u : Int) < 0) = false := decide_eq_false (by omega)
          have q' : ¬ ((d : Nat) : Int) - (u : Int) < 0 := by omega
          go_wp2
          go_roundw
          case rel =>
            have hb := HBl.out
            refine ⟨k + 1, 0, L.set k (d - u), by go_num, by go_num, by omega, hide ?_, hide ?_, hide ?_⟩
            · exact HI.out.step ed.out ed'.out (by omega) (by omega) (by have := hA.out.hn; omega)
            · exact HK.out.set (by rw [HI.out.len, ← hA.out.hn]; omega) (by omega)
            · exact (by (repeat' (first | (with_reducible exact Below.refl _ _) | (with_reducible assumption) | (with_reducible refine Below.alloc ?_ ?_ _) | (with_reducible refine Below.drew ?_) | (with_reducible refine below_drewN ?_ _) | (with_reducible refine Below.setCell ?_ ?_ _) | (with_reducible refine below_step (by with_reducible assumption) ?_ ?_) | (first | (with_reducible exact Nat.le_refl _) | (with_reducible assumption) | omega | (simp only [World.size_alloc, World.size_setCell, World.size_drew, size_drewN]; omega) | (simp; omega) | (simp; done)))))
          case measure => simp [intOf]; omega
    · obtain rfl : k = n := by omega
      go_wp2_with fail
      have hl : L.length = k := by rw [HI.out.len, ← hA.out.hn]
      refine (norm_c HI.out.dg _ k k hl.symm (Nat.le_refl _) (by omega) _ HK.out.row).mono ?_
      rintro e w1 ⟨rfl, rfl⟩
      go_wp2
      go_ret
      have hv : val L = A - B := SubInv.done (by have := HI.out; rwa [hA.out.hn] at this) HLE.out
      have hr := norm_row HI.out.dg
      have hn2 : nd (A - B) ≤ k := by have := nd_le_of (val_lt HI.out.dg); rwa [hv, hl] at this
      rw [hv] at hr ⊢
      refine ⟨_, _, _, rfl, hide ⟨rfl, hn2, ?_⟩, hn2, HBl.out, fun b o h => by cases h; exact Nat.le_refl _⟩
      rw [← hr]
      exact HK.out.row.take _
theorem rsub_c {A B : Nat} (hle : B ≤ A) (ad : Option Addr) (n c : Nat) (ad' : Option Addr) (n' c' : Nat) (w : World) (hA : Hid (Big w ad n c A)) (hB : Hid (Big w ad' n' c' B)) (hlen : n ≤ 100000) (hlen' : n' ≤ 100000) :
    Calls Try.prog 45 #[.slice ad n c, .slice ad' n' c'] w fun e w' => ∃ ad n'' c, e = .returned (.slice ad n'' c) ∧ Hid (Big w' ad n'' c (A - B)) ∧ n'' ≤ n ∧ Below w.heap.size w w' :=
  (rsub_f hle ad n c ad' n' c' w hA hB hlen hlen').mono fun _ _ ⟨a, m, c, h1, h2, h3, h4, _⟩ => ⟨a, m, c, h1, h2, h3, h4⟩
end Go.Proofs.Ythikkajjnfeigaa
