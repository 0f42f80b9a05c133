/- Package pontageref1, walked: ToUint256. -/
import Derived.WalkKit
import Derived.KernelRfl
import Derived.RowKit3
import Derived.Deep.LoopGhost
import Derived.Deep.QuietTactic
import Derived.BigQuiet
import Derived.WideLaws
import Derived.Laws.Rows
import Derived.Below
import Derived.Deep.Draws
import Derived.Outline
import Derived.LoopN
import Derived.Handy
import Derived.Laws.Externs
import Derived.Laws.BitsAllLaws
import Derived.Laws.BitsLemmas
import Derived.Deep.DeepCutAuto
import Derived.Deep.CutBlock
import Derived.Deep.RegionHeld3
import Derived.Test.YthikkajjnfeigaaR2
namespace Go.Proofs.Ythikkajjnfeigaa
open Go.RowKit
set_option linter.unusedVariables false
set_option linter.unusedSimpArgs false
/-- One cell of a block written. -/
theorem Box.set0 {w : World} {g : Nat} {a0 a1 a2 a3 : Int} (h : Box w g a0 a1 a2 a3) (b : Int) : Box (w.setCell ⟨g, 0, none⟩ (.int .u64 b)) g b a1 a2 a3 := by
  obtain ⟨c0, c1, c2, c3, f0, f1, f2, f3, lt⟩ := h
  constructor <;> simp [go_sem, *]
theorem Box.set1 {w : World} {g : Nat} {a0 a1 a2 a3 : Int} (h : Box w g a0 a1 a2 a3) (b : Int) : Box (w.setCell ⟨g, 1, none⟩ (.int .u64 b)) g a0 b a2 a3 := by
  obtain ⟨c0, c1, c2, c3, f0, f1, f2, f3, lt⟩ := h
  constructor <;> simp [go_sem, *]
theorem Box.set2 {w : World} {g : Nat} {a0 a1 a2 a3 : Int} (h : Box w g a0 a1 a2 a3) (b : Int) : Box (w.setCell ⟨g, 2, none⟩ (.int .u64 b)) g a0 a1 b a3 := by
  obtain ⟨c0, c1, c2, c3, f0, f1, f2, f3, lt⟩ := h
  constructor <;> simp [go_sem, *]
theorem Box.set3 {w : World} {g : Nat} {a0 a1 a2 a3 : Int} (h : Box w g a0 a1 a2 a3) (b : Int) : Box (w.setCell ⟨g, 3, none⟩ (.int .u64 b)) g a0 a1 a2 b := by
  obtain ⟨c0, c1, c2, c3, f0, f1, f2, f3, lt⟩ := h
  constructor <;> simp [go_sem, *]
theorem val_step {l : List Nat} (hd : Digs l) {k : Nat} (h : k < l.length) : ∃ V d, V = val (l.take k) ∧ d = l.getD k 0 ∧ V < 65536 ^ k ∧ d < 65536 ∧ val (l.take (k + 1)) = V + d * 65536 ^ k := by
  have h1 := val_lt (digs_take k hd)
  rw [List.length_take, Nat.min_eq_left (by omega)] at h1
  exact ⟨_, _, rfl, rfl, h1, getD_lt hd k, val_take_succ h⟩
theorem lims0 {V d : Nat} (hV : V < 65536 ^ 0) (hd : d < 65536) : lim (V + d * 65536 ^ 0) 1 = lim V 1 ∧ lim (V + d * 65536 ^ 0) 2 = lim V 2 ∧ lim (V + d * 65536 ^ 0) 3 = lim V 3 ∧ lim (V + d * 65536 ^ 0) 0 = lim V 0 + (d : Int) ∧ lim V 0 < 1 := by
  rw [lim0, lim1, lim2, lim3, lim0, lim1, lim2, lim3]
  omega
theorem lims1 {V d : Nat} (hV : V < 65536 ^ 1) (hd : d < 65536) : lim (V + d * 65536 ^ 1) 1 = lim V 1 ∧ lim (V + d * 65536 ^ 1) 2 = lim V 2 ∧ lim (V + d * 65536 ^ 1) 3 = lim V 3 ∧ lim (V + d * 65536 ^ 1) 0 = lim V 0 + (d : Int) * 65536 ∧ lim V 0 < 65536 := by
  rw [lim0, lim1, lim2, lim3, lim0, lim1, lim2, lim3]
  omega
theorem lims2 {V d : Nat} (hV : V < 65536 ^ 2) (hd : d < 65536) : lim (V + d * 65536 ^ 2) 1 = lim V 1 ∧ lim (V + d * 65536 ^ 2) 2 = lim V 2 ∧ lim (V + d * 65536 ^ 2) 3 = lim V 3 ∧ lim (V + d * 65536 ^ 2) 0 = lim V 0 + (d : Int) * 4294967296 ∧ lim V 0 < 4294967296 := by
  rw [lim0, lim1, lim2, lim3, lim0, lim1, lim2, lim3]
  omega
theorem lims3 {V d : Nat} (hV : V < 65536 ^ 3) (hd : d < 65536) : lim (V + d * 65536 ^ 3) 1 = lim V 1 ∧ lim (V + d * 65536 ^ 3) 2 = lim V 2 ∧ lim (V + d * 65536 ^ 3) 3 = lim V 3 ∧ lim (V + d * 65536 ^ 3) 0 = lim V 0 + (d : Int) * 281474976710656 ∧ lim V 0 < 281474976710656 := by
  rw [lim0, lim1, lim2, lim3, lim0, lim1, lim2, lim3]
  omega
theorem lims4 {V d : Nat} (hV : V < 65536 ^ 4) (hd : d < 65536) : lim (V + d * 65536 ^ 4) 0 = lim V 0 ∧ lim (V + d * 65536 ^ 4) 2 = lim V 2 ∧ lim (V + d * 65536 ^ 4) 3 = lim V 3 ∧ lim (V + d * 65536 ^ 4) 1 = lim V 1 + (d : Int) ∧ lim V 1 < 1 := by
  rw [lim0, lim1, lim2, lim3, lim0, lim1, lim2, lim3]
  omega
theorem lims5 {V d : Nat} (hV : V < 65536 ^ 5) (hd : d < 65536) : lim (V + d * 65536 ^ 5) 0 = lim V 0 ∧ lim (V + d * 65536 ^ 5) 2 = lim V 2 ∧ lim (V + d * 65536 ^ 5) 3 = lim V 3 ∧ lim (V + d * 65536 ^ 5) 1 = lim V 1 + (d : Int) * 65536 ∧ lim V 1 < 65536 := by
  rw [lim0, lim1, lim2, lim3, lim0, lim1, lim2, lim3]
  omega
theorem lims6 {V d : Nat} (hV : V < 65536 ^ 6) (hd : d < 65536) : lim (V + d * 65536 ^ 6) 0 = lim V 0 ∧ lim (V + d * 65536 ^ 6) 2 = lim V 2 ∧ lim (V + d * 65536 ^ 6) 3 = lim V 3 ∧ lim (V + d * 65536 ^ 6) 1 = lim V 1 + (d : Int) * 4294967296 ∧ lim V 1 < 4294967296 := by
  rw [lim0, lim1, lim2, lim3, lim0, lim1, lim2, lim3]
  omega
theorem lims7 {V d : Nat} (hV : V < 65536 ^ 7) (hd : d < 65536) : lim (V + d * 65536 ^ 7) 0 = lim V 0 ∧ lim (V + d * 65536 ^ 7) 2 = lim V 2 ∧ lim (V + d * 65536 ^ 7) 3 = lim V 3 ∧ lim (V + d * 65536 ^ 7) 1 = lim V 1 + (d : Int) * 281474976710656 ∧ lim V 1 < 281474976710656 := by
  rw [lim0, lim1, lim2, lim3, lim0, lim1, lim2, lim3]
  omega
theorem lims8 {V d : Nat} (hV : V < 65536 ^ 8) (hd : d < 65536) : lim (V + d * 65536 ^ 8) 0 = lim V 0 ∧ lim (V + d * 65536 ^ 8) 1 = lim V 1 ∧ lim (V + d * 65536 ^ 8) 3 = lim V 3 ∧ lim (V + d * 65536 ^ 8) 2 = lim V 2 + (d : Int) ∧ lim V 2 < 1 := by
  rw [lim0, lim1, lim2, lim3, lim0, lim1, lim2, lim3]
  omega
theorem lims9 {V d : Nat} (hV : V < 65536 ^ 9) (hd : d < 65536) : lim (V + d * 65536 ^ 9) 0 = lim V 0 ∧ lim (V + d * 65536 ^ 9) 1 = lim V 1 ∧ lim (V + d * 65536 ^ 9) 3 = lim V 3 ∧ lim (V + d * 65536 ^ 9) 2 = lim V 2 + (d : Int) * 65536 ∧ lim V 2 < 65536 := by
  rw [lim0, lim1, lim2, lim3, lim0, lim1, lim2, lim3]
  omega
theorem lims10 {V d : Nat} (hV : V < 65536 ^ 10) (hd : d < 65536) : lim (V + d * 65536 ^ 10) 0 = lim V 0 ∧ lim (V + d * 65536 ^ 10) 1 = lim V 1 ∧ lim (V + d * 65536 ^ 10) 3 = lim V 3 ∧ lim (V + d * 65536 ^ 10) 2 = lim V 2 + (d : Int) * 4294967296 ∧ lim V 2 < 4294967296 := by
  rw [lim0, lim1, lim2, lim3, lim0, lim1, lim2, lim3]
  omega
theorem lims11 {V d : Nat} (hV : V < 65536 ^ 11) (hd : d < 65536) : lim (V + d * 65536 ^ 11) 0 = lim V 0 ∧ lim (V + d * 65536 ^ 11) 1 = lim V 1 ∧ lim (V + d * 65536 ^ 11) 3 = lim V 3 ∧ lim (V + d * 65536 ^ 11) 2 = lim V 2 + (d : Int) * 281474976710656 ∧ lim V 2 < 281474976710656 := by
  rw [lim0, lim1, lim2, lim3, lim0, lim1, lim2, lim3]
  omega
theorem lims12 {V d : Nat} (hV : V < 65536 ^ 12) (hd : d < 65536) : lim (V + d * 65536 ^ 12) 0 = lim V 0 ∧ lim (V + d * 65536 ^ 12) 1 = lim V 1 ∧ lim (V + d * 65536 ^ 12) 2 = lim V 2 ∧ lim (V + d * 65536 ^ 12) 3 = lim V 3 + (d : Int) ∧ lim V 3 < 1 := by
  rw [lim0, lim1, lim2, lim3, lim0, lim1, lim2, lim3]
  omega
theorem lims13 {V d : Nat} (hV : V < 65536 ^ 13) (hd : d < 65536) : lim (V + d * 65536 ^ 13) 0 = lim V 0 ∧ lim (V + d * 65536 ^ 13) 1 = lim V 1 ∧ lim (V + d * 65536 ^ 13) 2 = lim V 2 ∧ lim (V + d * 65536 ^ 13) 3 = lim V 3 + (d : Int) * 65536 ∧ lim V 3 < 65536 := by
  rw [lim0, lim1, lim2, lim3, lim0, lim1, lim2, lim3]
  omega
theorem lims14 {V d : Nat} (hV : V < 65536 ^ 14) (hd : d < 65536) : lim (V + d * 65536 ^ 14) 0 = lim V 0 ∧ lim (V + d * 65536 ^ 14) 1 = lim V 1 ∧ lim (V + d * 65536 ^ 14) 2 = lim V 2 ∧ lim (V + d * 65536 ^ 14) 3 = lim V 3 + (d : Int) * 4294967296 ∧ lim V 3 < 4294967296 := by
  rw [lim0, lim1, lim2, lim3, lim0, lim1, lim2, lim3]
  omega
theorem lims15 {V d : Nat} (hV : V < 65536 ^ 15) (hd : d < 65536) : lim (V + d * 65536 ^ 15) 0 = lim V 0 ∧ lim (V + d * 65536 ^ 15) 1 = lim V 1 ∧ lim (V + d * 65536 ^ 15) 2 = lim V 2 ∧ lim (V + d * 65536 ^ 15) 3 = lim V 3 + (d : Int) * 281474976710656 ∧ lim V 3 < 281474976710656 := by
  rw [lim0, lim1, lim2, lim3, lim0, lim1, lim2, lim3]
  omega
set_option maxHeartbeats 16000000 in
set_option maxRecDepth 100000 in
theorem toU_c {l : List Nat} (hd : Digs l) (ad : Option Addr) (n c : Nat) (hn : Hid (n = l.length)) (hlen : n ≤ 100000) (w : World) (hrow : Hid (Row w ad l)) :
    Calls Try.prog 40 #[.slice ad n c] w fun e w' => e = .returned (.agg #[.int .u64 (lim (val (l.take 16)) 0), .int .u64 (lim (val (l.take 16)) 1), .int .u64 (lim (val (l.take 16)) 2), .int .u64 (lim (val (l.take 16)) 3)]) ∧ Below w.heap.size w w' := by
  have HD := hide hd
  clear hd
  have l0 := lim_zero 0
  have l1 := lim_zero 1
  have l2 := lim_zero 2
  have l3 := lim_zero 3
  go_enter Try.func40, Try.ntmps40
  go_wp2
  go_loopw [4] (fun v4 wr => ∃ k : Nat, k ≤ 16 ∧ k ≤ n ∧ v4 = .int .i64 k ∧ Hid (Box wr (w.heap.size + 1) (lim (val (l.take k)) 0) (lim (val (l.take k)) 1) (lim (val (l.take k)) 2) (lim (val (l.take k)) 3)) ∧ Hid (Box wr w.heap.size 0 0 0 0) ∧ Hid (Below w.heap.size w wr)) (fun v4 _ => 16 - (intOf v4).toNat)
  case atStart =>
    refine ⟨0, by omega, by omega, rfl, hide ?_, hide ((Box.new _ _ _ _ _ _).alloc _), hide (by (repeat' (first | (with_reducible exact Below.refl _ _) | (with_reducible assumption) | (with_reducible refine Below.alloc ?_ ?_ _) | (with_reducible refine Below.drew ?_) | (with_reducible refine below_drewN ?_ _) | (with_reducible refine Below.setCell ?_ ?_ _) | (with_reducible refine below_step (by with_reducible assumption) ?_ ?_) | (first | (with_reducible exact Nat.le_refl _) | (with_reducible assumption) | omega | (simp only [World.size_alloc, World.size_setCell, World.size_drew, size_drewN]; omega) | (simp; omega) | (simp; done)))))⟩
    have := Box.new (w.alloc (.cells #[.int .u64 0, .int .u64 0, .int .u64 0, .int .u64 0] 24)) 0 0 0 0 24
    rw [List.take_zero, val, l0, l1, l2, l3]
    simpa using this
  case round =>
    clear l0 l1 l2 l3
    obtain ⟨k, hk, hkn, rfl, HX, HY, HB⟩ := hrel
    by_cases hend : k = 16 ∨ k = n
    · have ht : l.take k = l.take 16 := by
        rcases hend with rfl | rfl
        · rfl
        · rw [List.take_of_length_le (by rw [hn.out]; omega), List.take_of_length_le (by rw [← hn.out]; omega)]
      rw [ht] at HX
      obtain ⟨x0, x1, x2, x3, g0, g1, g2, g3, xl⟩ := HX.out
      obtain ⟨y0, y1, y2, y3, h0, h1, h2, h3, yl⟩ := HY.out
      by_cases hkn' : k = n
      · subst hkn'
        go_wp2
        refine bodyPost_ret (v := .agg #[.int .u64 (lim (val (l.take 16)) 0), .int .u64 (lim (val (l.take 16)) 1), .int .u64 (lim (val (l.take 16)) 2), .int .u64 (lim (val (l.take 16)) 3)]) (by simp [results, Try.results40, go_sem, *]) rfl ?_
        have hb := HB.out
        exact ⟨rfl, (by (repeat' (first | (with_reducible exact Below.refl _ _) | (with_reducible assumption) | (with_reducible refine Below.alloc ?_ ?_ _) | (with_reducible refine Below.drew ?_) | (with_reducible refine below_drewN ?_ _) | (with_reducible refine Below.setCell ?_ ?_ _) | (with_reducible refine below_step (by with_reducible assumption) ?_ ?_) | (first | (with_reducible exact Nat.le_refl _) | (with_reducible assumption) | omega | (simp only [World.size_alloc, World.size_setCell, World.size_drew, size_drewN]; omega) | (simp; omega) | (simp; done)))))⟩
      · obtain rfl : k = 16 := by omega
        have q : (16 : Int) < (n : Int) := by omega
        have q' : 16 < n := by omega
        go_wp2
        refine bodyPost_ret (v := .agg #[.int .u64 (lim (val (l.take 16)) 0), .int .u64 (lim (val (l.take 16)) 1), .int .u64 (lim (val (l.take 16)) 2), .int .u64 (lim (val (l.take 16)) 3)]) (by simp [results, Try.results40, go_sem, *]) rfl ?_
        have hb := HB.out
        exact ⟨rfl, (by (repeat' (first | (with_reducible exact Below.refl _ _) | (with_reducible assumption) | (with_reducible refine Below.alloc ?_ ?_ _) | (with_reducible refine Below.drew ?_) | (with_reducible refine below_drewN ?_ _) | (with_reducible refine Below.setCell ?_ ?_ _) | (with_reducible refine below_step (by with_reducible assumption) ?_ ?_) | (first | (with_reducible exact Nat.le_refl _) | (with_reducible assumption) | omega | (simp only [World.size_alloc, World.size_setCell, World.size_drew, size_drewN]; omega) | (simp; omega) | (simp; done)))))⟩
    · have hlt : k < l.length := by have := hn.out; omega
      obtain ⟨b, o, rfl, hcell⟩ := hrow.out (by intro e; rw [e] at hlt; simp at hlt)
      have hx := hcell k hlt
      clear hcell
      have hbl : b < w.heap.size := World.block_lt_of_cell? w _ hx
      replace hx := (HB.out.cell (p := ⟨b, o + k, none⟩) hbl).trans hx
      obtain ⟨V, d, eV, ed, hV, hd, hs⟩ := val_step HD.out hlt
      rw [← ed] at hx
      rw [← eV] at HX
      have HS := hide hs
      clear ed eV hs hlt
      have qn : k < n := by omega
      have q16 : k < 16 := by omega
      clear hend hkn hk
      rcases (show k = 0 ∨ k = 1 ∨ k = 2 ∨ k = 3 ∨ k = 4 ∨ k = 5 ∨ k = 6 ∨ k = 7 ∨ k = 8 ∨ k = 9 ∨ k = 10 ∨ k = 11 ∨ k = 12 ∨ k = 13 ∨ k = 14 ∨ k = 15 by omega) with rfl | rfl | rfl | rfl | rfl | rfl | rfl | rfl | rfl | rfl | rfl | rfl | rfl | rfl | rfl | rfl
      · have hl := lims0 hV hd
        obtain ⟨o1, o2, o3, lj, lt⟩ := hl
        rw [← HS.out] at o1 o2 o3 lj
        have ge := lim_nonneg V 0
        have HL := hide (And.intro lj (And.intro o1 (And.intro o2 o3)))
        clear lj o1 o2 o3 HS hV
        obtain ⟨L0, E0⟩ : ∃ x, lim V 0 = x := ⟨_, rfl⟩
        obtain ⟨L1, E1⟩ : ∃ x, lim V 1 = x := ⟨_, rfl⟩
        obtain ⟨L2, E2⟩ : ∃ x, lim V 2 = x := ⟨_, rfl⟩
        obtain ⟨L3, E3⟩ : ∃ x, lim V 3 = x := ⟨_, rfl⟩
        rw [E0, E1, E2, E3] at HX
        rw [E0] at lt ge
        simp only [E0, E1, E2, E3] at HL
        clear E0 E1 E2 E3
        obtain ⟨x0, x1, x2, x3, g0, g1, g2, g3, xl⟩ := HX.out
        have q0 : (0 : Int) < (n : Int) := by omega
        rw [Nat.add_zero] at hx
        go_wp2
        go_region
        go_wp2
        go_roundw
        case rel =>
          have hb := HB.out
          obtain ⟨m1, m2, m3, m4⟩ := HL.out
          refine ⟨1, by omega, by omega, by go_num, hide ?_, hide ?_, hide (by (repeat' (first | (with_reducible exact Below.refl _ _) | (with_reducible assumption) | (with_reducible refine Below.alloc ?_ ?_ _) | (with_reducible refine Below.drew ?_) | (with_reducible refine below_drewN ?_ _) | (with_reducible refine Below.setCell ?_ ?_ _) | (with_reducible refine below_step (by with_reducible assumption) ?_ ?_) | (first | (with_reducible exact Nat.le_refl _) | (with_reducible assumption) | omega | (simp only [World.size_alloc, World.size_setCell, World.size_drew, size_drewN]; omega) | (simp; omega) | (simp; done)))))⟩
          · show Box _ _ (lim (val (l.take (0 + 1))) 0) (lim (val (l.take (0 + 1))) 1) (lim (val (l.take (0 + 1))) 2) (lim (val (l.take (0 + 1))) 3)
            rw [m1, m2, m3, m4]
            first | exact (HX.out.set0 _).drew | exact (HX.out.drew).set0 _
          · first | exact (HY.out.other (by simp) _).drew | exact (HY.out.drew).other (by simp) _
        case measure => simp [intOf]
      · have hl := lims1 hV hd
        obtain ⟨o1, o2, o3, lj, lt⟩ := hl
        rw [← HS.out] at o1 o2 o3 lj
        have ge := lim_nonneg V 0
        have HL := hide (And.intro lj (And.intro o1 (And.intro o2 o3)))
        clear lj o1 o2 o3 HS hV
        obtain ⟨L0, E0⟩ : ∃ x, lim V 0 = x := ⟨_, rfl⟩
        obtain ⟨L1, E1⟩ : ∃ x, lim V 1 = x := ⟨_, rfl⟩
        obtain ⟨L2, E2⟩ : ∃ x, lim V 2 = x := ⟨_, rfl⟩
        obtain ⟨L3, E3⟩ : ∃ x, lim V 3 = x := ⟨_, rfl⟩
        rw [E0, E1, E2, E3] at HX
        rw [E0] at lt ge
        simp only [E0, E1, E2, E3] at HL
        clear E0 E1 E2 E3
        obtain ⟨x0, x1, x2, x3, g0, g1, g2, g3, xl⟩ := HX.out
        have q0 : (1 : Int) < (n : Int) := by omega
        go_wp2
        go_region
        go_wp2
        go_roundw
        case rel =>
          have hb := HB.out
          obtain ⟨m1, m2, m3, m4⟩ := HL.out
          refine ⟨2, by omega, by omega, by go_num, hide ?_, hide ?_, hide (by (repeat' (first | (with_reducible exact Below.refl _ _) | (with_reducible assumption) | (with_reducible refine Below.alloc ?_ ?_ _) | (with_reducible refine Below.drew ?_) | (with_reducible refine below_drewN ?_ _) | (with_reducible refine Below.setCell ?_ ?_ _) | (with_reducible refine below_step (by with_reducible assumption) ?_ ?_) | (first | (with_reducible exact Nat.le_refl _) | (with_reducible assumption) | omega | (simp only [World.size_alloc, World.size_setCell, World.size_drew, size_drewN]; omega) | (simp; omega) | (simp; done)))))⟩
          · show Box _ _ (lim (val (l.take (1 + 1))) 0) (lim (val (l.take (1 + 1))) 1) (lim (val (l.take (1 + 1))) 2) (lim (val (l.take (1 + 1))) 3)
            rw [m1, m2, m3, m4]
            first | exact (HX.out.set0 _).drew | exact (HX.out.drew).set0 _
          · first | exact (HY.out.other (by simp) _).drew | exact (HY.out.drew).other (by simp) _
        case measure => simp [intOf]
      · have hl := lims2 hV hd
        obtain ⟨o1, o2, o3, lj, lt⟩ := hl
        rw [← HS.out] at o1 o2 o3 lj
        have ge := lim_nonneg V 0
        have HL := hide (And.intro lj (And.intro o1 (And.intro o2 o3)))
        clear lj o1 o2 o3 HS hV
        obtain ⟨L0, E0⟩ : ∃ x, lim V 0 = x := ⟨_, rfl⟩
        obtain ⟨L1, E1⟩ : ∃ x, lim V 1 = x := ⟨_, rfl⟩
        obtain ⟨L2, E2⟩ : ∃ x, lim V 2 = x := ⟨_, rfl⟩
        obtain ⟨L3, E3⟩ : ∃ x, lim V 3 = x := ⟨_, rfl⟩
        rw [E0, E1, E2, E3] at HX
        rw [E0] at lt ge
        simp only [E0, E1, E2, E3] at HL
        clear E0 E1 E2 E3
        obtain ⟨x0, x1, x2, x3, g0, g1, g2, g3, xl⟩ := HX.out
        have q0 : (2 : Int) < (n : Int) := by omega
        go_wp2
        go_region
        go_wp2
        go_roundw
        case rel =>
          have hb := HB.out
          obtain ⟨m1, m2, m3, m4⟩ := HL.out
          refine ⟨3, by omega, by omega, by go_num, hide ?_, hide ?_, hide (by (repeat' (first | (with_reducible exact Below.refl _ _) | (with_reducible assumption) | (with_reducible refine Below.alloc ?_ ?_ _) | (with_reducible refine Below.drew ?_) | (with_reducible refine below_drewN ?_ _) | (with_reducible refine Below.setCell ?_ ?_ _) | (with_reducible refine below_step (by with_reducible assumption) ?_ ?_) | (first | (with_reducible exact Nat.le_refl _) | (with_reducible assumption) | omega | (simp only [World.size_alloc, World.size_setCell, World.size_drew, size_drewN]; omega) | (simp; omega) | (simp; done)))))⟩
          · show Box _ _ (lim (val (l.take (2 + 1))) 0) (lim (val (l.take (2 + 1))) 1) (lim (val (l.take (2 + 1))) 2) (lim (val (l.take (2 + 1))) 3)
            rw [m1, m2, m3, m4]
            first | exact (HX.out.set0 _).drew | exact (HX.out.drew).set0 _
          · first | exact (HY.out.other (by simp) _).drew | exact (HY.out.drew).other (by simp) _
        case measure => simp [intOf]
      · have hl := lims3 hV hd
        obtain ⟨o1, o2, o3, lj, lt⟩ := hl
        rw [← HS.out] at o1 o2 o3 lj
        have ge := lim_nonneg V 0
        have HL := hide (And.intro lj (And.intro o1 (And.intro o2 o3)))
        clear lj o1 o2 o3 HS hV
        obtain ⟨L0, E0⟩ : ∃ x, lim V 0 = x := ⟨_, rfl⟩
        obtain ⟨L1, E1⟩ : ∃ x, lim V 1 = x := ⟨_, rfl⟩
        obtain ⟨L2, E2⟩ : ∃ x, lim V 2 = x := ⟨_, rfl⟩
        obtain ⟨L3, E3⟩ : ∃ x, lim V 3 = x := ⟨_, rfl⟩
        rw [E0, E1, E2, E3] at HX
        rw [E0] at lt ge
        simp only [E0, E1, E2, E3] at HL
        clear E0 E1 E2 E3
        obtain ⟨x0, x1, x2, x3, g0, g1, g2, g3, xl⟩ := HX.out
        have q0 : (3 : Int) < (n : Int) := by omega
        go_wp2
        go_region
        go_wp2
        go_roundw
        case rel =>
          have hb := HB.out
          obtain ⟨m1, m2, m3, m4⟩ := HL.out
          refine ⟨4, by omega, by omega, by go_num, hide ?_, hide ?_, hide (by (repeat' (first | (with_reducible exact Below.refl _ _) | (with_reducible assumption) | (with_reducible refine Below.alloc ?_ ?_ _) | (with_reducible refine Below.drew ?_) | (with_reducible refine below_drewN ?_ _) | (with_reducible refine Below.setCell ?_ ?_ _) | (with_reducible refine below_step (by with_reducible assumption) ?_ ?_) | (first | (with_reducible exact Nat.le_refl _) | (with_reducible assumption) | omega | (simp only [World.size_alloc, World.size_setCell, World.size_drew, size_drewN]; omega) | (simp; omega) | (simp; done)))))⟩
          · show Box _ _ (lim (val (l.take (3 + 1))) 0) (lim (val (l.take (3 + 1))) 1) (lim (val (l.take (3 + 1))) 2) (lim (val (l.take (3 + 1))) 3)
            rw [m1, m2, m3, m4]
            first | exact (HX.out.set0 _).drew | exact (HX.out.drew).set0 _
          · first | exact (HY.out.other (by simp) _).drew | exact (HY.out.drew).other (by simp) _
        case measure => simp [intOf]
      · have hl := lims4 hV hd
        obtain ⟨o0, o2, o3, lj, lt⟩ := hl
        rw [← HS.out] at o0 o2 o3 lj
        have ge := lim_nonneg V 1
        have HL := hide (And.intro lj (And.intro o0 (And.intro o2 o3)))
        clear lj o0 o2 o3 HS hV
        obtain ⟨L0, E0⟩ : ∃ x, lim V 0 = x := ⟨_, rfl⟩
        obtain ⟨L1, E1⟩ : ∃ x, lim V 1 = x := ⟨_, rfl⟩
        obtain ⟨L2, E2⟩ : ∃ x, lim V 2 = x := ⟨_, rfl⟩
        obtain ⟨L3, E3⟩ : ∃ x, lim V 3 = x := ⟨_, rfl⟩
        rw [E0, E1, E2, E3] at HX
        rw [E1] at lt ge
        simp only [E0, E1, E2, E3] at HL
        clear E0 E1 E2 E3
        obtain ⟨x0, x1, x2, x3, g0, g1, g2, g3, xl⟩ := HX.out
        have q0 : (4 : Int) < (n : Int) := by omega
        go_wp2
        go_region
        go_wp2
        go_roundw
        case rel =>
          have hb := HB.out
          obtain ⟨m1, m2, m3, m4⟩ := HL.out
          refine ⟨5, by omega, by omega, by go_num, hide ?_, hide ?_, hide (by (repeat' (first | (with_reducible exact Below.refl _ _) | (with_reducible assumption) | (with_reducible refine Below.alloc ?_ ?_ _) | (with_reducible refine Below.drew ?_) | (with_reducible refine below_drewN ?_ _) | (with_reducible refine Below.setCell ?_ ?_ _) | (with_reducible refine below_step (by with_reducible assumption) ?_ ?_) | (first | (with_reducible exact Nat.le_refl _) | (with_reducible assumption) | omega | (simp only [World.size_alloc, World.size_setCell, World.size_drew, size_drewN]; omega) | (simp; omega) | (simp; done)))))⟩
          · show Box _ _ (lim (val (l.take (4 + 1))) 0) (lim (val (l.take (4 + 1))) 1) (lim (val (l.take (4 + 1))) 2) (lim (val (l.take (4 + 1))) 3)
            rw [m1, m2, m3, m4]
            first | exact (HX.out.set1 _).drew | exact (HX.out.drew).set1 _
          · first | exact (HY.out.other (by simp) _).drew | exact (HY.out.drew).other (by simp) _
        case measure => simp [intOf]
      · have hl := lims5 hV hd
        obtain ⟨o0, o2, o3, lj, lt⟩ := hl
        rw [← HS.out] at o0 o2 o3 lj
        have ge := lim_nonneg V 1
        have HL := hide (And.intro lj (And.intro o0 (And.intro o2 o3)))
        clear lj o0 o2 o3 HS hV
        obtain ⟨L0, E0⟩ : ∃ x, lim V 0 = x := ⟨_, rfl⟩
        obtain ⟨L1, E1⟩ : ∃ x, lim V 1 = x := ⟨_, rfl⟩
        obtain ⟨L2, E2⟩ : ∃ x, lim V 2 = x := ⟨_, rfl⟩
        obtain ⟨L3, E3⟩ : ∃ x, lim V 3 = x := ⟨_, rfl⟩
        rw [E0, E1, E2, E3] at HX
        rw [E1] at lt ge
        simp only [E0, E1, E2, E3] at HL
        clear E0 E1 E2 E3
        obtain ⟨x0, x1, x2, x3, g0, g1, g2, g3, xl⟩ := HX.out
        have q0 : (5 : Int) < (n : Int) := by omega
        go_wp2
        go_region
        go_wp2
        go_roundw
        case rel =>
          have hb := HB.out
          obtain ⟨m1, m2, m3, m4⟩ := HL.out
          refine ⟨6, by omega, by omega, by go_num, hide ?_, hide ?_, hide (by (repeat' (first | (with_reducible exact Below.refl _ _) | (with_reducible assumption) | (with_reducible refine Below.alloc ?_ ?_ _) | (with_reducible refine Below.drew ?_) | (with_reducible refine below_drewN ?_ _) | (with_reducible refine Below.setCell ?_ ?_ _) | (with_reducible refine below_step (by with_reducible assumption) ?_ ?_) | (first | (with_reducible exact Nat.le_refl _) | (with_reducible assumption) | omega | (simp only [World.size_alloc, World.size_setCell, World.size_drew, size_drewN]; omega) | (simp; omega) | (simp; done)))))⟩
          · show Box _ _ (lim (val (l.take (5 + 1))) 0) (lim (val (l.take (5 + 1))) 1) (lim (val (l.take (5 + 1))) 2) (lim (val (l.take (5 + 1))) 3)
            rw [m1, m2, m3, m4]
            first | exact (HX.out.set1 _).drew | exact (HX.out.drew).set1 _
          · first | exact (HY.out.other (by simp) _).drew | exact (HY.out.drew).other (by simp) _
        case measure => simp [intOf]
      · have hl := lims6 hV hd
        obtain ⟨o0, o2, o3, lj, lt⟩ := hl
        rw [← HS.out] at o0 o2 o3 lj
        have ge := lim_nonneg V 1
        have HL := hide (And.intro lj (And.intro o0 (And.intro o2 o3)))
        clear lj o0 o2 o3 HS hV
        obtain ⟨L0, E0⟩ : ∃ x, lim V 0 = x := ⟨_, rfl⟩
        obtain ⟨L1, E1⟩ : ∃ x, lim V 1 = x := ⟨_, rfl⟩
        obtain ⟨L2, E2⟩ : ∃ x, lim V 2 = x := ⟨_, rfl⟩
        obtain ⟨L3, E3⟩ : ∃ x, lim V 3 = x := ⟨_, rfl⟩
        rw [E0, E1, E2, E3] at HX
        rw [E1] at lt ge
        simp only [E0, E1, E2, E3] at HL
        clear E0 E1 E2 E3
        obtain ⟨x0, x1, x2, x3, g0, g1, g2, g3, xl⟩ := HX.out
        have q0 : (6 : Int) < (n : Int) := by omega
        go_wp2
        go_region
        go_wp2
        go_roundw
        case rel =>
          have hb := HB.out
          obtain ⟨m1, m2, m3, m4⟩ := HL.out
          refine ⟨7, by omega, by omega, by go_num, hide ?_, hide ?_, hide (by (repeat' (first | (with_reducible exact Below.refl _ _) | (with_reducible assumption) | (with_reducible refine Below.alloc ?_ ?_ _) | (with_reducible refine Below.drew ?_) | (with_reducible refine below_drewN ?_ _) | (with_reducible refine Below.setCell ?_ ?_ _) | (with_reducible refine below_step (by with_reducible assumption) ?_ ?_) | (first | (with_reducible exact Nat.le_refl _) | (with_reducible assumption) | omega | (simp only [World.size_alloc, World.size_setCell, World.size_drew, size_drewN]; omega) | (simp; omega) | (simp; done)))))⟩
          · show Box _ _ (lim (val (l.take (6 + 1))) 0) (lim (val (l.take (6 + 1))) 1) (lim (val (l.take (6 + 1))) 2) (lim (val (l.take (6 + 1))) 3)
            rw [m1, m2, m3, m4]
            first | exact (HX.out.set1 _).drew | exact (HX.out.drew).set1 _
          · first | exact (HY.out.other (by simp) _).drew | exact (HY.out.drew).other (by simp) _
        case measure => simp [intOf]
      · have hl := lims7 hV hd
        obtain ⟨o0, o2, o3, lj, lt⟩ := hl
        rw [← HS.out] at o0 o2 o3 lj
        have ge := lim_nonneg V 1
        have HL := hide (And.intro lj (And.intro o0 (And.intro o2 o3)))
        clear lj o0 o2 o3 HS hV
        obtain ⟨L0, E0⟩ : ∃ x, lim V 0 = x := ⟨_, rfl⟩
        obtain ⟨L1, E1⟩ : ∃ x, lim V 1 = x := ⟨_, rfl⟩
        obtain ⟨L2, E2⟩ : ∃ x, lim V 2 = x := ⟨_, rfl⟩
        obtain ⟨L3, E3⟩ : ∃ x, lim V 3 = x := ⟨_, rfl⟩
        rw [E0, E1, E2, E3] at HX
        rw [E1] at lt ge
        simp only [E0, E1, E2, E3] at HL
        clear E0 E1 E2 E3
        obtain ⟨x0, x1, x2, x3, g0, g1, g2, g3, xl⟩ := HX.out
        have q0 : (7 : Int) < (n : Int) := by omega
        go_wp2
        go_region
        go_wp2
        go_roundw
        case rel =>
          have hb := HB.out
          obtain ⟨m1, m2, m3, m4⟩ := HL.out
          refine ⟨8, by omega, by omega, by go_num, hide ?_, hide ?_, hide (by (repeat' (first | (with_reducible exact Below.refl _ _) | (with_reducible assumption) | (with_reducible refine Below.alloc ?_ ?_ _) | (with_reducible refine Below.drew ?_) | (with_reducible refine below_drewN ?_ _) | (with_reducible refine Below.setCell ?_ ?_ _) | (with_reducible refine below_step (by with_reducible assumption) ?_ ?_) | (first | (with_reducible exact Nat.le_refl _) | (with_reducible assumption) | omega | (simp only [World.size_alloc, World.size_setCell, World.size_drew, size_drewN]; omega) | (simp; omega) | (simp; done)))))⟩
          · show Box _ _ (lim (val (l.take (7 + 1))) 0) (lim (val (l.take (7 + 1))) 1) (lim (val (l.take (7 + 1))) 2) (lim (val (l.take (7 + 1))) 3)
            rw [m1, m2, m3, m4]
            first | exact (HX.out.set1 _).drew | exact (HX.out.drew).set1 _
          · first | exact (HY.out.other (by simp) _).drew | exact (HY.out.drew).other (by simp) _
        case measure => simp [intOf]
      · have hl := lims8 hV hd
        obtain ⟨o0, o1, o3, lj, lt⟩ := hl
        rw [← HS.out] at o0 o1 o3 lj
        have ge := lim_nonneg V 2
        have HL := hide (And.intro lj (And.intro o0 (And.intro o1 o3)))
        clear lj o0 o1 o3 HS hV
        obtain ⟨L0, E0⟩ : ∃ x, lim V 0 = x := ⟨_, rfl⟩
        obtain ⟨L1, E1⟩ : ∃ x, lim V 1 = x := ⟨_, rfl⟩
        obtain ⟨L2, E2⟩ : ∃ x, lim V 2 = x := ⟨_, rfl⟩
        obtain ⟨L3, E3⟩ : ∃ x, lim V 3 = x := ⟨_, rfl⟩
        rw [E0, E1, E2, E3] at HX
        rw [E2] at lt ge
        simp only [E0, E1, E2, E3] at HL
        clear E0 E1 E2 E3
        obtain ⟨x0, x1, x2, x3, g0, g1, g2, g3, xl⟩ := HX.out
        have q0 : (8 : Int) < (n : Int) := by omega
        go_wp2
        go_region
        go_wp2
        go_roundw
        case rel =>
          have hb := HB.out
          obtain ⟨m1, m2, m3, m4⟩ := HL.out
          refine ⟨9, by omega, by omega, by go_num, hide ?_, hide ?_, hide (by (repeat' (first | (with_reducible exact Below.refl _ _) | (with_reducible assumption) | (with_reducible refine Below.alloc ?_ ?_ _) | (with_reducible refine Below.drew ?_) | (with_reducible refine below_drewN ?_ _) | (with_reducible refine Below.setCell ?_ ?_ _) | (with_reducible refine below_step (by with_reducible assumption) ?_ ?_) | (first | (with_reducible exact Nat.le_refl _) | (with_reducible assumption) | omega | (simp only [World.size_alloc, World.size_setCell, World.size_drew, size_drewN]; omega) | (simp; omega) | (simp; done)))))⟩
          · show Box _ _ (lim (val (l.take (8 + 1))) 0) (lim (val (l.take (8 + 1))) 1) (lim (val (l.take (8 + 1))) 2) (lim (val (l.take (8 + 1))) 3)
            rw [m1, m2, m3, m4]
            first | exact (HX.out.set2 _).drew | exact (HX.out.drew).set2 _
          · first | exact (HY.out.other (by simp) _).drew | exact (HY.out.drew).other (by simp) _
        case measure => simp [intOf]
      · have hl := lims9 hV hd
        obtain ⟨o0, o1, o3, lj, lt⟩ := hl
        rw [← HS.out] at o0 o1 o3 lj
        have ge := lim_nonneg V 2
        have HL := hide (And.intro lj (And.intro o0 (And.intro o1 o3)))
        clear lj o0 o1 o3 HS hV
        obtain ⟨L0, E0⟩ : ∃ x, lim V 0 = x := ⟨_, rfl⟩
        obtain ⟨L1, E1⟩ : ∃ x, lim V 1 = x := ⟨_, rfl⟩
        obtain ⟨L2, E2⟩ : ∃ x, lim V 2 = x := ⟨_, rfl⟩
        obtain ⟨L3, E3⟩ : ∃ x, lim V 3 = x := ⟨_, rfl⟩
        rw [E0, E1, E2, E3] at HX
        rw [E2] at lt ge
        simp only [E0, E1, E2, E3] at HL
        clear E0 E1 E2 E3
        obtain ⟨x0, x1, x2, x3, g0, g1, g2, g3, xl⟩ := HX.out
        have q0 : (9 : Int) < (n : Int) := by omega
        go_wp2
        go_region
        go_wp2
        go_roundw
        case rel =>
          have hb := HB.out
          obtain ⟨m1, m2, m3, m4⟩ := HL.out
          refine ⟨10, by omega, by omega, by go_num, hide ?_, hide ?_, hide (by (repeat' (first | (with_reducible exact Below.refl _ _) | (with_reducible assumption) | (with_reducible refine Below.alloc ?_ ?_ _) | (with_reducible refine Below.drew ?_) | (with_reducible refine below_drewN ?_ _) | (with_reducible refine Below.setCell ?_ ?_ _) | (with_reducible refine below_step (by with_reducible assumption) ?_ ?_) | (first | (with_reducible exact Nat.le_refl _) | (with_reducible assumption) | omega | (simp only [World.size_alloc, World.size_setCell, World.size_drew, size_drewN]; omega) | (simp; omega) | (simp; done)))))⟩
          · show Box _ _ (lim (val (l.take (9 + 1))) 0) (lim (val (l.take (9 + 1))) 1) (lim (val (l.take (9 + 1))) 2) (lim (val (l.take (9 + 1))) 3)
            rw [m1, m2, m3, m4]
            first | exact (HX.out.set2 _).drew | exact (HX.out.drew).set2 _
          · first | exact (HY.out.other (by simp) _).drew | exact (HY.out.drew).other (by simp) _
        case measure => simp [intOf]
      · have hl := lims10 hV hd
        obtain ⟨o0, o1, o3, lj, lt⟩ := hl
        rw [← HS.out] at o0 o1 o3 lj
        have ge := lim_nonneg V 2
        have HL := hide (And.intro lj (And.intro o0 (And.intro o1 o3)))
        clear lj o0 o1 o3 HS hV
        obtain ⟨L0, E0⟩ : ∃ x, lim V 0 = x := ⟨_, rfl⟩
        obtain ⟨L1, E1⟩ : ∃ x, lim V 1 = x := ⟨_, rfl⟩
        obtain ⟨L2, E2⟩ : ∃ x, lim V 2 = x := ⟨_, rfl⟩
        obtain ⟨L3, E3⟩ : ∃ x, lim V 3 = x := ⟨_, rfl⟩
        rw [E0, E1, E2, E3] at HX
        rw [E2] at lt ge
        simp only [E0, E1, E2, E3] at HL
        clear E0 E1 E2 E3
        obtain ⟨x0, x1, x2, x3, g0, g1, g2, g3, xl⟩ := HX.out
        have q0 : (10 : Int) < (n : Int) := by omega
        go_wp2
        go_region
        go_wp2
        go_roundw
        case rel =>
          have hb := HB.out
          obtain ⟨m1, m2, m3, m4⟩ := HL.out
          refine ⟨11, by omega, by omega, by go_num, hide ?_, hide ?_, hide (by (repeat' (first | (with_reducible exact Below.refl _ _) | (with_reducible assumption) | (with_reducible refine Below.alloc ?_ ?_ _) | (with_reducible refine Below.drew ?_) | (with_reducible refine below_drewN ?_ _) | (with_reducible refine Below.setCell ?_ ?_ _) | (with_reducible refine below_step (by with_reducible assumption) ?_ ?_) | (first | (with_reducible exact Nat.le_refl _) | (with_reducible assumption) | omega | (simp only [World.size_alloc, World.size_setCell, World.size_drew, size_drewN]; omega) | (simp; omega) | (simp; done)))))⟩
          · show Box _ _ (lim (val (l.take (10 + 1))) 0) (lim (val (l.take (10 + 1))) 1) (lim (val (l.take (10 + 1))) 2) (lim (val (l.take (10 + 1))) 3)
            rw [m1, m2, m3, m4]
            first | exact (HX.out.set2 _).drew | exact (HX.out.drew).set2 _
          · first | exact (HY.out.other (by simp) _).drew | exact (HY.out.drew).other (by simp) _
        case measure => simp [intOf]
      · have hl := lims11 hV hd
        obtain ⟨o0, o1, o3, lj, lt⟩ := hl
        rw [← HS.out] at o0 o1 o3 lj
        have ge := lim_nonneg V 2
        have HL := hide (And.intro lj (And.intro o0 (And.intro o1 o3)))
        clear lj o0 o1 o3 HS hV
        obtain ⟨L0, E0⟩ : ∃ x, lim V 0 = x := ⟨_, rfl⟩
        obtain ⟨L1, E1⟩ : ∃ x, lim V 1 = x := ⟨_, rfl⟩
        obtain ⟨L2, E2⟩ : ∃ x, lim V 2 = x := ⟨_, rfl⟩
        obtain ⟨L3, E3⟩ : ∃ x, lim V 3 = x := ⟨_, rfl⟩
        rw [E0, E1, E2, E3] at HX
        rw [E2] at lt ge
        simp only [E0, E1, E2, E3] at HL
        clear E0 E1 E2 E3
        obtain ⟨x0, x1, x2, x3, g0, g1, g2, g3, xl⟩ := HX.out
        have q0 : (11 : Int) < (n : Int) := by omega
        go_wp2
        go_region
        go_wp2
        go_roundw
        case rel =>
          have hb := HB.out
          obtain ⟨m1, m2, m3, m4⟩ := HL.out
          refine ⟨12, by omega, by omega, by go_num, hide ?_, hide ?_, hide (by (repeat' (first | (with_reducible exact Below.refl _ _) | (with_reducible assumption) | (with_reducible refine Below.alloc ?_ ?_ _) | (with_reducible refine Below.drew ?_) | (with_reducible refine below_drewN ?_ _) | (with_reducible refine Below.setCell ?_ ?_ _) | (with_reducible refine below_step (by with_reducible assumption) ?_ ?_) | (first | (with_reducible exact Nat.le_refl _) | (with_reducible assumption) | omega | (simp only [World.size_alloc, World.size_setCell, World.size_drew, size_drewN]; omega) | (simp; omega) | (simp; done)))))⟩
          · show Box _ _ (lim (val (l.take (11 + 1))) 0) (lim (val (l.take (11 + 1))) 1) (lim (val (l.take (11 + 1))) 2) (lim (val (l.take (11 + 1))) 3)
            rw [m1, m2, m3, m4]
            first | exact (HX.out.set2 _).drew | exact (HX.out.drew).set2 _
          · first | exact (HY.out.other (by simp) _).drew | exact (HY.out.drew).other (by simp) _
        case measure => simp [intOf]
      · have hl := lims12 hV hd
        obtain ⟨o0, o1, o2, lj, lt⟩ := hl
        rw [← HS.out] at o0 o1 o2 lj
        have ge := lim_nonneg V 3
        have HL := hide (And.intro lj (And.intro o0 (And.intro o1 o2)))
        clear lj o0 o1 o2 HS hV
        obtain ⟨L0, E0⟩ : ∃ x, lim V 0 = x := ⟨_, rfl⟩
        obtain ⟨L1, E1⟩ : ∃ x, lim V 1 = x := ⟨_, rfl⟩
        obtain ⟨L2, E2⟩ : ∃ x, lim V 2 = x := ⟨_, rfl⟩
        obtain ⟨L3, E3⟩ : ∃ x, lim V 3 = x := ⟨_, rfl⟩
        rw [E0, E1, E2, E3] at HX
        rw [E3] at lt ge
        simp only [E0, E1, E2, E3] at HL
        clear E0 E1 E2 E3
        obtain ⟨x0, x1, x2, x3, g0, g1, g2, g3, xl⟩ := HX.out
        have q0 : (12 : Int) < (n : Int) := by omega
        go_wp2
        go_region
        go_wp2
        go_roundw
        case rel =>
          have hb := HB.out
          obtain ⟨m1, m2, m3, m4⟩ := HL.out
          refine ⟨13, by omega, by omega, by go_num, hide ?_, hide ?_, hide (by (repeat' (first | (with_reducible exact Below.refl _ _) | (with_reducible assumption) | (with_reducible refine Below.alloc ?_ ?_ _) | (with_reducible refine Below.drew ?_) | (with_reducible refine below_drewN ?_ _) | (with_reducible refine Below.setCell ?_ ?_ _) | (with_reducible refine below_step (by with_reducible assumption) ?_ ?_) | (first | (with_reducible exact Nat.le_refl _) | (with_reducible assumption) | omega | (simp only [World.size_alloc, World.size_setCell, World.size_drew, size_drewN]; omega) | (simp; omega) | (simp; done)))))⟩
          · show Box _ _ (lim (val (l.take (12 + 1))) 0) (lim (val (l.take (12 + 1))) 1) (lim (val (l.take (12 + 1))) 2) (lim (val (l.take (12 + 1))) 3)
            rw [m1, m2, m3, m4]
            first | exact (HX.out.set3 _).drew | exact (HX.out.drew).set3 _
          · first | exact (HY.out.other (by simp) _).drew | exact (HY.out.drew).other (by simp) _
        case measure => simp [intOf]
      · have hl := lims13 hV hd
        obtain ⟨o0, o1, o2, lj, lt⟩ := hl
        rw [← HS.out] at o0 o1 o2 lj
        have ge := lim_nonneg V 3
        have HL := hide (And.intro lj (And.intro o0 (And.intro o1 o2)))
        clear lj o0 o1 o2 HS hV
        obtain ⟨L0, E0⟩ : ∃ x, lim V 0 = x := ⟨_, rfl⟩
        obtain ⟨L1, E1⟩ : ∃ x, lim V 1 = x := ⟨_, rfl⟩
        obtain ⟨L2, E2⟩ : ∃ x, lim V 2 = x := ⟨_, rfl⟩
        obtain ⟨L3, E3⟩ : ∃ x, lim V 3 = x := ⟨_, rfl⟩
        rw [E0, E1, E2, E3] at HX
        rw [E3] at lt ge
        simp only [E0, E1, E2, E3] at HL
        clear E0 E1 E2 E3
        obtain ⟨x0, x1, x2, x3, g0, g1, g2, g3, xl⟩ := HX.out
        have q0 : (13 : Int) < (n : Int) := by omega
        go_wp2
        go_region
        go_wp2
        go_roundw
        case rel =>
          have hb := HB.out
          obtain ⟨m1, m2, m3, m4⟩ := HL.out
          refine ⟨14, by omega, by omega, by go_num, hide ?_, hide ?_, hide (by (repeat' (first | (with_reducible exact Below.refl _ _) | (with_reducible assumption) | (with_reducible refine Below.alloc ?_ ?_ _) | (with_reducible refine Below.drew ?_) | (with_reducible refine below_drewN ?_ _) | (with_reducible refine Below.setCell ?_ ?_ _) | (with_reducible refine below_step (by with_reducible assumption) ?_ ?_) | (first | (with_reducible exact Nat.le_refl _) | (with_reducible assumption) | omega | (simp only [World.size_alloc, World.size_setCell, World.size_drew, size_drewN]; omega) | (simp; omega) | (simp; done)))))⟩
          · show Box _ _ (lim (val (l.take (13 + 1))) 0) (lim (val (l.take (13 + 1))) 1) (lim (val (l.take (13 + 1))) 2) (lim (val (l.take (13 + 1))) 3)
            rw [m1, m2, m3, m4]
            first | exact (HX.out.set3 _).drew | exact (HX.out.drew).set3 _
          · first | exact (HY.out.other (by simp) _).drew | exact (HY.out.drew).other (by simp) _
        case measure => simp [intOf]
      · have hl := lims14 hV hd
        obtain ⟨o0, o1, o2, lj, lt⟩ := hl
        rw [← HS.out] at o0 o1 o2 lj
        have ge := lim_nonneg V 3
        have HL := hide (And.intro lj (And.intro o0 (And.intro o1 o2)))
        clear lj o0 o1 o2 HS hV
        obtain ⟨L0, E0⟩ : ∃ x, lim V 0 = x := ⟨_, rfl⟩
        obtain ⟨L1, E1⟩ : ∃ x, lim V 1 = x := ⟨_, rfl⟩
        obtain ⟨L2, E2⟩ : ∃ x, lim V 2 = x := ⟨_, rfl⟩
        obtain ⟨L3, E3⟩ : ∃ x, lim V 3 = x := ⟨_, rfl⟩
        rw [E0, E1, E2, E3] at HX
        rw [E3] at lt ge
        simp only [E0, E1, E2, E3] at HL
        clear E0 E1 E2 E3
        obtain ⟨x0, x1, x2, x3, g0, g1, g2, g3, xl⟩ := HX.out
        have q0 : (14 : Int) < (n : Int) := by omega
        go_wp2
        go_region
        go_wp2
        go_roundw
        case rel =>
          have hb := HB.out
          obtain ⟨m1, m2, m3, m4⟩ := HL.out
          refine ⟨15, by omega, by omega, by go_num, hide ?_, hide ?_, hide (by (repeat' (first | (with_reducible exact Below.refl _ _) | (with_reducible assumption) | (with_reducible refine Below.alloc ?_ ?_ _) | (with_reducible refine Below.drew ?_) | (with_reducible refine below_drewN ?_ _) | (with_reducible refine Below.setCell ?_ ?_ _) | (with_reducible refine below_step (by with_reducible assumption) ?_ ?_) | (first | (with_reducible exact Nat.le_refl _) | (with_reducible assumption) | omega | (simp only [World.size_alloc, World.size_setCell, World.size_drew, size_drewN]; omega) | (simp; omega) | (simp; done)))))⟩
          · show Box _ _ (lim (val (l.take (14 + 1))) 0) (lim (val (l.take (14 + 1))) 1) (lim (val (l.take (14 + 1))) 2) (lim (val (l.take (14 + 1))) 3)
            rw [m1, m2, m3, m4]
            first | exact (HX.out.set3 _).drew | exact (HX.out.drew).set3 _
          · first | exact (HY.out.other (by simp) _).drew | exact (HY.out.drew).other (by simp) _
        case measure => simp [intOf]
      · have hl := lims15 hV hd
        obtain ⟨o0, o1, o2, lj, lt⟩ := hl
        rw [← HS.out] at o0 o1 o2 lj
        have ge := lim_nonneg V 3
        have HL := hide (And.intro lj (And.intro o0 (And.intro o1 o2)))
        clear lj o0 o1 o2 HS hV
        obtain ⟨L0, E0⟩ : ∃ x, lim V 0 = x := ⟨_, rfl⟩
        obtain ⟨L1, E1⟩ : ∃ x, lim V 1 = x := ⟨_, rfl⟩
        obtain ⟨L2, E2⟩ : ∃ x, lim V 2 = x := ⟨_, rfl⟩
        obtain ⟨L3, E3⟩ : ∃ x, lim V 3 = x := ⟨_, rfl⟩
        rw [E0, E1, E2, E3] at HX
        rw [E3] at lt ge
        simp only [E0, E1, E2, E3] at HL
        clear E0 E1 E2 E3
        obtain ⟨x0, x1, x2, x3, g0, g1, g2, g3, xl⟩ := HX.out
        have q0 : (15 : Int) < (n : Int) := by omega
        go_wp2
        go_region
        go_wp2
        go_roundw
        case rel =>
          have hb := HB.out
          obtain ⟨m1, m2, m3, m4⟩ := HL.out
          refine ⟨16, by omega, by omega, by go_num, hide ?_, hide ?_, hide (by (repeat' (first | (with_reducible exact Below.refl _ _) | (with_reducible assumption) | (with_reducible refine Below.alloc ?_ ?_ _) | (with_reducible refine Below.drew ?_) | (with_reducible refine below_drewN ?_ _) | (with_reducible refine Below.setCell ?_ ?_ _) | (with_reducible refine below_step (by with_reducible assumption) ?_ ?_) | (first | (with_reducible exact Nat.le_refl _) | (with_reducible assumption) | omega | (simp only [World.size_alloc, World.size_setCell, World.size_drew, size_drewN]; omega) | (simp; omega) | (simp; done)))))⟩
          · show Box _ _ (lim (val (l.take (15 + 1))) 0) (lim (val (l.take (15 + 1))) 1) (lim (val (l.take (15 + 1))) 2) (lim (val (l.take (15 + 1))) 3)
            rw [m1, m2, m3, m4]
            first | exact (HX.out.set3 _).drew | exact (HX.out.drew).set3 _
          · first | exact (HY.out.other (by simp) _).drew | exact (HY.out.drew).other (by simp) _
        case measure => simp [intOf]
end Go.Proofs.Ythikkajjnfeigaa
