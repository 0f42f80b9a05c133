/- sizeest, walked: Units and its reference. -/
import Derived.WalkKit
import Derived.KernelRfl
import Derived.RowKit3
import Derived.Deep.LoopGhost
import Derived.Deep.QuietTactic
import Derived.BigQuiet
import Derived.WideLaws
import Derived.Laws.Rows
import Derived.Below
import Derived.Deep.Draws
import Derived.Outline
import Derived.LoopN
import Derived.Handy
import Derived.Laws.Externs
import Derived.Laws.BitsAllLaws
import Derived.Laws.BitsLemmas
import Derived.Deep.DeepCutAuto
import Derived.Deep.CutBlock
import Derived.Deep.RegionHeld3
import Derived.Test.YtfkfheapikgejaaZ6
import Derived.Test.YtfkfheapikgejaaZ9
namespace Go.Proofs.Ytfkfheapikgejaa
open Go.RowKit
set_option linter.unusedVariables false
set_option linter.unusedSimpArgs false
/-- the clamped number of units -/
def clampV (m f t : Nat) : Nat := min (max m f) t
def uV (l : List UInt8) (f t : Nat) : Nat := if t < f then 0 else if 4096 < l.length then 0 else clampV (16 * (comp l 0 0).length) f t
def uE (l : List UInt8) (f t : Nat) : Nat := if t < f then 2 else if 4096 < l.length then 6 else 0
theorem clampV_eq {m f t : Nat} (h : f ≤ t) : clampV m f t = if m < f then f else if t < m then t else m := by
  unfold clampV
  split
  · omega
  · split <;> omega
theorem units_any {l : List UInt8} {f t n : Nat} (hn : n = l.length) : (t < f ∧ uV l f t = 0 ∧ uE l f t = 2) ∨ (f ≤ t ∧ 4096 < n ∧ uV l f t = 0 ∧ uE l f t = 6) ∨ (f ≤ t ∧ n ≤ 4096 ∧ uV l f t = clampV (16 * (comp l 0 0).length) f t ∧ uE l f t = 0) := by
  subst hn
  unfold uV uE
  by_cases h : t < f
  · exact .inl ⟨h, by rw [if_pos h], by rw [if_pos h]⟩
  · by_cases h2 : 4096 < l.length
    · exact .inr (.inl ⟨by omega, h2, by rw [if_neg h, if_pos h2], by rw [if_neg h, if_pos h2]⟩)
    · exact .inr (.inr ⟨by omega, by omega, by rw [if_neg h, if_neg h2], by rw [if_neg h, if_neg h2]⟩)
theorem max_three (m f : Nat) : (m < f ∧ max m f = f) ∨ (m = f ∧ max m f = f) ∨ (f < m ∧ max m f = m) := by omega
set_option maxRecDepth 20000 in
set_option maxHeartbeats 4000000 in
theorem units_c {l : List UInt8} (ad : Option Addr) (n c : Nat) (f t : Nat) (hn : Hid (n = l.length)) (hc : n ≤ c) (hcm : c ≤ 9223372036854775807) (hf : f < 18446744073709551616) (ht : t < 18446744073709551616) (w : World) (hrow : Hid (BRow w ad l)) :
    Calls Try.prog 9 #[.slice ad n c, .int .u64 (f : Int), .int .u64 (t : Int)] w fun e w' => e = .returned (.tuple #[.int .u64 (uV l f t : Nat), .int .i64 (uE l f t : Nat)]) ∧ Below w.heap.size w w' := by
  rcases units_any (f := f) (t := t) hn.out with ⟨h1, h2, h3⟩ | ⟨h1, h4, h2, h3⟩ | ⟨h1, h4, h2, h3⟩
  · rw [h2, h3]
    clear h2 h3
    have t1 : (t : Int) < (f : Int) := by omega
    go_enter Try.func9, Try.ntmps9
    go_wp2
    go_returns
    exact ⟨rfl, (by (repeat' (first | (with_reducible exact Below.refl _ _) | (with_reducible assumption) | (with_reducible refine Below.alloc ?_ ?_ _) | (with_reducible refine Below.drew ?_) | (with_reducible refine below_drewN ?_ _) | (with_reducible refine Below.setCell ?_ ?_ _) | (with_reducible refine below_step (by with_reducible assumption) ?_ ?_) | (first | (with_reducible exact Nat.le_refl _) | (with_reducible assumption) | omega | (simp only [World.size_alloc, World.size_setCell, World.size_drew, size_drewN]; omega) | (simp; omega) | (simp; done)))))⟩
  · rw [h2, h3]
    clear h2 h3
    have t1 : (f : Int) ≤ (t : Int) := by omega
    have t2 : (4096 : Int) < (n : Int) := by omega
    go_enter Try.func9, Try.ntmps9
    go_wp2
    go_returns
    exact ⟨rfl, (by (repeat' (first | (with_reducible exact Below.refl _ _) | (with_reducible assumption) | (with_reducible refine Below.alloc ?_ ?_ _) | (with_reducible refine Below.drew ?_) | (with_reducible refine below_drewN ?_ _) | (with_reducible refine Below.setCell ?_ ?_ _) | (with_reducible refine below_step (by with_reducible assumption) ?_ ?_) | (first | (with_reducible exact Nat.le_refl _) | (with_reducible assumption) | omega | (simp only [World.size_alloc, World.size_setCell, World.size_drew, size_drewN]; omega) | (simp; omega) | (simp; done)))))⟩
  · rw [h2, h3]
    clear h2 h3
    have t1 : (f : Int) ≤ (t : Int) := by omega
    have t2 : (n : Int) ≤ 4096 := by omega
    have HC := hide (comp_c ad n c hn hc (by omega) w hrow)
    obtain ⟨q, hq⟩ : ∃ q, (comp l 0 0).length = q := ⟨_, rfl⟩
    have hq5 : q ≤ 5000 := by have := comp_bound l; have := hn.out; omega
    rw [hq]
    replace hq := hide hq
    rw [clampV_eq h1]
    by_cases hm : 16 * q < f
    · rw [if_pos hm]
      have t3 : 16 * (q : Int) < (f : Int) := by omega
      go_enter Try.func9, Try.ntmps9
      go_wp2_with fail
      refine HC.out.mono ?_
      rintro e w1 ⟨v1, rfl, HO1, hb1⟩
      obtain ⟨A1, c1, rfl, hc1, hr1⟩ := HO1.out.shape
      rw [hq.out]
      clear hr1 HO1 hc1
      go_wp2
      go_returns
      exact ⟨rfl, (by (repeat' (first | (with_reducible exact Below.refl _ _) | (with_reducible assumption) | (with_reducible refine Below.alloc ?_ ?_ _) | (with_reducible refine Below.drew ?_) | (with_reducible refine below_drewN ?_ _) | (with_reducible refine Below.setCell ?_ ?_ _) | (with_reducible refine below_step (by with_reducible assumption) ?_ ?_) | (first | (with_reducible exact Nat.le_refl _) | (with_reducible assumption) | omega | (simp only [World.size_alloc, World.size_setCell, World.size_drew, size_drewN]; omega) | (simp; omega) | (simp; done)))))⟩
    · rw [if_neg hm]
      have t3 : (f : Int) ≤ 16 * (q : Int) := by omega
      by_cases hM : t < 16 * q
      · rw [if_pos hM]
        have t4 : (t : Int) < 16 * (q : Int) := by omega
        go_enter Try.func9, Try.ntmps9
        go_wp2_with fail
        refine HC.out.mono ?_
        rintro e w1 ⟨v1, rfl, HO1, hb1⟩
        obtain ⟨A1, c1, rfl, hc1, hr1⟩ := HO1.out.shape
        rw [hq.out]
        clear hr1 HO1 hc1
        go_wp2
        go_returns
        exact ⟨rfl, (by (repeat' (first | (with_reducible exact Below.refl _ _) | (with_reducible assumption) | (with_reducible refine Below.alloc ?_ ?_ _) | (with_reducible refine Below.drew ?_) | (with_reducible refine below_drewN ?_ _) | (with_reducible refine Below.setCell ?_ ?_ _) | (with_reducible refine below_step (by with_reducible assumption) ?_ ?_) | (first | (with_reducible exact Nat.le_refl _) | (with_reducible assumption) | omega | (simp only [World.size_alloc, World.size_setCell, World.size_drew, size_drewN]; omega) | (simp; omega) | (simp; done)))))⟩
      · rw [if_neg hM]
        have t4 : 16 * (q : Int) ≤ (t : Int) := by omega
        go_enter Try.func9, Try.ntmps9
        go_wp2_with fail
        refine HC.out.mono ?_
        rintro e w1 ⟨v1, rfl, HO1, hb1⟩
        obtain ⟨A1, c1, rfl, hc1, hr1⟩ := HO1.out.shape
        rw [hq.out]
        clear hr1 HO1 hc1
        go_wp2
        go_returns
        exact ⟨by go_num, (by (repeat' (first | (with_reducible exact Below.refl _ _) | (with_reducible assumption) | (with_reducible refine Below.alloc ?_ ?_ _) | (with_reducible refine Below.drew ?_) | (with_reducible refine below_drewN ?_ _) | (with_reducible refine Below.setCell ?_ ?_ _) | (with_reducible refine below_step (by with_reducible assumption) ?_ ?_) | (first | (with_reducible exact Nat.le_refl _) | (with_reducible assumption) | omega | (simp only [World.size_alloc, World.size_setCell, World.size_drew, size_drewN]; omega) | (simp; omega) | (simp; done)))))⟩
set_option maxRecDepth 20000 in
set_option maxHeartbeats 4000000 in
theorem runits_c {l : List UInt8} (ad : Option Addr) (n c : Nat) (f t : Nat) (hn : Hid (n = l.length)) (hc : n ≤ c) (hcm : c ≤ 9223372036854775807) (hf : f < 18446744073709551616) (ht : t < 18446744073709551616) (w : World) (hrow : Hid (BRow w ad l)) :
    Calls Try.prog 10 #[.slice ad n c, .int .u64 (f : Int), .int .u64 (t : Int)] w fun e w' => e = .returned (.tuple #[.int .u64 (uV l f t : Nat), .int .i64 (uE l f t : Nat)]) ∧ Below w.heap.size w w' := by
  rcases units_any (f := f) (t := t) hn.out with ⟨h1, h2, h3⟩ | ⟨h1, h4, h2, h3⟩ | ⟨h1, h4, h2, h3⟩
  · rw [h2, h3]
    clear h2 h3
    have t1 : (t : Int) < (f : Int) := by omega
    go_enter Try.func10, Try.ntmps10
    go_wp2
    go_returns
    exact ⟨rfl, (by (repeat' (first | (with_reducible exact Below.refl _ _) | (with_reducible assumption) | (with_reducible refine Below.alloc ?_ ?_ _) | (with_reducible refine Below.drew ?_) | (with_reducible refine below_drewN ?_ _) | (with_reducible refine Below.setCell ?_ ?_ _) | (with_reducible refine below_step (by with_reducible assumption) ?_ ?_) | (first | (with_reducible exact Nat.le_refl _) | (with_reducible assumption) | omega | (simp only [World.size_alloc, World.size_setCell, World.size_drew, size_drewN]; omega) | (simp; omega) | (simp; done)))))⟩
  · rw [h2, h3]
    clear h2 h3
    have t1 : (f : Int) ≤ (t : Int) := by omega
    have t2 : (4096 : Int) < (n : Int) := by omega
    go_enter Try.func10, Try.ntmps10
    go_wp2
    go_returns
    exact ⟨rfl, (by (repeat' (first | (with_reducible exact Below.refl _ _) | (with_reducible assumption) | (with_reducible refine Below.alloc ?_ ?_ _) | (with_reducible refine Below.drew ?_) | (with_reducible refine below_drewN ?_ _) | (with_reducible refine Below.setCell ?_ ?_ _) | (with_reducible refine below_step (by with_reducible assumption) ?_ ?_) | (first | (with_reducible exact Nat.le_refl _) | (with_reducible assumption) | omega | (simp only [World.size_alloc, World.size_setCell, World.size_drew, size_drewN]; omega) | (simp; omega) | (simp; done)))))⟩
  · rw [h2, h3]
    clear h2 h3
    have t1 : (f : Int) ≤ (t : Int) := by omega
    have t2 : (n : Int) ≤ 4096 := by omega
    have HC := hide (rcomp_c ad n c hn hc (by omega) w hrow)
    obtain ⟨q, hq⟩ : ∃ q, (comp l 0 0).length = q := ⟨_, rfl⟩
    have hq5 : q ≤ 5000 := by have := comp_bound l; have := hn.out; omega
    rw [hq]
    replace hq := hide hq
    rw [clampV_eq h1]
    by_cases hm : 16 * q < f
    · rw [if_pos hm]
      have t3 : (q : Int) * 16 < (f : Int) := by omega
      go_enter Try.func10, Try.ntmps10
      go_wp2_with fail
      refine HC.out.mono ?_
      rintro e w1 ⟨v1, rfl, HO1, hb1⟩
      obtain ⟨A1, c1, rfl, hc1, hr1⟩ := HO1.out.shape
      rw [hq.out]
      clear hr1 HO1 hc1
      go_wp2
      go_returns
      exact ⟨rfl, (by (repeat' (first | (with_reducible exact Below.refl _ _) | (with_reducible assumption) | (with_reducible refine Below.alloc ?_ ?_ _) | (with_reducible refine Below.drew ?_) | (with_reducible refine below_drewN ?_ _) | (with_reducible refine Below.setCell ?_ ?_ _) | (with_reducible refine below_step (by with_reducible assumption) ?_ ?_) | (first | (with_reducible exact Nat.le_refl _) | (with_reducible assumption) | omega | (simp only [World.size_alloc, World.size_setCell, World.size_drew, size_drewN]; omega) | (simp; omega) | (simp; done)))))⟩
    · rw [if_neg hm]
      have t3 : (f : Int) ≤ (q : Int) * 16 := by omega
      by_cases hM : t < 16 * q
      · rw [if_pos hM]
        have t4 : (t : Int) < (q : Int) * 16 := by omega
        go_enter Try.func10, Try.ntmps10
        go_wp2_with fail
        refine HC.out.mono ?_
        rintro e w1 ⟨v1, rfl, HO1, hb1⟩
        obtain ⟨A1, c1, rfl, hc1, hr1⟩ := HO1.out.shape
        rw [hq.out]
        clear hr1 HO1 hc1
        go_wp2
        go_returns
        exact ⟨rfl, (by (repeat' (first | (with_reducible exact Below.refl _ _) | (with_reducible assumption) | (with_reducible refine Below.alloc ?_ ?_ _) | (with_reducible refine Below.drew ?_) | (with_reducible refine below_drewN ?_ _) | (with_reducible refine Below.setCell ?_ ?_ _) | (with_reducible refine below_step (by with_reducible assumption) ?_ ?_) | (first | (with_reducible exact Nat.le_refl _) | (with_reducible assumption) | omega | (simp only [World.size_alloc, World.size_setCell, World.size_drew, size_drewN]; omega) | (simp; omega) | (simp; done)))))⟩
      · rw [if_neg hM]
        have t4 : (q : Int) * 16 ≤ (t : Int) := by omega
        have e16 : ((16 * q : Nat) : Int) = (q : Int) * 16 := by omega
        rw [e16]
        clear e16
        go_enter Try.func10, Try.ntmps10
        go_wp2_with fail
        refine HC.out.mono ?_
        rintro e w1 ⟨v1, rfl, HO1, hb1⟩
        obtain ⟨A1, c1, rfl, hc1, hr1⟩ := HO1.out.shape
        rw [hq.out]
        clear hr1 HO1 hc1
        go_wp2
        go_returns
        exact ⟨rfl, (by (repeat' (first | (with_reducible exact Below.refl _ _) | (with_reducible assumption) | (with_reducible refine Below.alloc ?_ ?_ _) | (with_reducible refine Below.drew ?_) | (with_reducible refine below_drewN ?_ _) | (with_reducible refine Below.setCell ?_ ?_ _) | (with_reducible refine below_step (by with_reducible assumption) ?_ ?_) | (first | (with_reducible exact Nat.le_refl _) | (with_reducible assumption) | omega | (simp only [World.size_alloc, World.size_setCell, World.size_drew, size_drewN]; omega) | (simp; omega) | (simp; done)))))⟩
theorem ex_units : uV [97, 98, 99, 100] 0 1000 = 80 ∧ uE [97, 98, 99, 100] 0 1000 = 0 ∧ uV [] 16 1000 = 16 ∧ uE [] 16 1000 = 0 := by decide
set_option maxRecDepth 20000 in
set_option maxHeartbeats 4000000 in
theorem awake10_c (w : World) : Calls Try.prog 8 #[] w fun e w' => e = .returned (.bool true) ∧ Below w.heap.size w w' := by
  have kc := fun (w : World) (C : Array Value) (n c g : Nat) (hg : g = w.heap.size) => Joins.run_convert_bytes_const_at (P := Try.prog) w 22 5 C n c g hg Try.underlying22 Try.underlying5
  obtain ⟨u1, u2, u3, u4⟩ := ex_units
  go_enter Try.func8, Try.ntmps8
  have H1 := hide (fun (w : World) => units_c (l := [97, 98, 99, 100]) (some ⟨w.heap.size, 0, none⟩) 4 4 0 1000 (hide rfl) (by omega) (by omega) (by omega) (by omega) (w.alloc (.cells (([97, 98, 99, 100] : List UInt8).map bv).toArray 5 (4, 5))) (hide (BRow.lit (heap_alloc_new _ _) rfl)))
  rw [u1, u2] at H1
  have H2 := hide (fun (w : World) => units_c (l := []) none 0 0 16 1000 (hide rfl) (by omega) (by omega) (by omega) (by omega) w (hide (fun h => absurd rfl h)))
  rw [u3, u4] at H2
  clear u1 u2 u3 u4
  go_wp2_with fail
  refine (H1.out _).mono ?_
  rintro e w1 ⟨rfl, hb1⟩
  have hs1 := hb1.size
  simp only [World.size_alloc] at hs1
  go_wp2_with fail
  refine (H2.out _).mono ?_
  rintro e w2 ⟨rfl, hb2⟩
  go_wp2
  go_ret
  exact ⟨rfl, (by (repeat' (first | (with_reducible exact Below.refl _ _) | (with_reducible assumption) | (with_reducible refine Below.alloc ?_ ?_ _) | (with_reducible refine Below.drew ?_) | (with_reducible refine below_drewN ?_ _) | (with_reducible refine Below.setCell ?_ ?_ _) | (with_reducible refine below_step (by with_reducible assumption) ?_ ?_) | (first | (with_reducible exact Nat.le_refl _) | (with_reducible assumption) | omega | (simp only [World.size_alloc, World.size_setCell, World.size_drew, size_drewN]; omega) | (simp; omega) | (simp; done)))))⟩
end Go.Proofs.Ytfkfheapikgejaa
