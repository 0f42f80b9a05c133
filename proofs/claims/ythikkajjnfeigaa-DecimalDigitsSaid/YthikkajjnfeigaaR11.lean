/- Package pontageref1, walked: short. -/
import Derived.WalkKit
import Derived.KernelRfl
import Derived.RowKit3
import Derived.Deep.LoopGhost
import Derived.Deep.QuietTactic
import Derived.BigQuiet
import Derived.WideLaws
import Derived.Laws.Rows
import Derived.Below
import Derived.Deep.Draws
import Derived.Outline
import Derived.LoopN
import Derived.Handy
import Derived.Laws.Externs
import Derived.Laws.BitsAllLaws
import Derived.Laws.BitsLemmas
import Derived.Deep.DeepCutAuto
import Derived.Deep.CutBlock
import Derived.Deep.RegionHeld3
import Derived.Test.YthikkajjnfeigaaR10
namespace Go.Proofs.Ythikkajjnfeigaa
open Go.RowKit
set_option linter.unusedVariables false
set_option linter.unusedSimpArgs false
theorem row_one (W : World) (x : Nat) (t : TypeId) : Row (W.alloc (.cells #[.int .i64 (x : Int)] t)) (some ⟨W.heap.size, 0, none⟩) [x] := fun _ => ⟨W.heap.size, 0, rfl, fun i hi => by
  obtain rfl : i = 0 := by simp at hi; omega
  simp [go_sem]⟩
theorem nd_small {N : Nat} (h : N < 65536) : nd N ≤ 1 := nd_le_of (by simpa using h)
set_option maxHeartbeats 4000000 in
theorem rshort_c {A m : Nat} (ad : Option Addr) (n c : Nat) (w : World) (hA : Hid (Big w ad n c A)) (hm : 0 < m) (hm' : m < 65536) (hlen : n ≤ 100000) :
    Calls Try.prog 43 #[.slice ad n c, .int .i64 (m : Int)] w fun e w' => ∃ a1 n1 c1 a2 n2 c2, e = .returned (.tuple #[.slice a1 n1 c1, .slice a2 n2 c2]) ∧ Hid (Big w' a1 n1 c1 (A / m)) ∧ Hid (Big w' a2 n2 c2 (A % m)) ∧ n1 ≤ n ∧ n2 ≤ 1 ∧ Below w.heap.size w w' := by
  have hmk := make_n (n := n) (by omega)
  go_enter Try.func43, Try.ntmps43
  go_wp2
  clear hmk
  go_loopw [7, 8] (fun v7 v8 wr => ∃ (i left : Nat) (L : List Nat) (x : Int), v8 = .int .i64 x ∧ x = (i : Int) - 1 ∧ v7 = .int .i64 left ∧ i ≤ n ∧ Hid (ShI A m i left L) ∧ Hid (Blk wr w.heap.size L) ∧ Hid (Below w.heap.size w wr)) (fun _ v8 _ => (intOf v8 + 1).toNat)
  case atStart => exact ⟨n, 0, List.replicate n 0, _, rfl, by go_num, rfl, by omega, hide (by rw [hA.out.hn]; exact ShI.start A m), hide (by have := Blk.made w n; rw [Nat.mul_one] at this; exact this), hide (by (repeat' (first | (with_reducible exact Below.refl _ _) | (with_reducible assumption) | (with_reducible refine Below.alloc ?_ ?_ _) | (with_reducible refine Below.drew ?_) | (with_reducible refine below_drewN ?_ _) | (with_reducible refine Below.setCell ?_ ?_ _) | (with_reducible refine below_step (by with_reducible assumption) ?_ ?_) | (first | (with_reducible exact Nat.le_refl _) | (with_reducible assumption) | omega | (simp only [World.size_alloc, World.size_setCell, World.size_drew, size_drewN]; omega) | (simp; omega) | (simp; done)))))⟩
  case round =>
    obtain ⟨i, left, L, x, rfl, hx, rfl, hi, HI, HK, HBl⟩ := hrel
    have hb := HBl.out
    have hsz := hb.size
    rcases i with _ | k
    · obtain rfl : x = -1 := by omega
      clear hx
      obtain ⟨hv, hl⟩ := HI.out.done
      have hn2 : L.length = n := by rw [HI.out.len]; exact hA.out.hn.symm
      have hr := norm_row HI.out.dg
      have hlt : left < 65536 := by rw [hl]; exact Nat.lt_of_lt_of_le (Nat.mod_lt _ hm) (by omega)
      have hd1 : Digs [left] := fun d hd => by simp at hd; omega
      have hr1 := norm_row hd1
      have hnq : nd (A / m) ≤ n := by have := nd_le_of (val_lt HI.out.dg); rwa [hv, hn2] at this
      have e1 : val [left] = A % m := by simp [val, hl]
      rw [hv] at hr
      rw [e1] at hr1
      replace hv := hide hv
      replace hn2 := hide hn2
      replace hr := hide hr
      replace hr1 := hide hr1
      replace e1 := hide e1
      replace hl := hide hl
      go_wp2_with fail
      refine (norm_c HI.out.dg _ n n hn2.out.symm (Nat.le_refl _) (by omega) _ HK.out.row).mono ?_
      rintro e w1 ⟨rfl, rfl⟩
      rw [hv.out]
      go_wp2_with fail
      refine (norm_c hd1 _ 1 1 rfl (Nat.le_refl _) (by omega) _ (row_one _ left _)).mono ?_
      rintro e w1 ⟨rfl, rfl⟩
      rw [e1.out]
      go_wp2
      go_returns
      refine ⟨_, _, _, _, _, _, rfl, hide ⟨rfl, hnq, ?_⟩, hide ⟨rfl, nd_small (by rw [← hl.out]; exact hlt), ?_⟩, hnq, nd_small (by rw [← hl.out]; exact hlt), (by (repeat' (first | (with_reducible exact Below.refl _ _) | (with_reducible assumption) | (with_reducible refine Below.alloc ?_ ?_ _) | (with_reducible refine Below.drew ?_) | (with_reducible refine below_drewN ?_ _) | (with_reducible refine Below.setCell ?_ ?_ _) | (with_reducible refine below_step (by with_reducible assumption) ?_ ?_) | (first | (with_reducible exact Nat.le_refl _) | (with_reducible assumption) | omega | (simp only [World.size_alloc, World.size_setCell, World.size_drew, size_drewN]; omega) | (simp; omega) | (simp; done)))))⟩
      · rw [← hr.out]
        exact (HK.out.row.take _).below (Below.alloc (Below.refl wr.heap.size wr) (Nat.le_refl _) _) (Nat.le_refl _)
      · rw [← hr1.out]
        exact (row_one _ left _).take _
    · obtain rfl : x = (k : Int) := by omega
      clear hx
      obtain ⟨b, o, rfl, hcell⟩ := hA.out.row (by intro e; have := hA.out.hn; unfold nd at this; rw [e] at this; simp at this; omega)
      have hx := hcell k (by have := hA.out.hn; unfold nd at this; omega)
      have hbl := World.block_lt_of_cell? w _ hx
      replace hx := (HBl.out.cell (p := ⟨b, o + k, none⟩) hbl).trans hx
      obtain ⟨d, ed⟩ : ∃ d, (dig A).getD k 0 = d := ⟨_, rfl⟩
      have hd : d < 65536 := by rw [← ed]; exact getD_lt (digs_dig A) k
      rw [ed] at hx
      obtain ⟨hq, HS⟩ := HI.out.step hm ed (by rw [← hA.out.hn]; omega)
      have hlm : left < m := by rw [HI.out.l]; exact Nat.mod_lt _ hm
      replace ed := hide ed
      replace HS := hide HS
      have hke := HK.out.cell (i := k) (by rw [HI.out.len, ← hA.out.hn]; omega)
      have hkf := HK.out.free k
      obtain ⟨q, eq⟩ : ∃ q, (65536 * left + d) / m = q := ⟨_, rfl⟩
      obtain ⟨r, er⟩ : ∃ r, (65536 * left + d) % m = r := ⟨_, rfl⟩
      have hrm : r < m := by rw [← er]; exact Nat.mod_lt _ hm
      rw [eq] at hq
      have f1 : (65536 * (left : Int) + (d : Int)).tdiv (m : Int) = (q : Int) := by
        rw [Int.tdiv_eq_ediv_of_nonneg (by omega), ← eq]; simp
      have f2 : (65536 * (left : Int) + (d : Int)).tmod (m : Int) = (r : Int) := by
        rw [Int.tmod_eq_emod_of_nonneg (by omega), ← er]; simp
      have f3 : ¬ (m : Int) = 0 := by omega
      have f4 : ((m : Int) == 0) = false := by simp; omega
      have f5 : ¬ (m : Int) = -1 := by omega
      rw [eq, er] at HS
      clear hcell hbl eq er
      go_wp2
      go_region
      all_goals go_wp2
      go_roundw
      case rel =>
        refine ⟨k, r, L.set k q, (k : Int) - 1, by go_num, rfl, by go_num, by omega, HS, hide ?_, hide (by (repeat' (first | (with_reducible exact Below.refl _ _) | (with_reducible assumption) | (with_reducible refine Below.alloc ?_ ?_ _) | (with_reducible refine Below.drew ?_) | (with_reducible refine below_drewN ?_ _) | (with_reducible refine Below.setCell ?_ ?_ _) | (with_reducible refine below_step (by with_reducible assumption) ?_ ?_) | (first | (with_reducible exact Nat.le_refl _) | (with_reducible assumption) | omega | (simp only [World.size_alloc, World.size_setCell, World.size_drew, size_drewN]; omega) | (simp; omega) | (simp; done)))))⟩
        exact HK.out.set (by rw [HI.out.len, ← hA.out.hn]; omega) (by omega)
      case measure => first | (simp [intOf]; done) | (simp [intOf]; omega)
end Go.Proofs.Ythikkajjnfeigaa
