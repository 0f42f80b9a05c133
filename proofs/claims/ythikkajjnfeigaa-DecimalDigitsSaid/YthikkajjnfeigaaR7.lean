/- Package pontageref1, walked: Mul. -/
import Derived.WalkKit
import Derived.KernelRfl
import Derived.RowKit3
import Derived.Deep.LoopGhost
import Derived.Deep.QuietTactic
import Derived.BigQuiet
import Derived.WideLaws
import Derived.Laws.Rows
import Derived.Below
import Derived.Deep.Draws
import Derived.Outline
import Derived.LoopN
import Derived.Handy
import Derived.Laws.Externs
import Derived.Laws.BitsAllLaws
import Derived.Laws.BitsLemmas
import Derived.Deep.DeepCutAuto
import Derived.Deep.CutBlock
import Derived.Deep.RegionHeld3
import Derived.Test.YthikkajjnfeigaaR6
namespace Go.Proofs.Ythikkajjnfeigaa
open Go.RowKit
set_option linter.unusedVariables false
set_option linter.unusedSimpArgs false
theorem high_zero : ∀ {L : List Nat} {m j : Nat}, val L < 65536 ^ m → m ≤ j → L.getD j 0 = 0
  | [], m, j, _, _ => by simp
  | d :: L, 0, j, h, _ => by
    rw [val, Nat.pow_zero] at h
    cases j with
    | zero => simp; omega
    | succ j => rw [List.getD_cons_succ]; exact high_zero (m := 0) (by rw [Nat.pow_zero]; omega) (Nat.zero_le _)
  | d :: L, m + 1, j, h, hj => by
    cases j with
    | zero => omega
    | succ j =>
      rw [List.getD_cons_succ]
      rw [val, Nat.pow_succ] at h
      exact high_zero (m := m) (by omega) (by omega)
/-- What Mul's outer loop keeps. -/
structure MulInv (A B i : Nat) (L : List Nat) : Prop where
  len : L.length = nd A + nd B
  dg : Digs L
  eq : val L = val ((dig A).take i) * B
/-- What its inner loop keeps. -/
structure MulIn (A B i k ov : Nat) (L : List Nat) : Prop where
  len : L.length = nd A + nd B
  dg : Digs L
  ovlt : ov < 65536
  top : L.getD (i + nd B) 0 = 0
  eq : val L + ov * 65536 ^ (i + k) = val ((dig A).take i) * B + (dig A).getD i 0 * val ((dig B).take k) * 65536 ^ i
theorem MulInv.start (A B : Nat) : MulInv A B 0 (List.replicate (nd A + nd B) 0) := ⟨by simp, digs_rep _, by rw [val_rep]; simp [val]⟩
theorem MulInv.enter {A B i : Nat} {L : List Nat} (h : MulInv A B i L) : MulIn A B i 0 0 L := by
  obtain ⟨len, dg, eq⟩ := h
  refine ⟨len, dg, by omega, ?_, by rw [eq]; simp [val]⟩
  refine high_zero (m := i + nd B) ?_ (Nat.le_refl _)
  rw [eq]
  have h1 : val ((dig A).take i) < 65536 ^ i := by
    have := val_lt (digs_take i (digs_dig A))
    exact Nat.lt_of_lt_of_le this (Nat.pow_le_pow_right (by omega) (by rw [List.length_take]; omega))
  rw [Nat.pow_add]
  exact Nat.mul_lt_mul_of_lt_of_lt h1 (nd_lt B)
theorem MulIn.step {A B i k ov a d e : Nat} {L : List Nat} (h : MulIn A B i k ov L) (ea : (dig A).getD i 0 = a) (ed : (dig B).getD k 0 = d) (ee : L.getD (i + k) 0 = e) (hi : i < nd A) (hk : k < nd B) :
    MulIn A B i (k + 1) ((ov + e + a * d) / 65536) (L.set (i + k) ((ov + e + a * d) % 65536)) := by
  obtain ⟨len, dg, ovlt, top, eq⟩ := h
  have ha : a < 65536 := by rw [← ea]; exact getD_lt (digs_dig A) i
  have hd : d < 65536 := by rw [← ed]; exact getD_lt (digs_dig B) k
  have he : e < 65536 := by rw [← ee]; exact getD_lt dg _
  have hm : a * d ≤ 65535 * 65535 := Nat.mul_le_mul (by omega) (by omega)
  refine ⟨by rw [List.length_set]; exact len, digs_set dg (by omega), by omega, ?_, ?_⟩
  · rw [List.getD_eq_getElem?_getD, List.getElem?_set_ne (by omega), ← List.getD_eq_getElem?_getD]; exact top
  · have hv := val_set (l := L) (i := i + k) (x := (ov + e + a * d) % 65536) (by omega)
    rw [ee] at hv
    rw [take_step, ed, ea]
    rw [ea] at eq
    have hp : 65536 ^ (i + (k + 1)) = 65536 * 65536 ^ (i + k) := by rw [← Nat.add_assoc, Nat.pow_succ, Nat.mul_comm]
    have hq : 65536 ^ (i + k) = 65536 ^ k * 65536 ^ i := by rw [Nat.add_comm, Nat.pow_add]
    rw [hp, ← Nat.mul_assoc]
    have e1 : (ov + e + a * d) % 65536 * 65536 ^ (i + k) + (ov + e + a * d) / 65536 * 65536 * 65536 ^ (i + k) = (ov + e + a * d) * 65536 ^ (i + k) := by rw [← Nat.add_mul]; congr 1; omega
    have e2 : a * (val ((dig B).take k) + d * 65536 ^ k) * 65536 ^ i = a * val ((dig B).take k) * 65536 ^ i + a * d * 65536 ^ (i + k) := by rw [hq, Nat.mul_add, Nat.add_mul, ← Nat.mul_assoc a d, Nat.mul_assoc (a * d)]
    rw [e2]
    rw [Nat.add_mul, Nat.add_mul] at e1
    omega
theorem MulIn.leave {A B i ov : Nat} {L : List Nat} (h : MulIn A B i (nd B) ov L) (hi : i < nd A) : MulInv A B (i + 1) (L.set (i + nd B) ov) := by
  obtain ⟨len, dg, ovlt, top, eq⟩ := h
  refine ⟨by rw [List.length_set]; exact len, digs_set dg ovlt, ?_⟩
  have hv := val_set (l := L) (i := i + nd B) (x := ov) (by omega)
  rw [top] at hv
  rw [List.take_of_length_le (show (dig B).length ≤ nd B from Nat.le_refl _), val_dig] at eq
  rw [take_step, Nat.add_mul, Nat.mul_right_comm]
  omega
theorem MulInv.done {A B : Nat} {L : List Nat} (h : MulInv A B (nd A) L) : val L = A * B := by
  rw [h.eq, List.take_of_length_le (show (dig A).length ≤ nd A from Nat.le_refl _), val_dig]
set_option maxHeartbeats 4000000 in
theorem rmul_c {A B : Nat} (ad : Option Addr) (n c : Nat) (ad' : Option Addr) (n' c' : Nat) (w : World) (hA : Hid (Big w ad n c A)) (hB : Hid (Big w ad' n' c' B)) (hlen : n ≤ 100000) (hlen' : n' ≤ 100000) :
    Calls Try.prog 27 #[.slice ad n c, .slice ad' n' c'] w fun e w' => ∃ ad n'' c, e = .returned (.slice ad n'' c) ∧ Hid (Big w' ad n'' c (A * B)) ∧ n'' ≤ n + n' ∧ Below w.heap.size w w' := by
  have hmk : ∀ W : World, (Instr.makeSlice 48 (.int .i64 ((n : Int) + (n' : Int))) (.int .i64 ((n : Int) + (n' : Int)))).run Try.prog W = .ok (.slice (some ⟨W.heap.size, 0, none⟩) (n + n') (n + n')) (W.alloc (.cells (madeCells (Value.int .i64 0).cells ((n + n') * 1)) 3)) := by
    intro W
    rw [← Int.natCast_add]
    exact make_n (by omega) W
  have N1 := and_i64
  go_enter Try.func27, Try.ntmps27
  go_wp2
  clear hmk
  go_loopw [6] (fun v6 wr => ∃ (i : Nat) (L : List Nat), v6 = .int .i64 i ∧ i ≤ n ∧ Hid (MulInv A B i L) ∧ Hid (Blk wr w.heap.size L) ∧ Hid (Below w.heap.size w wr)) (fun v6 _ => n - (intOf v6).toNat)
  case atStart => exact ⟨0, List.replicate (n + n') 0, rfl, by omega, hide (by rw [hA.out.hn, hB.out.hn]; exact MulInv.start A B), hide (by have := Blk.made w (n + n'); rw [Nat.mul_one] at this; exact this), hide (by (repeat' (first | (with_reducible exact Below.refl _ _) | (with_reducible assumption) | (with_reducible refine Below.alloc ?_ ?_ _) | (with_reducible refine Below.drew ?_) | (with_reducible refine below_drewN ?_ _) | (with_reducible refine Below.setCell ?_ ?_ _) | (with_reducible refine below_step (by with_reducible assumption) ?_ ?_) | (first | (with_reducible exact Nat.le_refl _) | (with_reducible assumption) | omega | (simp only [World.size_alloc, World.size_setCell, World.size_drew, size_drewN]; omega) | (simp; omega) | (simp; done)))))⟩
  case round =>
    obtain ⟨i, L, rfl, hi, HI, HK, HBl⟩ := hrel
    obtain ⟨wo, rfl⟩ : ∃ wo : World, wo = wr := ⟨_, rfl⟩
    by_cases h1 : i < n
    · obtain ⟨b, o, rfl, hcell⟩ := hA.out.row (by intro e; have := hA.out.hn; unfold nd at this; rw [e] at this; simp at this; omega)
      have hx0 := hcell i (by have := hA.out.hn; unfold nd at this; omega)
      have hbl := World.block_lt_of_cell? w _ hx0
      obtain ⟨a, ea⟩ : ∃ d, (dig A).getD i 0 = d := ⟨_, rfl⟩
      have ha : a < 65536 := by rw [← ea]; exact getD_lt (digs_dig A) i
      rw [ea] at hx0
      replace ea := hide ea
      replace hx0 := hide hx0
      clear hcell
      go_wp2
      go_loopw [7, 8] (fun v7 v8 wr => ∃ (k ov : Nat) (L' : List Nat), v8 = .int .i64 k ∧ v7 = .int .i64 ov ∧ k ≤ n' ∧ ov < 65536 ∧ Hid (MulIn A B i k ov L') ∧ Hid (Blk wr w.heap.size L') ∧ Hid (Below w.heap.size w wr)) (fun _ v8 _ => n' - (intOf v8).toNat)
      case atStart => exact ⟨0, 0, L, rfl, rfl, by omega, by omega, hide HI.out.enter, HK, HBl⟩
      case round =>
        obtain ⟨k, ov, L', rfl, rfl, hk, hov, HI', HK', HBl'⟩ := hrel
        by_cases h2 : k < n'
        · obtain ⟨b', o', rfl, hcell⟩ := hB.out.row (by intro e; have := hB.out.hn; unfold nd at this; rw [e] at this; simp at this; omega)
          have hx' := hcell k (by have := hB.out.hn; unfold nd at this; omega)
          have hbl' := World.block_lt_of_cell? w _ hx'
          replace hx' := (HBl'.out.cell (p := ⟨b', o' + k, none⟩) hbl').trans hx'
          have hx := (HBl'.out.cell (p := ⟨b, o + i, none⟩) hbl).trans hx0.out
          obtain ⟨d, ed⟩ : ∃ d', (dig B).getD k 0 = d' := ⟨_, rfl⟩
          have hd : d < 65536 := by rw [← ed]; exact getD_lt (digs_dig B) k
          rw [ed] at hx'
          replace ed := hide ed
          have hke := HK'.out.cell (i := i + k) (by rw [HI'.out.len, ← hA.out.hn, ← hB.out.hn]; omega)
          have hkf := HK'.out.free (i + k)
          obtain ⟨e, ee⟩ : ∃ e, L'.getD (i + k) 0 = e := ⟨_, rfl⟩
          have he : e < 65536 := by rw [← ee]; exact getD_lt HI'.out.dg _
          rw [ee] at hke
          replace ee := hide ee
          have hm0 : 0 ≤ (a : Int) * (d : Int) := Int.mul_nonneg (by omega) (by omega)
          have hm1 : (a : Int) * (d : Int) ≤ 65535 * 65535 := Int.mul_le_mul (by omega) (by omega) (by omega) (by omega)
          clear hcell hbl'
          go_wp2
          go_quiet (fail)
          go_wp2
          go_roundw
          case rel =>
            have hb := HBl'.out
            have hc : ((ov : Int) + (e : Int) + (a : Int) * (d : Int)) = ((ov + e + a * d : Nat) : Int) := by rw [Int.natCast_add, Int.natCast_add, Int.natCast_mul]
            have hs := HI'.out.step ea.out ed.out ee.out (by rw [← hA.out.hn]; exact h1) (by rw [← hB.out.hn]; exact h2)
            rw [hc]
            refine ⟨k + 1, (ov + e + a * d) / 65536, L'.set (i + k) ((ov + e + a * d) % 65536), by go_num, by go_num, by omega, hs.ovlt, hide hs, hide ?_, hide ?_⟩
            · exact (HK'.out.keep (w' := wr.drewN nq) rfl).set (by rw [HI'.out.len, ← hA.out.hn, ← hB.out.hn]; omega) (by omega)
            · exact (by (repeat' (first | (with_reducible exact Below.refl _ _) | (with_reducible assumption) | (with_reducible refine Below.alloc ?_ ?_ _) | (with_reducible refine Below.drew ?_) | (with_reducible refine below_drewN ?_ _) | (with_reducible refine Below.setCell ?_ ?_ _) | (with_reducible refine below_step (by with_reducible assumption) ?_ ?_) | (first | (with_reducible exact Nat.le_refl _) | (with_reducible assumption) | omega | (simp only [World.size_alloc, World.size_setCell, World.size_drew, size_drewN]; omega) | (simp; omega) | (simp; done)))))
          case measure => simp [intOf]; omega
        · obtain rfl : k = n' := by omega
          have hke := HK'.out.cell (i := i + k) (by rw [HI'.out.len, ← hA.out.hn, ← hB.out.hn]; omega)
          have hkf := HK'.out.free (i + k)
          go_wp2
          go_roundw
          case rel =>
            have hb := HBl'.out
            have hs := MulIn.leave (A := A) (B := B) (i := i) (ov := ov) (L := L') (by have := HI'.out; rwa [hB.out.hn] at this) (by rw [← hA.out.hn]; exact h1)
            rw [← hB.out.hn] at hs
            refine ⟨i + 1, L'.set (i + k) ov, by go_num, by omega, hide hs, hide ?_, hide ?_⟩
            · exact HK'.out.set (by rw [HI'.out.len, ← hA.out.hn, ← hB.out.hn]; omega) rfl
            · exact (by (repeat' (first | (with_reducible exact Below.refl _ _) | (with_reducible assumption) | (with_reducible refine Below.alloc ?_ ?_ _) | (with_reducible refine Below.drew ?_) | (with_reducible refine below_drewN ?_ _) | (with_reducible refine Below.setCell ?_ ?_ _) | (with_reducible refine below_step (by with_reducible assumption) ?_ ?_) | (first | (with_reducible exact Nat.le_refl _) | (with_reducible assumption) | omega | (simp only [World.size_alloc, World.size_setCell, World.size_drew, size_drewN]; omega) | (simp; omega) | (simp; done)))))
          case measure => simp [intOf]; omega
    · obtain rfl : i = n := by omega
      have hl : L.length = i + n' := by rw [HI.out.len, ← hA.out.hn, ← hB.out.hn]
      have hv : val L = A * B := MulInv.done (by have := HI.out; rwa [hA.out.hn] at this)
      have hr := norm_row HI.out.dg
      have hn2 : nd (A * B) ≤ i + n' := by have := nd_le_of (val_lt HI.out.dg); rwa [hv, hl] at this
      rw [hv] at hr
      replace hl := hide hl
      replace hv := hide hv
      replace hr := hide hr
      go_wp2_with fail
      refine (norm_c HI.out.dg _ (i + n') (i + n') hl.out.symm (Nat.le_refl _) (by omega) _ HK.out.row).mono ?_
      rintro e w1 ⟨rfl, rfl⟩
      rw [hv.out]
      go_wp2
      go_ret
      refine ⟨_, _, _, rfl, hide ⟨rfl, hn2, ?_⟩, hn2, HBl.out⟩
      rw [← hr.out]
      exact HK.out.row.take _
end Go.Proofs.Ythikkajjnfeigaa
