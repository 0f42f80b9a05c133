/- Chapter 10: the number of units, walked. -/
import Derived.WalkKit
import Derived.KernelRfl
import Derived.RowKit3
import Derived.Deep.LoopGhost
import Derived.Deep.QuietTactic
import Derived.BigQuiet
import Derived.WideLaws
import Derived.Laws.Rows
import Derived.Below
import Derived.Deep.Draws
import Derived.Outline
import Derived.LoopN
import Derived.Handy
import Derived.Laws.Externs
import Derived.Laws.BitsAllLaws
import Derived.Laws.BitsLemmas
import Derived.Deep.DeepCutAuto
import Derived.Deep.CutBlock
import Derived.Deep.RegionHeld3
import Derived.Test.YtfkfheapikgejaaY1
import Derived.Test.YtfkfheapikgejaaZ8
import Derived.Laws.OwnMore
namespace Go.Proofs.Ytfkfheapikgejaa
open Go.RowKit
set_option linter.unusedVariables false
set_option linter.unusedSimpArgs false
set_option maxRecDepth 20000 in
set_option maxHeartbeats 4000000 in
theorem SizeUnits_walk (ad : Option Addr) (n c : Nat) (l : List UInt8) (fl tp : Int) (hn : n = l.length) (hc : n ≤ c) (hm : c ≤ maxLen) (wf : (Lit.int .u64 fl).wf = true) (wt : (Lit.int .u64 tp).wf = true) (w : World) (hrow : BRow w ad l) :
    Calls Try.prog 3 #[.slice ad n c, .int .u64 fl, .int .u64 tp] w fun e w' => e = .returned (.bool true) ∧ Below w.heap.size w w' := by
  obtain ⟨p0, q0⟩ := bounds_u64 wf
  obtain ⟨p1, q1⟩ := bounds_u64 wt
  clear wf wt
  obtain ⟨f, rfl⟩ := Int.eq_ofNat_of_zero_le p0
  obtain ⟨t, rfl⟩ := Int.eq_ofNat_of_zero_le p1
  unfold maxLen at hm
  replace hn := hide hn
  replace hrow := hide hrow
  by_cases hb : 800 < n ∧ n ≤ 4096
  · have t1 : (800 : Int) < (n : Int) := by omega
    have t2 : (n : Int) ≤ 4096 := by omega
    clear hb
    go_enter Try.func3, Try.ntmps3
    go_wp2_with fail
    refine (awake10_c _).mono ?_
    rintro e w1 ⟨rfl, hb1⟩
    go_wp2
    go_ret
    exact ⟨rfl, (by (repeat' (first | (with_reducible exact Below.refl _ _) | (with_reducible assumption) | (with_reducible refine Below.alloc ?_ ?_ _) | (with_reducible refine Below.drew ?_) | (with_reducible refine below_drewN ?_ _) | (with_reducible refine Below.setCell ?_ ?_ _) | (with_reducible refine below_step (by with_reducible assumption) ?_ ?_) | (first | (with_reducible exact Nat.le_refl _) | (with_reducible assumption) | omega | (simp only [World.size_alloc, World.size_setCell, World.size_drew, size_drewN]; omega) | (simp; omega) | (simp; done)))))⟩
  · have hF := fun w (hr : Hid (BRow w ad l)) => units_c ad n c f t hn hc (by omega) (by omega) (by omega) w hr
    have hR := fun w (hr : Hid (BRow w ad l)) => runits_c ad n c f t hn hc (by omega) (by omega) (by omega) w hr
    have hF2 := fun w (hr : Hid (BRow w ad l)) => units_c ad n c (f % 20000) (t % 20000) hn hc (by omega) (by omega) (by omega) w hr
    have hR2 := fun w (hr : Hid (BRow w ad l)) => runits_c ad n c (f % 20000) (t % 20000) hn hc (by omega) (by omega) (by omega) w hr
    obtain ⟨V1, hV1⟩ : ∃ V, uV l f t = V := ⟨_, rfl⟩
    obtain ⟨E1, hE1⟩ : ∃ V, uE l f t = V := ⟨_, rfl⟩
    obtain ⟨V2, hV2⟩ : ∃ V, uV l (f % 20000) (t % 20000) = V := ⟨_, rfl⟩
    obtain ⟨E2, hE2⟩ : ∃ V, uE l (f % 20000) (t % 20000) = V := ⟨_, rfl⟩
    rw [hV1, hE1] at hF hR
    rw [hV2, hE2] at hF2 hR2
    clear hV1 hE1 hV2 hE2
    obtain ⟨f2, hf2⟩ : ∃ x, f % 20000 = x := ⟨_, rfl⟩
    obtain ⟨t2, ht2⟩ : ∃ x, t % 20000 = x := ⟨_, rfl⟩
    rw [hf2, ht2] at hF2 hR2
    have r1 : ((f : Nat) : Int).tmod 20000 = (f2 : Int) := by rw [Int.tmod_eq_emod_of_nonneg (by omega)]; omega
    have r2 : ((t : Nat) : Int).tmod 20000 = (t2 : Int) := by rw [Int.tmod_eq_emod_of_nonneg (by omega)]; omega
    replace hF := hide hF
    replace hR := hide hR
    replace hF2 := hide hF2
    replace hR2 := hide hR2
    clear hf2 ht2
    generalize ((f : Nat) : Int) = fI at *
    generalize ((t : Nat) : Int) = tI at *
    by_cases h8 : 800 < n
    · have t3 : (800 : Int) < (n : Int) := by omega
      have t4 : (4096 : Int) < (n : Int) := by omega
      clear hb h8
      go_enter Try.func3, Try.ntmps3
      go_wp2_with fail
      refine (hF.out _ hrow).mono ?_
      rintro e w1 ⟨rfl, hb1⟩
      have hs1 := hb1.size
      go_wp2_with fail
      refine (hR.out _ (hide (hrow.out.to (by (repeat' (first | (with_reducible exact Below.refl _ _) | (with_reducible assumption) | (with_reducible refine Below.alloc ?_ ?_ _) | (with_reducible refine Below.drew ?_) | (with_reducible refine below_drewN ?_ _) | (with_reducible refine Below.setCell ?_ ?_ _) | (with_reducible refine below_step (by with_reducible assumption) ?_ ?_) | (first | (with_reducible exact Nat.le_refl _) | (with_reducible assumption) | omega | (simp only [World.size_alloc, World.size_setCell, World.size_drew, size_drewN]; omega) | (simp; omega) | (simp; done)))))))).mono ?_
      rintro e w2 ⟨rfl, hb2⟩
      have hs2 := hb2.size
      go_wp2_with fail
      refine (hF2.out _ (hide (hrow.out.to (by (repeat' (first | (with_reducible exact Below.refl _ _) | (with_reducible assumption) | (with_reducible refine Below.alloc ?_ ?_ _) | (with_reducible refine Below.drew ?_) | (with_reducible refine below_drewN ?_ _) | (with_reducible refine Below.setCell ?_ ?_ _) | (with_reducible refine below_step (by with_reducible assumption) ?_ ?_) | (first | (with_reducible exact Nat.le_refl _) | (with_reducible assumption) | omega | (simp only [World.size_alloc, World.size_setCell, World.size_drew, size_drewN]; omega) | (simp; omega) | (simp; done)))))))).mono ?_
      rintro e w3 ⟨rfl, hb3⟩
      have hs3 := hb3.size
      go_wp2_with fail
      refine (hR2.out _ (hide (hrow.out.to (by (repeat' (first | (with_reducible exact Below.refl _ _) | (with_reducible assumption) | (with_reducible refine Below.alloc ?_ ?_ _) | (with_reducible refine Below.drew ?_) | (with_reducible refine below_drewN ?_ _) | (with_reducible refine Below.setCell ?_ ?_ _) | (with_reducible refine below_step (by with_reducible assumption) ?_ ?_) | (first | (with_reducible exact Nat.le_refl _) | (with_reducible assumption) | omega | (simp only [World.size_alloc, World.size_setCell, World.size_drew, size_drewN]; omega) | (simp; omega) | (simp; done)))))))).mono ?_
      rintro e w4 ⟨rfl, hb4⟩
      have hs4 := hb4.size
      go_wp2_with fail
      refine (awake10_c _).mono ?_
      rintro e w5 ⟨rfl, hb5⟩
      go_wp2
      go_ret
      exact ⟨rfl, (by (repeat' (first | (with_reducible exact Below.refl _ _) | (with_reducible assumption) | (with_reducible refine Below.alloc ?_ ?_ _) | (with_reducible refine Below.drew ?_) | (with_reducible refine below_drewN ?_ _) | (with_reducible refine Below.setCell ?_ ?_ _) | (with_reducible refine below_step (by with_reducible assumption) ?_ ?_) | (first | (with_reducible exact Nat.le_refl _) | (with_reducible assumption) | omega | (simp only [World.size_alloc, World.size_setCell, World.size_drew, size_drewN]; omega) | (simp; omega) | (simp; done)))))⟩
    · have t3 : (n : Int) ≤ 800 := by omega
      clear hb h8
      go_enter Try.func3, Try.ntmps3
      go_wp2_with fail
      refine (hF.out _ hrow).mono ?_
      rintro e w1 ⟨rfl, hb1⟩
      have hs1 := hb1.size
      go_wp2_with fail
      refine (hR.out _ (hide (hrow.out.to (by (repeat' (first | (with_reducible exact Below.refl _ _) | (with_reducible assumption) | (with_reducible refine Below.alloc ?_ ?_ _) | (with_reducible refine Below.drew ?_) | (with_reducible refine below_drewN ?_ _) | (with_reducible refine Below.setCell ?_ ?_ _) | (with_reducible refine below_step (by with_reducible assumption) ?_ ?_) | (first | (with_reducible exact Nat.le_refl _) | (with_reducible assumption) | omega | (simp only [World.size_alloc, World.size_setCell, World.size_drew, size_drewN]; omega) | (simp; omega) | (simp; done)))))))).mono ?_
      rintro e w2 ⟨rfl, hb2⟩
      have hs2 := hb2.size
      go_wp2_with fail
      refine (hF2.out _ (hide (hrow.out.to (by (repeat' (first | (with_reducible exact Below.refl _ _) | (with_reducible assumption) | (with_reducible refine Below.alloc ?_ ?_ _) | (with_reducible refine Below.drew ?_) | (with_reducible refine below_drewN ?_ _) | (with_reducible refine Below.setCell ?_ ?_ _) | (with_reducible refine below_step (by with_reducible assumption) ?_ ?_) | (first | (with_reducible exact Nat.le_refl _) | (with_reducible assumption) | omega | (simp only [World.size_alloc, World.size_setCell, World.size_drew, size_drewN]; omega) | (simp; omega) | (simp; done)))))))).mono ?_
      rintro e w3 ⟨rfl, hb3⟩
      have hs3 := hb3.size
      go_wp2_with fail
      refine (hR2.out _ (hide (hrow.out.to (by (repeat' (first | (with_reducible exact Below.refl _ _) | (with_reducible assumption) | (with_reducible refine Below.alloc ?_ ?_ _) | (with_reducible refine Below.drew ?_) | (with_reducible refine below_drewN ?_ _) | (with_reducible refine Below.setCell ?_ ?_ _) | (with_reducible refine below_step (by with_reducible assumption) ?_ ?_) | (first | (with_reducible exact Nat.le_refl _) | (with_reducible assumption) | omega | (simp only [World.size_alloc, World.size_setCell, World.size_drew, size_drewN]; omega) | (simp; omega) | (simp; done)))))))).mono ?_
      rintro e w4 ⟨rfl, hb4⟩
      have hs4 := hb4.size
      go_wp2_with fail
      refine (awake10_c _).mono ?_
      rintro e w5 ⟨rfl, hb5⟩
      go_wp2
      go_ret
      exact ⟨rfl, (by (repeat' (first | (with_reducible exact Below.refl _ _) | (with_reducible assumption) | (with_reducible refine Below.alloc ?_ ?_ _) | (with_reducible refine Below.drew ?_) | (with_reducible refine below_drewN ?_ _) | (with_reducible refine Below.setCell ?_ ?_ _) | (with_reducible refine below_step (by with_reducible assumption) ?_ ?_) | (first | (with_reducible exact Nat.le_refl _) | (with_reducible assumption) | omega | (simp only [World.size_alloc, World.size_setCell, World.size_drew, size_drewN]; omega) | (simp; omega) | (simp; done)))))⟩
end Go.Proofs.Ytfkfheapikgejaa
