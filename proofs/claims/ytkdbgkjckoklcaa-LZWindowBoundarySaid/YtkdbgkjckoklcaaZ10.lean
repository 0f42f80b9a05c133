/- Chapter 9: compression against its reference, and the round trip, walked. -/
import Derived.WalkKit
import Derived.KernelRfl
import Derived.RowKit3
import Derived.Deep.LoopGhost
import Derived.Deep.QuietTactic
import Derived.BigQuiet
import Derived.WideLaws
import Derived.Laws.Rows
import Derived.Below
import Derived.Deep.Draws
import Derived.Outline
import Derived.LoopN
import Derived.Handy
import Derived.Laws.Externs
import Derived.Laws.BitsAllLaws
import Derived.Laws.BitsLemmas
import Derived.Deep.DeepCutAuto
import Derived.Deep.CutBlock
import Derived.Deep.RegionHeld3
import Derived.Test.YtkdbgkjckoklcaaZ9
import Derived.Test.YtkdbgkjckoklcaaZ8
namespace Go.Proofs.Ytkdbgkjckoklcaa
open Go.RowKit
set_option linter.unusedVariables false
set_option linter.unusedSimpArgs false
theorem Owns.row {w : World} {B : Nat} {A : Option Addr} {n c : Nat} {o : List UInt8} (h : Owns w B (.slice A n c) o) : BRow w A o := by
  obtain ⟨A', c', e, _, hr⟩ := h.shape
  injection e with e1 e2 e3
  rw [e1]
  exact hr
theorem comp_small {l : List UInt8} (h : l.length ≤ 100000) : (comp l 0 0).length ≤ 200000 := by have := comp_bound l; omega
set_option maxRecDepth 20000 in
set_option maxHeartbeats 4000000 in
theorem LZCompress_walk (ad : Option Addr) (n c : Nat) (l : List UInt8) (hn : n = l.length) (hc : n ≤ c) (hm : c ≤ maxLen) (w : World) (hrow : BRow w ad l) :
    Calls Try.prog 3 #[.slice ad n c] w fun e w' => e = .returned (.bool true) ∧ Below w.heap.size w w' := by
  unfold maxLen at hm
  replace hn := hide hn
  replace hrow := hide hrow
  by_cases hb : 1500 < n
  · have t : (1500 : Int) < (n : Int) := by omega
    go_enter Try.func3, Try.ntmps3
    go_wp2_with fail
    refine (awake9_c _).mono ?_
    rintro e w1 ⟨rfl, hb1⟩
    go_wp2
    go_ret
    exact ⟨rfl, (by (repeat' (first | (with_reducible exact Below.refl _ _) | (with_reducible assumption) | (with_reducible refine Below.alloc ?_ ?_ _) | (with_reducible refine Below.drew ?_) | (with_reducible refine below_drewN ?_ _) | (with_reducible refine Below.setCell ?_ ?_ _) | (with_reducible refine below_step (by with_reducible assumption) ?_ ?_) | (first | (with_reducible exact Nat.le_refl _) | (with_reducible assumption) | omega | (simp only [World.size_alloc, World.size_setCell, World.size_drew, size_drewN]; omega) | (simp; omega) | (simp; done)))))⟩
  · have t : (n : Int) ≤ 1500 := by omega
    go_enter Try.func3, Try.ntmps3
    go_wp2_with fail
    refine (comp_c ad n c hn hc (by omega) _ hrow).mono ?_
    rintro e w1 ⟨v1, rfl, HO1, hb1⟩
    obtain ⟨A1, c1, rfl, hc1, hr1⟩ := HO1.out.shape
    obtain ⟨q, hq⟩ : ∃ q, (comp l 0 0).length = q := ⟨_, rfl⟩
    rw [hq] at hc1 ⊢
    replace hq := hide hq.symm
    replace hr1 := hide hr1
    have hs1 := hb1.size
    clear HO1
    go_wp2_with fail
    refine (rcomp_c ad n c hn hc (by omega) _ (hide (hrow.out.to (by (repeat' (first | (with_reducible exact Below.refl _ _) | (with_reducible assumption) | (with_reducible refine Below.alloc ?_ ?_ _) | (with_reducible refine Below.drew ?_) | (with_reducible refine below_drewN ?_ _) | (with_reducible refine Below.setCell ?_ ?_ _) | (with_reducible refine below_step (by with_reducible assumption) ?_ ?_) | (first | (with_reducible exact Nat.le_refl _) | (with_reducible assumption) | omega | (simp only [World.size_alloc, World.size_setCell, World.size_drew, size_drewN]; omega) | (simp; omega) | (simp; done)))))))).mono ?_
    rintro e w2 ⟨v2, rfl, HO2, hb2⟩
    obtain ⟨A2, c2, rfl, hc2, hr2⟩ := HO2.out.shape
    rw [← hq.out] at hc2 ⊢
    replace hr2 := hide hr2
    have hs2 := hb2.size
    clear HO2
    go_wp2_with fail
    refine (eqb_c A1 q c1 A2 q c2 hq hq _ (hide (hr1.out.to (by (repeat' (first | (with_reducible exact Below.refl _ _) | (with_reducible assumption) | (with_reducible refine Below.alloc ?_ ?_ _) | (with_reducible refine Below.drew ?_) | (with_reducible refine below_drewN ?_ _) | (with_reducible refine Below.setCell ?_ ?_ _) | (with_reducible refine below_step (by with_reducible assumption) ?_ ?_) | (first | (with_reducible exact Nat.le_refl _) | (with_reducible assumption) | omega | (simp only [World.size_alloc, World.size_setCell, World.size_drew, size_drewN]; omega) | (simp; omega) | (simp; done))))))) (hide (hr2.out.to (by (repeat' (first | (with_reducible exact Below.refl _ _) | (with_reducible assumption) | (with_reducible refine Below.alloc ?_ ?_ _) | (with_reducible refine Below.drew ?_) | (with_reducible refine below_drewN ?_ _) | (with_reducible refine Below.setCell ?_ ?_ _) | (with_reducible refine below_step (by with_reducible assumption) ?_ ?_) | (first | (with_reducible exact Nat.le_refl _) | (with_reducible assumption) | omega | (simp only [World.size_alloc, World.size_setCell, World.size_drew, size_drewN]; omega) | (simp; omega) | (simp; done)))))))).mono ?_
    rintro e w3 ⟨rfl, rfl⟩
    go_wp2_with fail
    refine (awake9_c _).mono ?_
    rintro e w4 ⟨rfl, hb4⟩
    go_wp2
    go_ret
    exact ⟨rfl, (by (repeat' (first | (with_reducible exact Below.refl _ _) | (with_reducible assumption) | (with_reducible refine Below.alloc ?_ ?_ _) | (with_reducible refine Below.drew ?_) | (with_reducible refine below_drewN ?_ _) | (with_reducible refine Below.setCell ?_ ?_ _) | (with_reducible refine below_step (by with_reducible assumption) ?_ ?_) | (first | (with_reducible exact Nat.le_refl _) | (with_reducible assumption) | omega | (simp only [World.size_alloc, World.size_setCell, World.size_drew, size_drewN]; omega) | (simp; omega) | (simp; done)))))⟩
set_option maxRecDepth 20000 in
set_option maxHeartbeats 4000000 in
theorem LZRoundTrip_walk (ad : Option Addr) (n c : Nat) (l : List UInt8) (hn : n = l.length) (hc : n ≤ c) (hm : c ≤ maxLen) (w : World) (hrow : BRow w ad l) :
    Calls Try.prog 6 #[.slice ad n c] w fun e w' => e = .returned (.bool true) ∧ Below w.heap.size w w' := by
  unfold maxLen at hm
  replace hn := hide hn
  replace hrow := hide hrow
  by_cases hb : 1500 < n
  · have t : (1500 : Int) < (n : Int) := by omega
    go_enter Try.func6, Try.ntmps6
    go_wp2_with fail
    refine (awake9_c _).mono ?_
    rintro e w1 ⟨rfl, hb1⟩
    go_wp2
    go_ret
    exact ⟨rfl, (by (repeat' (first | (with_reducible exact Below.refl _ _) | (with_reducible assumption) | (with_reducible refine Below.alloc ?_ ?_ _) | (with_reducible refine Below.drew ?_) | (with_reducible refine below_drewN ?_ _) | (with_reducible refine Below.setCell ?_ ?_ _) | (with_reducible refine below_step (by with_reducible assumption) ?_ ?_) | (first | (with_reducible exact Nat.le_refl _) | (with_reducible assumption) | omega | (simp only [World.size_alloc, World.size_setCell, World.size_drew, size_drewN]; omega) | (simp; omega) | (simp; done)))))⟩
  · have t : (n : Int) ≤ 1500 := by omega
    go_enter Try.func6, Try.ntmps6
    go_wp2_with fail
    refine (comp_c ad n c hn hc (by omega) _ hrow).mono ?_
    rintro e w1 ⟨v1, rfl, HO1, hb1⟩
    obtain ⟨A1, c1, rfl, hc1, hr1⟩ := HO1.out.shape
    obtain ⟨q, hq⟩ : ∃ q, (comp l 0 0).length = q := ⟨_, rfl⟩
    have hqb : (q : Int) ≤ (n : Int) + ((n : Int) + 126) / 127 := by have := comp_bound l; have := hn.out; omega
    have hqn : q ≤ 400000 := by omega
    rw [hq] at hc1 ⊢
    replace hq := hide hq.symm
    replace hr1 := hide hr1
    have hs1 := hb1.size
    clear HO1
    go_wp2_with fail
    refine (dec_c A1 q c1 hq hc1 hqn _ hr1).mono ?_
    rintro e w2 ⟨v2, rfl, HO2, hb2⟩
    obtain ⟨e1, e2⟩ := trip_out l (by rw [← hn.out]; omega)
    rw [e1] at HO2
    rw [e2]
    clear e1 e2
    obtain ⟨A2, c2, rfl, hc2, hr2⟩ := HO2.out.shape
    rw [← hn.out] at hc2 ⊢
    replace hr2 := hide hr2
    have hs2 := hb2.size
    clear HO2
    go_wp2_with fail
    refine (eqb_c A2 n c2 ad n c hn hn _ (hide (hr2.out.to (by (repeat' (first | (with_reducible exact Below.refl _ _) | (with_reducible assumption) | (with_reducible refine Below.alloc ?_ ?_ _) | (with_reducible refine Below.drew ?_) | (with_reducible refine below_drewN ?_ _) | (with_reducible refine Below.setCell ?_ ?_ _) | (with_reducible refine below_step (by with_reducible assumption) ?_ ?_) | (first | (with_reducible exact Nat.le_refl _) | (with_reducible assumption) | omega | (simp only [World.size_alloc, World.size_setCell, World.size_drew, size_drewN]; omega) | (simp; omega) | (simp; done))))))) (hide (hrow.out.to (by (repeat' (first | (with_reducible exact Below.refl _ _) | (with_reducible assumption) | (with_reducible refine Below.alloc ?_ ?_ _) | (with_reducible refine Below.drew ?_) | (with_reducible refine below_drewN ?_ _) | (with_reducible refine Below.setCell ?_ ?_ _) | (with_reducible refine below_step (by with_reducible assumption) ?_ ?_) | (first | (with_reducible exact Nat.le_refl _) | (with_reducible assumption) | omega | (simp only [World.size_alloc, World.size_setCell, World.size_drew, size_drewN]; omega) | (simp; omega) | (simp; done)))))))).mono ?_
    rintro e w3 ⟨rfl, rfl⟩
    go_wp2_with fail
    refine (awake9_c _).mono ?_
    rintro e w4 ⟨rfl, hb4⟩
    go_wp2
    go_ret
    exact ⟨rfl, (by (repeat' (first | (with_reducible exact Below.refl _ _) | (with_reducible assumption) | (with_reducible refine Below.alloc ?_ ?_ _) | (with_reducible refine Below.drew ?_) | (with_reducible refine below_drewN ?_ _) | (with_reducible refine Below.setCell ?_ ?_ _) | (with_reducible refine below_step (by with_reducible assumption) ?_ ?_) | (first | (with_reducible exact Nat.le_refl _) | (with_reducible assumption) | omega | (simp only [World.size_alloc, World.size_setCell, World.size_drew, size_drewN]; omega) | (simp; omega) | (simp; done)))))⟩
end Go.Proofs.Ytkdbgkjckoklcaa
