/- Chapter 10: the clamp and the limit, walked. -/
import Derived.WalkKit
import Derived.KernelRfl
import Derived.RowKit3
import Derived.Deep.LoopGhost
import Derived.Deep.QuietTactic
import Derived.BigQuiet
import Derived.WideLaws
import Derived.Laws.Rows
import Derived.Below
import Derived.Deep.Draws
import Derived.Outline
import Derived.LoopN
import Derived.Handy
import Derived.Laws.Externs
import Derived.Laws.BitsAllLaws
import Derived.Laws.BitsLemmas
import Derived.Deep.DeepCutAuto
import Derived.Deep.CutBlock
import Derived.Deep.RegionHeld3
import Derived.Test.YtfkfheapikgejaaY1
import Derived.Test.YtfkfheapikgejaaZ13
import Derived.Test.YtfkfheapikgejaaZ8
import Derived.Laws.OwnMore
namespace Go.Proofs.Ytfkfheapikgejaa
open Go.RowKit
set_option linter.unusedVariables false
set_option linter.unusedSimpArgs false
theorem comp_pos {l : List UInt8} (hs : l.length ≤ 65536) (h : l ≠ []) : 0 < (comp l 0 0).length := by
  rcases Nat.eq_zero_or_pos (comp l 0 0).length with h0 | h0
  · have h1 := (trip_out l hs).1
    rw [List.eq_nil_of_length_eq_zero h0] at h1
    exact absurd h1.symm h
  · exact h0
theorem owns_cap {w : World} {B : Nat} {A : Option Addr} {n c : Nat} {o : List UInt8} (h : Owns w B (.slice A n c) o) : c ≤ 9223372036854775807 := by
  rcases h.2 with ⟨e, _⟩ | ⟨g, cap, cur, e, _, _, _, h7, _⟩
  · injection e with _ _ e3; omega
  · injection e with _ _ e3; unfold maxLen at h7; omega
theorem uV_in {l : List UInt8} {f t : Nat} (h : f ≤ t) (hl : l.length ≤ 4096) : uV l f t = clampV (16 * (comp l 0 0).length) f t ∧ uE l f t = 0 := by
  unfold uV uE
  exact ⟨by rw [if_neg (by omega), if_neg (by omega)], by rw [if_neg (by omega), if_neg (by omega)]⟩
set_option maxRecDepth 20000 in
set_option maxHeartbeats 8000000 in
theorem SizeClamped_walk (ad : Option Addr) (n c : Nat) (fl mo : Int) (hc : n ≤ c) (hm : c ≤ maxLen) (wf : (Lit.int .u64 fl).wf = true) (wt : (Lit.int .u64 mo).wf = true) (w : World) (hrow : NRow w ad n) :
    Calls Try.prog 4 #[.slice ad n c, .int .u64 fl, .int .u64 mo] w fun e w' => e = .returned (.bool true) ∧ Below w.heap.size w w' := by
  obtain ⟨p0, q0⟩ := bounds_u64 wf
  obtain ⟨p1, q1⟩ := bounds_u64 wt
  clear wf wt
  obtain ⟨L, hL⟩ : ∃ L : Nat, fl.tmod 5000 = (L : Int) := ⟨(fl % 5000).toNat, by rw [Int.tmod_eq_emod_of_nonneg p0]; omega⟩
  obtain ⟨M, hM⟩ : ∃ M : Nat, mo.tmod 5000 = (M : Int) := ⟨(mo % 5000).toNat, by rw [Int.tmod_eq_emod_of_nonneg p1]; omega⟩
  have hL5 : L < 5000 := by have := Int.tmod_eq_emod_of_nonneg (b := 5000) p0; omega
  have hM5 : M < 5000 := by have := Int.tmod_eq_emod_of_nonneg (b := 5000) p1; omega
  unfold maxLen at hm
  replace hrow := hide hrow
  by_cases hb : 100 < n
  · have t : (100 : Int) < (n : Int) := by omega
    go_enter Try.func4, Try.ntmps4
    go_wp2_with fail
    refine (awake10_c _).mono ?_
    rintro e w1 ⟨rfl, hb1⟩
    go_wp2
    go_ret
    exact ⟨rfl, (by (repeat' (first | (with_reducible exact Below.refl _ _) | (with_reducible assumption) | (with_reducible refine Below.alloc ?_ ?_ _) | (with_reducible refine Below.drew ?_) | (with_reducible refine below_drewN ?_ _) | (with_reducible refine Below.setCell ?_ ?_ _) | (with_reducible refine below_step (by with_reducible assumption) ?_ ?_) | (first | (with_reducible exact Nat.le_refl _) | (with_reducible assumption) | omega | (simp only [World.size_alloc, World.size_setCell, World.size_drew, size_drewN]; omega) | (simp; omega) | (simp; done)))))⟩
  · have t : (n : Int) ≤ 100 := by omega
    have hn100 : n ≤ 100 := by omega
    clear hb p0 p1 q0 q1
    go_enter Try.func4, Try.ntmps4
    go_wp2_with fail
    refine (rep_c ad n c (by omega) _ hrow).mono ?_
    rintro e w0 ⟨l, v0, rfl, hl, HO0, hb0⟩
    obtain ⟨A0, c0, rfl, hc0, hr0⟩ := HO0.out.shape
    obtain ⟨p, hp⟩ : ∃ p, l.length = p := ⟨_, rfl⟩
    rw [hp] at hc0 hl ⊢
    obtain ⟨T, hT⟩ : ∃ T : Nat, (L : Int) + (M : Int) = (T : Int) := ⟨L + M, by omega⟩
    have hLT : L ≤ T := by omega
    obtain ⟨u1, u2⟩ := uV_in (l := l) hLT (by omega)
    obtain ⟨u3, u4⟩ := uV_in (l := l) (f := 0) (t := 1099511627776) (by omega) (by omega)
    obtain ⟨al, hal⟩ : ∃ al, 16 * (comp l 0 0).length = al := ⟨_, rfl⟩
    have hal2 : al ≤ 100000 := by have := comp_bound l; omega
    have u5 : clampV al 0 1099511627776 = al := by unfold clampV; omega
    rw [hal] at u1 u3
    rw [u5] at u3
    have hcm := owns_cap HO0.out
    have hF1 := fun w (hr : Hid (BRow w A0 l)) => units_c A0 p c0 L T (hide hp.symm) hc0 hcm (by omega) (by omega) w hr
    have hF2 := fun w (hr : Hid (BRow w A0 l)) => units_c A0 p c0 0 1099511627776 (hide hp.symm) hc0 hcm (by omega) (by omega) w hr
    rw [u1, u2] at hF1
    rw [u3, u4] at hF2
    have HC := hide (fun w (hr : Hid (BRow w A0 l)) => comp_c A0 p c0 (hide hp.symm) hc0 (by omega) w hr)
    replace hF1 := hide hF1
    replace hF2 := hide hF2
    replace hr0 := hide hr0
    have hs0 := hb0.size
    obtain ⟨q, hq⟩ : ∃ q, (comp l 0 0).length = q := ⟨_, rfl⟩
    have hq16 : 16 * (q : Int) = (al : Int) := by omega
    replace hq := hide hq
    obtain ⟨V, hV⟩ : ∃ V, clampV al L T = V := ⟨_, rfl⟩
    rw [hV] at hF1
    have hVc := clampV_eq (m := al) hLT
    rw [hV] at hVc
    replace hVc := hide hVc
    clear HO0 hp hal hcm u1 u2 u3 u4 u5 hV
    go_wp2_with fail
    refine (hF1.out _ hr0).mono ?_
    rintro e w1 ⟨rfl, hb1⟩
    have hs1 := hb1.size
    go_wp2_with fail
    refine (hF2.out _ (hide (hr0.out.to (by (repeat' (first | (with_reducible exact Below.refl _ _) | (with_reducible assumption) | (with_reducible refine Below.alloc ?_ ?_ _) | (with_reducible refine Below.drew ?_) | (with_reducible refine below_drewN ?_ _) | (with_reducible refine Below.setCell ?_ ?_ _) | (with_reducible refine below_step (by with_reducible assumption) ?_ ?_) | (first | (with_reducible exact Nat.le_refl _) | (with_reducible assumption) | omega | (simp only [World.size_alloc, World.size_setCell, World.size_drew, size_drewN]; omega) | (simp; omega) | (simp; done)))))))).mono ?_
    rintro e w2 ⟨rfl, hb2⟩
    have hs2 := hb2.size
    have hcases := hVc.out
    have hcs : (al < L ∧ V = L) ∨ (T < al ∧ L ≤ al ∧ V = T) ∨ (L ≤ al ∧ al ≤ T ∧ V = al) := by
      by_cases c1 : al < L
      · rw [if_pos c1] at hcases; exact .inl ⟨c1, hcases⟩
      · rw [if_neg c1] at hcases
        by_cases c2 : T < al
        · rw [if_pos c2] at hcases; exact .inr (.inl ⟨c2, by omega, hcases⟩)
        · rw [if_neg c2] at hcases; exact .inr (.inr ⟨by omega, by omega, hcases⟩)
    clear hcases hVc
    rcases hcs with ⟨c1, rfl⟩ | ⟨c1, c2, rfl⟩ | ⟨c1, c2, rfl⟩
    · have t1 : (al : Int) < (V : Int) := by omega
      have t2 : (V : Int) ≤ (T : Int) := by omega
      have t3 : (((V : Nat) : Int) == ((al : Nat) : Int)) = false := beq_eq_false_iff_ne.2 (by omega)
      clear c1
      go_wp2_with fail
      refine (HC.out _ (hide (hr0.out.to (by (repeat' (first | (with_reducible exact Below.refl _ _) | (with_reducible assumption) | (with_reducible refine Below.alloc ?_ ?_ _) | (with_reducible refine Below.drew ?_) | (with_reducible refine below_drewN ?_ _) | (with_reducible refine Below.setCell ?_ ?_ _) | (with_reducible refine below_step (by with_reducible assumption) ?_ ?_) | (first | (with_reducible exact Nat.le_refl _) | (with_reducible assumption) | omega | (simp only [World.size_alloc, World.size_setCell, World.size_drew, size_drewN]; omega) | (simp; omega) | (simp; done)))))))).mono ?_
      rintro e w3 ⟨v3, rfl, HO3, hb3⟩
      have hs3 := hb3.size
      obtain ⟨A3, c3, rfl, hc3, hr3⟩ := HO3.out.shape
      rw [hq.out]
      clear HO3 hr3 hc3
      go_wp2_with fail
      refine (awake10_c _).mono ?_
      rintro e w4 ⟨rfl, hb4⟩
      go_wp2
      go_ret
      exact ⟨rfl, (by (repeat' (first | (with_reducible exact Below.refl _ _) | (with_reducible assumption) | (with_reducible refine Below.alloc ?_ ?_ _) | (with_reducible refine Below.drew ?_) | (with_reducible refine below_drewN ?_ _) | (with_reducible refine Below.setCell ?_ ?_ _) | (with_reducible refine below_step (by with_reducible assumption) ?_ ?_) | (first | (with_reducible exact Nat.le_refl _) | (with_reducible assumption) | omega | (simp only [World.size_alloc, World.size_setCell, World.size_drew, size_drewN]; omega) | (simp; omega) | (simp; done)))))⟩
    · have t1 : (V : Int) < (al : Int) := by omega
      have t2 : (L : Int) ≤ (V : Int) := by omega
      have t3 : (((V : Nat) : Int) == ((al : Nat) : Int)) = false := beq_eq_false_iff_ne.2 (by omega)
      have t5 : (L : Int) ≤ (al : Int) := by omega
      by_cases hLV : V = L
      · have t6 : (((V : Nat) : Int) == ((L : Nat) : Int)) = true := beq_iff_eq.2 (by omega)
        clear c1 c2 hLV
        go_wp2_with fail
        refine (HC.out _ (hide (hr0.out.to (by (repeat' (first | (with_reducible exact Below.refl _ _) | (with_reducible assumption) | (with_reducible refine Below.alloc ?_ ?_ _) | (with_reducible refine Below.drew ?_) | (with_reducible refine below_drewN ?_ _) | (with_reducible refine Below.setCell ?_ ?_ _) | (with_reducible refine below_step (by with_reducible assumption) ?_ ?_) | (first | (with_reducible exact Nat.le_refl _) | (with_reducible assumption) | omega | (simp only [World.size_alloc, World.size_setCell, World.size_drew, size_drewN]; omega) | (simp; omega) | (simp; done)))))))).mono ?_
        rintro e w3 ⟨v3, rfl, HO3, hb3⟩
        have hs3 := hb3.size
        obtain ⟨A3, c3, rfl, hc3, hr3⟩ := HO3.out.shape
        rw [hq.out]
        clear HO3 hr3 hc3
        go_wp2_with fail
        refine (awake10_c _).mono ?_
        rintro e w4 ⟨rfl, hb4⟩
        go_wp2
        go_ret
        exact ⟨rfl, (by (repeat' (first | (with_reducible exact Below.refl _ _) | (with_reducible assumption) | (with_reducible refine Below.alloc ?_ ?_ _) | (with_reducible refine Below.drew ?_) | (with_reducible refine below_drewN ?_ _) | (with_reducible refine Below.setCell ?_ ?_ _) | (with_reducible refine below_step (by with_reducible assumption) ?_ ?_) | (first | (with_reducible exact Nat.le_refl _) | (with_reducible assumption) | omega | (simp only [World.size_alloc, World.size_setCell, World.size_drew, size_drewN]; omega) | (simp; omega) | (simp; done)))))⟩
      · have t6 : (((V : Nat) : Int) == ((L : Nat) : Int)) = false := beq_eq_false_iff_ne.2 (by omega)
        clear c1 c2 hLV
        go_wp2_with fail
        refine (HC.out _ (hide (hr0.out.to (by (repeat' (first | (with_reducible exact Below.refl _ _) | (with_reducible assumption) | (with_reducible refine Below.alloc ?_ ?_ _) | (with_reducible refine Below.drew ?_) | (with_reducible refine below_drewN ?_ _) | (with_reducible refine Below.setCell ?_ ?_ _) | (with_reducible refine below_step (by with_reducible assumption) ?_ ?_) | (first | (with_reducible exact Nat.le_refl _) | (with_reducible assumption) | omega | (simp only [World.size_alloc, World.size_setCell, World.size_drew, size_drewN]; omega) | (simp; omega) | (simp; done)))))))).mono ?_
        rintro e w3 ⟨v3, rfl, HO3, hb3⟩
        have hs3 := hb3.size
        obtain ⟨A3, c3, rfl, hc3, hr3⟩ := HO3.out.shape
        rw [hq.out]
        clear HO3 hr3 hc3
        go_wp2_with fail
        refine (awake10_c _).mono ?_
        rintro e w4 ⟨rfl, hb4⟩
        go_wp2
        go_ret
        exact ⟨rfl, (by (repeat' (first | (with_reducible exact Below.refl _ _) | (with_reducible assumption) | (with_reducible refine Below.alloc ?_ ?_ _) | (with_reducible refine Below.drew ?_) | (with_reducible refine below_drewN ?_ _) | (with_reducible refine Below.setCell ?_ ?_ _) | (with_reducible refine below_step (by with_reducible assumption) ?_ ?_) | (first | (with_reducible exact Nat.le_refl _) | (with_reducible assumption) | omega | (simp only [World.size_alloc, World.size_setCell, World.size_drew, size_drewN]; omega) | (simp; omega) | (simp; done)))))⟩
    · have t1 : (L : Int) ≤ (V : Int) := by omega
      have t2 : (V : Int) ≤ (T : Int) := by omega
      clear c1 c2
      go_wp2_with fail
      refine (HC.out _ (hide (hr0.out.to (by (repeat' (first | (with_reducible exact Below.refl _ _) | (with_reducible assumption) | (with_reducible refine Below.alloc ?_ ?_ _) | (with_reducible refine Below.drew ?_) | (with_reducible refine below_drewN ?_ _) | (with_reducible refine Below.setCell ?_ ?_ _) | (with_reducible refine below_step (by with_reducible assumption) ?_ ?_) | (first | (with_reducible exact Nat.le_refl _) | (with_reducible assumption) | omega | (simp only [World.size_alloc, World.size_setCell, World.size_drew, size_drewN]; omega) | (simp; omega) | (simp; done)))))))).mono ?_
      rintro e w3 ⟨v3, rfl, HO3, hb3⟩
      have hs3 := hb3.size
      obtain ⟨A3, c3, rfl, hc3, hr3⟩ := HO3.out.shape
      rw [hq.out]
      clear HO3 hr3 hc3
      go_wp2_with fail
      refine (awake10_c _).mono ?_
      rintro e w4 ⟨rfl, hb4⟩
      go_wp2
      go_ret
      exact ⟨rfl, (by (repeat' (first | (with_reducible exact Below.refl _ _) | (with_reducible assumption) | (with_reducible refine Below.alloc ?_ ?_ _) | (with_reducible refine Below.drew ?_) | (with_reducible refine below_drewN ?_ _) | (with_reducible refine Below.setCell ?_ ?_ _) | (with_reducible refine below_step (by with_reducible assumption) ?_ ?_) | (first | (with_reducible exact Nat.le_refl _) | (with_reducible assumption) | omega | (simp only [World.size_alloc, World.size_setCell, World.size_drew, size_drewN]; omega) | (simp; omega) | (simp; done)))))⟩
end Go.Proofs.Ytfkfheapikgejaa
