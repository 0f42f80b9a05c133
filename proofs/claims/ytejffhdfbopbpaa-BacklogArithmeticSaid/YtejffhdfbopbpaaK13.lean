/- The statements of chapter 13, walked. -/
import Derived.WalkKit
import Derived.KernelRfl
import Derived.RowKit3
import Derived.Deep.LoopGhost
import Derived.Deep.QuietTactic
import Derived.BigQuiet
import Derived.WideLaws
import Derived.Laws.Rows
import Derived.Below
import Derived.Deep.Draws
import Derived.Outline
import Derived.LoopN
import Derived.Handy
import Derived.Laws.Externs
import Derived.Laws.BitsAllLaws
import Derived.Laws.BitsLemmas
import Derived.Deep.DeepCutAuto
import Derived.Deep.CutBlock
import Derived.Deep.RegionHeld3
import Derived.Test.YtejffhdfbopbpaaK
import Derived.OpenShut
namespace Go.Proofs.Ytejffhdfbopbpaa
open Go.RowKit
set_option linter.unusedVariables false
set_option linter.unusedSimpArgs false
theorem awake13_c (w : World) : Calls Try.prog 13 #[] w fun e w' => e = .returned (.bool true) ∧ w = w' := by
  have h1 : drn 100 7 20 = 0 := by decide
  have h2 : drn 100 7 10 = 30 := by decide
  have h3 : badd 18446744073709551615 5 = 18446744073709551615 := by decide
  go_enter Try.func13, Try.ntmps13
  go_wp2_with (first
    | (go_at_call 9; refine (drn_c (by omega) (by omega) (by omega) (by omega) (by omega) (by omega) _).mono ?_; rintro e w1 ⟨rfl, rfl⟩)
    | (go_at_call 11; refine (exc_c (by omega) (by omega) (by omega) (by omega) (by omega) (by omega) _).mono ?_; rintro e w1 ⟨rfl, rfl⟩)
    | (go_at_call 7; refine (badd_c (by omega) (by omega) (by omega) (by omega) _).mono ?_; rintro e w1 ⟨rfl, rfl⟩))
  go_ret
  exact ⟨rfl, rfl⟩
theorem order_law {b g s t : Int} (hb : 0 ≤ b) (hg : 0 ≤ g) (hs : 0 ≤ s) (ht : 0 ≤ t) : drn (badd b g) s t ≤ badd (drn b s t) g := by
  have := Int.mul_nonneg hs ht
  unfold drn badd
  generalize s * t = m at *
  (repeat' split) <;> omega
theorem BacklogOrder_walk (b g s t : Int) (wb : (Lit.int .u64 b).wf = true) (wg : (Lit.int .u64 g).wf = true) (ws : (Lit.int .u64 s).wf = true) (wt : (Lit.int .u64 t).wf = true) (w : World) :
    Calls Try.prog 6 #[.int .u64 b, .int .u64 g, .int .u64 s, .int .u64 t] w fun e w' => e = .returned (.bool true) ∧ Below w.heap.size w w' := by
  obtain ⟨b0, b1⟩ := bounds_u64 wb
  obtain ⟨g0, g1⟩ := bounds_u64 wg
  obtain ⟨s0, s1⟩ := bounds_u64 ws
  obtain ⟨t0, t1⟩ := bounds_u64 wt
  obtain ⟨x0, x1⟩ := badd_rg b0 g0
  obtain ⟨y0, y1⟩ := drn_rg b0 (by omega) s0 t0
  have hle : decide (drn (badd b g) s t ≤ badd (drn b s t) g) = true := decide_eq_true (order_law b0 g0 s0 t0)
  clear wb wg ws wt
  go_enter Try.func6, Try.ntmps6
  go_wp2_with (first
    | (go_at_call 9; refine (drn_c (by omega) (by omega) (by omega) (by omega) (by omega) (by omega) _).mono ?_; rintro e w1 ⟨rfl, rfl⟩)
    | (go_at_call 7; refine (badd_c (by omega) (by omega) (by omega) (by omega) _).mono ?_; rintro e w1 ⟨rfl, rfl⟩)
    | (go_at_call 13; refine (awake13_c _).mono ?_; rintro e w1 ⟨rfl, rfl⟩))
  go_ret
  exact ⟨rfl, Below.refl _ _⟩
theorem nowrap_law {b g s t : Int} (hb : 0 ≤ b) (hg : 0 ≤ g) (hb' : b < 18446744073709551616) (hg' : g < 18446744073709551616) (hs : 0 ≤ s) (ht : 0 ≤ t) : b ≤ badd b g ∧ g ≤ badd b g ∧ drn b s t ≤ b ∧ ((drn b s t = b) ↔ (b = 0 ∨ s = 0 ∨ t = 0)) := by
  have hm := Int.mul_nonneg hs ht
  have hz : s * t = 0 ↔ s = 0 ∨ t = 0 := Int.mul_eq_zero
  rw [← hz]
  unfold drn badd
  generalize s * t = m at *
  refine ⟨by split <;> omega, by split <;> omega, by split <;> omega, ?_⟩
  split <;> omega
set_option maxHeartbeats 800000 in
theorem BacklogNoWrap_walk (b g s t : Int) (wb : (Lit.int .u64 b).wf = true) (wg : (Lit.int .u64 g).wf = true) (ws : (Lit.int .u64 s).wf = true) (wt : (Lit.int .u64 t).wf = true) (w : World) :
    Calls Try.prog 5 #[.int .u64 b, .int .u64 g, .int .u64 s, .int .u64 t] w fun e w' => e = .returned (.bool true) ∧ Below w.heap.size w w' := by
  obtain ⟨b0, b1⟩ := bounds_u64 wb
  obtain ⟨g0, g1⟩ := bounds_u64 wg
  obtain ⟨s0, s1⟩ := bounds_u64 ws
  obtain ⟨t0, t1⟩ := bounds_u64 wt
  obtain ⟨l1, l2, l3, l4⟩ := nowrap_law b0 g0 (by omega) (by omega) s0 t0
  have e1 : decide (b ≤ badd b g) = true := decide_eq_true l1
  have e2 : decide (g ≤ badd b g) = true := decide_eq_true l2
  have e3 : decide (drn b s t ≤ b) = true := decide_eq_true l3
  clear wb wg ws wt
  by_cases z : b = 0 ∨ s = 0 ∨ t = 0
  · have e4 : (drn b s t == b) = true := by simpa using l4.2 z
    clear l1 l2 l3 l4
    by_cases z1 : b = 0
    · have f1 : (b == 0) = true := by simpa using z1
      clear z z1
      go_enter Try.func5, Try.ntmps5
      go_wp2_with (first
    | (go_at_call 9; refine (drn_c (by omega) (by omega) (by omega) (by omega) (by omega) (by omega) _).mono ?_; rintro e w1 ⟨rfl, rfl⟩)
    | (go_at_call 11; refine (exc_c (by omega) (by omega) (by omega) (by omega) (by omega) (by omega) _).mono ?_; rintro e w1 ⟨rfl, rfl⟩)
    | (go_at_call 7; refine (badd_c (by omega) (by omega) (by omega) (by omega) _).mono ?_; rintro e w1 ⟨rfl, rfl⟩)
    | (go_at_call 13; refine (awake13_c _).mono ?_; rintro e w1 ⟨rfl, rfl⟩))
      go_ret
      exact ⟨rfl, Below.refl _ _⟩
    · have f1 : (b == 0) = false := by simpa using z1
      by_cases z2 : s = 0
      · have f2 : (s == 0) = true := by simpa using z2
        clear z z1 z2
        go_enter Try.func5, Try.ntmps5
        go_wp2_with (first
    | (go_at_call 9; refine (drn_c (by omega) (by omega) (by omega) (by omega) (by omega) (by omega) _).mono ?_; rintro e w1 ⟨rfl, rfl⟩)
    | (go_at_call 11; refine (exc_c (by omega) (by omega) (by omega) (by omega) (by omega) (by omega) _).mono ?_; rintro e w1 ⟨rfl, rfl⟩)
    | (go_at_call 7; refine (badd_c (by omega) (by omega) (by omega) (by omega) _).mono ?_; rintro e w1 ⟨rfl, rfl⟩)
    | (go_at_call 13; refine (awake13_c _).mono ?_; rintro e w1 ⟨rfl, rfl⟩))
        go_ret
        exact ⟨rfl, Below.refl _ _⟩
      · have f2 : (s == 0) = false := by simpa using z2
        have f3 : (t == 0) = true := by
          rcases z with z | z | z
          · exact absurd z z1
          · exact absurd z z2
          · simpa using z
        clear z z1 z2
        go_enter Try.func5, Try.ntmps5
        go_wp2_with (first
    | (go_at_call 9; refine (drn_c (by omega) (by omega) (by omega) (by omega) (by omega) (by omega) _).mono ?_; rintro e w1 ⟨rfl, rfl⟩)
    | (go_at_call 11; refine (exc_c (by omega) (by omega) (by omega) (by omega) (by omega) (by omega) _).mono ?_; rintro e w1 ⟨rfl, rfl⟩)
    | (go_at_call 7; refine (badd_c (by omega) (by omega) (by omega) (by omega) _).mono ?_; rintro e w1 ⟨rfl, rfl⟩)
    | (go_at_call 13; refine (awake13_c _).mono ?_; rintro e w1 ⟨rfl, rfl⟩))
        go_ret
        exact ⟨rfl, Below.refl _ _⟩
  · have e4 : (drn b s t == b) = false := by simpa using fun h => z (l4.1 h)
    have f1 : (b == 0) = false := by simpa using fun h => z (.inl h)
    have f2 : (s == 0) = false := by simpa using fun h => z (.inr (.inl h))
    have f3 : (t == 0) = false := by simpa using fun h => z (.inr (.inr h))
    clear l1 l2 l3 l4 z
    go_enter Try.func5, Try.ntmps5
    go_wp2_with (first
    | (go_at_call 9; refine (drn_c (by omega) (by omega) (by omega) (by omega) (by omega) (by omega) _).mono ?_; rintro e w1 ⟨rfl, rfl⟩)
    | (go_at_call 11; refine (exc_c (by omega) (by omega) (by omega) (by omega) (by omega) (by omega) _).mono ?_; rintro e w1 ⟨rfl, rfl⟩)
    | (go_at_call 7; refine (badd_c (by omega) (by omega) (by omega) (by omega) _).mono ?_; rintro e w1 ⟨rfl, rfl⟩)
    | (go_at_call 13; refine (awake13_c _).mono ?_; rintro e w1 ⟨rfl, rfl⟩))
    go_ret
    exact ⟨rfl, Below.refl _ _⟩
theorem drn_two {x v p q : Int} (hx : 0 ≤ x) (hv : 0 ≤ v) (hp : 0 ≤ p) (hq : 0 ≤ q) : drn (drn x v p) v q = drn x v (p + q) := by
  have h1 := Int.mul_nonneg hv hp
  have h2 := Int.mul_nonneg hv hq
  unfold drn
  rw [Int.mul_add]
  generalize v * p = m at *
  generalize v * q = n at *
  (repeat' split) <;> omega
set_option maxHeartbeats 800000 in
theorem BacklogDrainAdditive_walk (b g s t : Int) (wb : (Lit.int .u64 b).wf = true) (wg : (Lit.int .u64 g).wf = true) (ws : (Lit.int .u64 s).wf = true) (wt : (Lit.int .u64 t).wf = true) (w : World) :
    Calls Try.prog 4 #[.int .u64 b, .int .u64 g, .int .u64 s, .int .u64 t] w fun e w' => e = .returned (.bool true) ∧ Below w.heap.size w w' := by
  obtain ⟨b0, b1⟩ := bounds_u64 wb
  obtain ⟨g0, g1⟩ := bounds_u64 wg
  obtain ⟨s0, s1⟩ := bounds_u64 ws
  obtain ⟨t0, t1⟩ := bounds_u64 wt
  clear wb wg ws wt
  have x0 : 0 ≤ b % 1099511627776 ∧ b % 1099511627776 < 1099511627776 := by omega
  have v0 : 0 ≤ g % 1099511627776 ∧ g % 1099511627776 < 1099511627776 := by omega
  have p0 : 0 ≤ s % 1048576 ∧ s % 1048576 < 1048576 := by omega
  have q0 : 0 ≤ t % 1048576 ∧ t % 1048576 < 1048576 := by omega
  have k1 := drn_two x0.1 v0.1 p0.1 q0.1
  have k2 : badd (b % 1099511627776) (g % 1099511627776) = b % 1099511627776 + g % 1099511627776 := by unfold badd; rw [if_pos (by omega)]
  have k3 : drn (b % 1099511627776 + g % 1099511627776) (g % 1099511627776) 1 = b % 1099511627776 := by unfold drn; rw [Int.mul_one, if_neg (by omega)]; omega
  have k4 : drn (b % 1099511627776) (g % 1099511627776) 0 = b % 1099511627776 := by unfold drn; rw [Int.mul_zero, if_neg (by omega)]; omega
  have y0 := drn_rg (b := b % 1099511627776) (s := g % 1099511627776) (t := s % 1048576) x0.1 (by omega) v0.1 p0.1
  obtain ⟨x0, x1⟩ := x0
  obtain ⟨v0, v1⟩ := v0
  obtain ⟨p0, p1⟩ := p0
  obtain ⟨q0, q1⟩ := q0
  obtain ⟨y0, y1⟩ := y0
  go_enter Try.func4, Try.ntmps4
  go_wp2_with (first
    | (go_at_call 9; refine (drn_c (by omega) (by omega) (by omega) (by omega) (by omega) (by omega) _).mono ?_; rintro e w1 ⟨rfl, rfl⟩)
    | (go_at_call 11; refine (exc_c (by omega) (by omega) (by omega) (by omega) (by omega) (by omega) _).mono ?_; rintro e w1 ⟨rfl, rfl⟩)
    | (go_at_call 7; refine (badd_c (by omega) (by omega) (by omega) (by omega) _).mono ?_; rintro e w1 ⟨rfl, rfl⟩)
    | (go_at_call 13; refine (awake13_c _).mono ?_; rintro e w1 ⟨rfl, rfl⟩))
  go_ret
  exact ⟨rfl, Below.refl _ _⟩
end Go.Proofs.Ytejffhdfbopbpaa
