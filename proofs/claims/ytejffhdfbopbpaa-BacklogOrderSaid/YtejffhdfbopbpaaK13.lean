/- The statements of chapter 13, walked. -/
import Derived.WalkKit
import Derived.KernelRfl
import Derived.RowKit3
import Derived.Deep.LoopGhost
import Derived.Deep.QuietTactic
import Derived.BigQuiet
import Derived.WideLaws
import Derived.Laws.Rows
import Derived.Below
import Derived.Deep.Draws
import Derived.Outline
import Derived.LoopN
import Derived.Handy
import Derived.Laws.Externs
import Derived.Test.YtejffhdfbopbpaaK
import Derived.OpenShut
namespace Go.Proofs.Ytejffhdfbopbpaa
open Go.RowKit
set_option linter.unusedVariables false
set_option linter.unusedSimpArgs false
theorem awake13_c (w : World) : Calls Try.prog 13 #[] w fun e w' => e = .returned (.bool true) ∧ w = w' := by
  have h1 : drn 100 7 20 = 0 := by decide
  have h2 : drn 100 7 10 = 30 := by decide
  have h3 : badd 18446744073709551615 5 = 18446744073709551615 := by decide
  go_enter Try.func13, Try.ntmps13
  go_wp2_with (first
    | (go_at_call 9; refine (drn_c (by omega) (by omega) (by omega) (by omega) (by omega) (by omega) _).mono ?_; rintro e w1 ⟨rfl, rfl⟩)
    | (go_at_call 11; refine (exc_c (by omega) (by omega) (by omega) (by omega) (by omega) (by omega) _).mono ?_; rintro e w1 ⟨rfl, rfl⟩)
    | (go_at_call 7; refine (badd_c (by omega) (by omega) (by omega) (by omega) _).mono ?_; rintro e w1 ⟨rfl, rfl⟩))
  go_ret
  exact ⟨rfl, rfl⟩
theorem order_law {b g s t : Int} (hb : 0 ≤ b) (hg : 0 ≤ g) (hs : 0 ≤ s) (ht : 0 ≤ t) : drn (badd b g) s t ≤ badd (drn b s t) g := by
  have := Int.mul_nonneg hs ht
  unfold drn badd
  generalize s * t = m at *
  (repeat' split) <;> omega
theorem BacklogOrder_walk (b g s t : Int) (wb : (Lit.int .u64 b).wf = true) (wg : (Lit.int .u64 g).wf = true) (ws : (Lit.int .u64 s).wf = true) (wt : (Lit.int .u64 t).wf = true) (w : World) :
    Calls Try.prog 6 #[.int .u64 b, .int .u64 g, .int .u64 s, .int .u64 t] w fun e w' => e = .returned (.bool true) ∧ Below w.heap.size w w' := by
  obtain ⟨b0, b1⟩ := bounds_u64 wb
  obtain ⟨g0, g1⟩ := bounds_u64 wg
  obtain ⟨s0, s1⟩ := bounds_u64 ws
  obtain ⟨t0, t1⟩ := bounds_u64 wt
  obtain ⟨x0, x1⟩ := badd_rg b0 g0
  obtain ⟨y0, y1⟩ := drn_rg b0 (by omega) s0 t0
  have hle : decide (drn (badd b g) s t ≤ badd (drn b s t) g) = true := decide_eq_true (order_law b0 g0 s0 t0)
  clear wb wg ws wt
  go_enter Try.func6, Try.ntmps6
  go_wp2_with (first
    | (go_at_call 9; refine (drn_c (by omega) (by omega) (by omega) (by omega) (by omega) (by omega) _).mono ?_; rintro e w1 ⟨rfl, rfl⟩)
    | (go_at_call 7; refine (badd_c (by omega) (by omega) (by omega) (by omega) _).mono ?_; rintro e w1 ⟨rfl, rfl⟩)
    | (go_at_call 13; refine (awake13_c _).mono ?_; rintro e w1 ⟨rfl, rfl⟩))
  go_ret
  exact ⟨rfl, Below.refl _ _⟩
end Go.Proofs.Ytejffhdfbopbpaa
