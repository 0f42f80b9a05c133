/- Chapter 18: the laws without the reference, walked. -/
import Derived.WalkKit
import Derived.KernelRfl
import Derived.RowKit3
import Derived.Deep.LoopGhost
import Derived.Deep.QuietTactic
import Derived.BigQuiet
import Derived.WideLaws
import Derived.Laws.Rows
import Derived.Below
import Derived.Deep.Draws
import Derived.Outline
import Derived.LoopN
import Derived.Handy
import Derived.Laws.Externs
import Derived.Laws.BitsAllLaws
import Derived.Laws.BitsLemmas
import Derived.Deep.DeepCutAuto
import Derived.Deep.CutBlock
import Derived.Deep.RegionHeld3
import Derived.Test.YtnfglfkojngllaaA1
namespace Go.Proofs.Ytnfglfkojngllaa
open Go.RowKit
set_option linter.unusedVariables false
set_option linter.unusedSimpArgs false
set_option maxHeartbeats 8000000 in
theorem AllocRemainder_walk (a0 a1 a2 a3 : Int) (w0 : (Lit.int .u64 a0).wf = true) (w1 : (Lit.int .u64 a1).wf = true) (w2 : (Lit.int .u64 a2).wf = true) (w3 : (Lit.int .u64 a3).wf = true) (w : World) :
    Calls Try.prog 6 #[.int .u64 a0, .int .u64 a1, .int .u64 a2, .int .u64 a3] w fun e w' => e = .returned (.bool true) ∧ Below w.heap.size w w' := by
  obtain ⟨p0, q0⟩ := bounds_u64 w0
  obtain ⟨p1, q1⟩ := bounds_u64 w1
  obtain ⟨p2, q2⟩ := bounds_u64 w2
  obtain ⟨p3, q3⟩ := bounds_u64 w3
  clear w0 w1 w2 w3
  obtain ⟨L, e1, x1, y1⟩ := tmod_ex (x := a1) (K := 1099511627776) p1 (by omega)
  obtain ⟨A, e2, x2, y2⟩ := tmod_ex (x := a2) (K := 1099511627776) p2 (by omega)
  obtain ⟨B, e3, x3, y3⟩ := tmod_ex (x := a3) (K := 1099511627776) p3 (by omega)
  have f1 : IntKind.u64.wrap (L + A) = L + A := wrap_id (by omega) (by omega)
  have f2 : IntKind.u64.wrap (L + A + B) = L + A + B := wrap_id (by omega) (by omega)
  obtain ⟨U, hU⟩ : ∃ U, L + A = U := ⟨_, rfl⟩
  rw [hU] at f1 f2
  obtain ⟨N, hN⟩ : ∃ N, U + B = N := ⟨_, rfl⟩
  rw [hN] at f2
  obtain ⟨g1, k1⟩ := alV_eq (u := a0) (l := L) (t := U) (n := N) (by omega) (by omega)
  have T : 0 ≤ alV a0 L U N ∧ alV a0 L U N ≤ a0 := by
    rw [k1]
    by_cases h : N = L
    · rw [if_pos h]; omega
    · rw [if_neg h]
      have hp : 0 < N - L := by omega
      refine ⟨Int.ediv_nonneg (Int.mul_nonneg p0 (by omega)) (by omega), ?_⟩
      refine Int.le_trans (div_le_div' (Int.mul_le_mul_of_nonneg_left (show U - L ≤ N - L by omega) p0) hp) ?_
      rw [Int.mul_ediv_cancel _ (by omega)]
      exact Int.le_refl _
  have HA1 := hide (fun w => alloc_c (u := a0) (l := L) (t := U) (n := N) p0 (by omega) (by omega) (by omega) (by omega) (by omega) (by omega) (by omega) w)
  obtain ⟨X, hX⟩ : ∃ X, alV a0 L U N = X := ⟨_, rfl⟩
  rw [hX] at T
  obtain ⟨T1, T2⟩ := T
  have T3 : decide (X > a0) = false := by simp; omega
  have T3' : decide (a0 < X) = false := by simp; omega
  have f3 : IntKind.u64.wrap (a0 - X) = a0 - X := wrap_id (by omega) (by omega)
  obtain ⟨g2, k2⟩ := alV_eq (u := a0 - X) (l := U) (t := N) (n := N) (by omega) (by omega)
  have k3 : alV (a0 - X) U N N = a0 - X := by
    rw [k2]
    split
    · rfl
    · exact Int.mul_ediv_cancel _ (by omega)
  have k4 : X + (a0 - X) = a0 := by omega
  have f4 : IntKind.u64.wrap a0 = a0 := wrap_id (by omega) (by omega)
  have HA2 := hide (fun w => alloc_c (u := a0 - X) (l := U) (t := N) (n := N) (by omega) (by omega) (by omega) (by omega) (by omega) (by omega) (by omega) (by omega) w)
  clear k1 k2 x1 x2 x3 y1 y2 y3 p0 p1 p2 p3 q0 q1 q2 q3 T1
  go_enter Try.func6, Try.ntmps6
  go_wp2_with fail
  refine (HA1.out _).mono ?_
  rintro e w1 ⟨rfl, hb1⟩
  have hs1 := hb1.size
  try simp only [World.size_alloc, World.size_setCell, World.size_drew, size_drewN] at hs1
  go_wp2_with fail
  refine (HA2.out _).mono ?_
  rintro e w2 ⟨rfl, hb2⟩
  have hs2 := hb2.size
  try simp only [World.size_alloc, World.size_setCell, World.size_drew, size_drewN] at hs2
  go_wp2_with fail
  refine (awake18_c _).mono ?_
  rintro e w3 ⟨rfl, hb3⟩
  have hs3 := hb3.size
  try simp only [World.size_alloc, World.size_setCell, World.size_drew, size_drewN] at hs3
  go_wp2
  go_ret
  exact ⟨rfl, (by (repeat' (first | (with_reducible exact Below.refl _ _) | (with_reducible assumption) | (with_reducible refine Below.alloc ?_ ?_ _) | (with_reducible refine Below.drew ?_) | (with_reducible refine below_drewN ?_ _) | (with_reducible refine Below.setCell ?_ ?_ _) | (with_reducible refine below_step (by with_reducible assumption) ?_ ?_) | (first | (with_reducible exact Nat.le_refl _) | (with_reducible assumption) | omega | (simp only [World.size_alloc, World.size_setCell, World.size_drew, size_drewN]; omega) | (simp; omega) | (simp; done)))))⟩
end Go.Proofs.Ytnfglfkojngllaa
