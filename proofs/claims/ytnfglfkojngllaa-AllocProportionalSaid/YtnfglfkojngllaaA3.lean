/- Chapter 18: the laws without the reference, walked. -/
import Derived.WalkKit
import Derived.KernelRfl
import Derived.RowKit3
import Derived.Deep.LoopGhost
import Derived.Deep.QuietTactic
import Derived.BigQuiet
import Derived.WideLaws
import Derived.Laws.Rows
import Derived.Below
import Derived.Deep.Draws
import Derived.Outline
import Derived.LoopN
import Derived.Handy
import Derived.Laws.Externs
import Derived.Laws.BitsAllLaws
import Derived.Laws.BitsLemmas
import Derived.Deep.DeepCutAuto
import Derived.Deep.CutBlock
import Derived.Deep.RegionHeld3
import Derived.Test.YtnfglfkojngllaaA1
namespace Go.Proofs.Ytnfglfkojngllaa
open Go.RowKit
set_option linter.unusedVariables false
set_option linter.unusedSimpArgs false
set_option maxHeartbeats 8000000 in
theorem AllocProportional_walk (a0 a1 a2 a3 : Int) (w0 : (Lit.int .u64 a0).wf = true) (w1 : (Lit.int .u64 a1).wf = true) (w2 : (Lit.int .u64 a2).wf = true) (w3 : (Lit.int .u64 a3).wf = true) (w : World) :
    Calls Try.prog 5 #[.int .u64 a0, .int .u64 a1, .int .u64 a2, .int .u64 a3] w fun e w' => e = .returned (.bool true) ∧ Below w.heap.size w w' := by
  obtain ⟨p0, q0⟩ := bounds_u64 w0
  obtain ⟨p1, q1⟩ := bounds_u64 w1
  obtain ⟨p2, q2⟩ := bounds_u64 w2
  obtain ⟨p3, q3⟩ := bounds_u64 w3
  clear w0 w1 w2 w3
  obtain ⟨P, e1, x1, y1⟩ := tmod_ex (x := a1) (K := 1000) p1 (by omega)
  have f1 : IntKind.u64.wrap (1 + P) = 1 + P := wrap_id (by omega) (by omega)
  obtain ⟨N, hN⟩ : ∃ N, 1 + P = N := ⟨_, rfl⟩
  rw [hN] at f1
  have f2 : IntKind.u64.wrap (N + 1) = N + 1 := wrap_id (by omega) (by omega)
  obtain ⟨I, e2, x2, y2⟩ := tmod_ex (x := a2) (K := N + 1) p2 (by omega)
  obtain ⟨U, e3, x3, y3⟩ := tmod_ex (x := a0) (K := 1125899906842624) p0 (by omega)
  obtain ⟨Q, e4, x4, y4⟩ := tmod_ex (x := a3) (K := 1000) p3 (by omega)
  have f3 : IntKind.u64.wrap (1 + Q) = 1 + Q := wrap_id (by omega) (by omega)
  obtain ⟨S, hS⟩ : ∃ S, 1 + Q = S := ⟨_, rfl⟩
  rw [hS] at f3
  have hIS : 0 ≤ I * S ∧ I * S ≤ 1000 * 1000 := ⟨Int.mul_nonneg x2 (by omega), Int.mul_le_mul (by omega) (by omega) (by omega) (by omega)⟩
  have hNS : 0 < N * S ∧ N * S ≤ 1000 * 1000 := ⟨Int.mul_pos (by omega) (by omega), Int.mul_le_mul (by omega) (by omega) (by omega) (by omega)⟩
  have hIN : I * S ≤ N * S := Int.mul_le_mul_of_nonneg_right (by omega) (by omega)
  have hUI : 0 ≤ U * I ∧ U * I ≤ 1125899906842624 * 1000 := ⟨Int.mul_nonneg x3 x2, Int.mul_le_mul (by omega) (by omega) (by omega) (by omega)⟩
  have f4 : IntKind.u64.wrap (I * S) = I * S := wrap_id (by omega) (by omega)
  have f5 : IntKind.u64.wrap (N * S) = N * S := wrap_id (by omega) (by omega)
  have f6 : IntKind.u64.wrap (7 + I * S) = 7 + I * S := wrap_id (by omega) (by omega)
  have f7 : IntKind.u64.wrap (7 + N * S) = 7 + N * S := wrap_id (by omega) (by omega)
  have f8 : IntKind.u64.wrap (U * I) = U * I := wrap_id (by omega) (by omega)
  have f9 : (U * I).tdiv N = U * I / N := Int.tdiv_eq_ediv_of_nonneg hUI.1
  obtain ⟨g1, k1⟩ := alV_eq (u := U) (l := 7) (t := 7 + I * S) (n := 7 + N * S) (by omega) (by omega)
  rw [if_neg (by omega), show (7 : Int) + I * S - 7 = I * S by omega, show (7 : Int) + N * S - 7 = N * S by omega, ← Int.mul_assoc, Int.mul_ediv_mul_of_pos_left _ _ (by omega)] at k1
  have hn : (N == 0) = false := by simp; omega
  have hn' : ¬ N = 0 := by omega
  have hn1 : (N + 1 == 0) = false := by simp; omega
  have hn1' : ¬ N + 1 = 0 := by omega
  have hw : IntKind.u64.wrap (U * I / N) = U * I / N := wrap_id (Int.ediv_nonneg hUI.1 (by omega)) (Int.lt_of_le_of_lt (Int.ediv_le_self _ hUI.1) (by omega))
  have HA1 := hide (fun w => alloc_c (u := U) (l := 7) (t := 7 + I * S) (n := 7 + N * S) x3 (by omega) (by omega) (by omega) (by omega) (by omega) (by omega) (by omega) w)
  clear p0 p1 p2 p3 q0 q1 q2 q3 x1 y1 x2 y2 x3 y3 x4 y4 hIS hNS hIN hUI
  go_enter Try.func5, Try.ntmps5
  go_wp2_with fail
  refine (HA1.out _).mono ?_
  rintro e w1 ⟨rfl, hb1⟩
  have hs1 := hb1.size
  try simp only [World.size_alloc, World.size_setCell, World.size_drew, size_drewN] at hs1
  go_wp2_with fail
  refine (awake18_c _).mono ?_
  rintro e w2 ⟨rfl, hb2⟩
  have hs2 := hb2.size
  try simp only [World.size_alloc, World.size_setCell, World.size_drew, size_drewN] at hs2
  go_wp2
  go_ret
  exact ⟨rfl, (by (repeat' (first | (with_reducible exact Below.refl _ _) | (with_reducible assumption) | (with_reducible refine Below.alloc ?_ ?_ _) | (with_reducible refine Below.drew ?_) | (with_reducible refine below_drewN ?_ _) | (with_reducible refine Below.setCell ?_ ?_ _) | (with_reducible refine below_step (by with_reducible assumption) ?_ ?_) | (first | (with_reducible exact Nat.le_refl _) | (with_reducible assumption) | omega | (simp only [World.size_alloc, World.size_setCell, World.size_drew, size_drewN]; omega) | (simp; omega) | (simp; done)))))⟩
end Go.Proofs.Ytnfglfkojngllaa
