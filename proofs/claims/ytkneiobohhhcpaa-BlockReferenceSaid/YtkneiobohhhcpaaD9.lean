/- MulDivFloor: plain laws. -/
import Derived.WalkKit
import Derived.KernelRfl
import Derived.RowKit3
import Derived.Deep.LoopGhost
import Derived.Deep.QuietTactic
import Derived.BigQuiet
import Derived.WideLaws
import Derived.Laws.Rows
import Derived.Below
import Derived.Deep.Draws
import Derived.Outline
import Derived.LoopN
import Derived.Handy
import Derived.Laws.Externs
import Derived.Laws.BitsAllLaws
import Derived.Laws.BitsLemmas
import Derived.Deep.DeepCutAuto
import Derived.Deep.CutBlock
import Derived.Deep.RegionHeld3
import Derived.Test.YtkneiobohhhcpaaD7
namespace Go.Proofs.Ytkneiobohhhcpaa
open Go.RowKit
set_option linter.unusedVariables false
set_option linter.unusedSimpArgs false
theorem lohi (A B : Nat) : loV A B + M256 * hiV A B = A * B := by unfold loV hiV; exact Nat.mod_add_div _ _
theorem hi_lt {A B C : Nat} : hiV A B < C ↔ A * B < M256 * C := by unfold hiV; rw [Nat.div_lt_iff_lt_mul (by decide), Nat.mul_comm C]
theorem mdE_eq {A B C : Nat} (hC : C ≠ 0) : mdE A B C = if A * B < M256 * C then 0 else 4 := by
  rw [mdE, divE, if_neg hC]
  by_cases h : A * B < M256 * C
  · rw [if_pos h, if_pos (hi_lt.mpr h)]
  · rw [if_neg h, if_neg (fun h' => h (hi_lt.mp h'))]
theorem mdV_eq {A B C : Nat} (h : A * B < M256 * C) : mdV A B C = A * B / C := by rw [mdV, divQ, if_pos (hi_lt.mpr h), lohi]
theorem mdV_no {A B C : Nat} (h : ¬ A * B < M256 * C) : mdV A B C = 0 := by rw [mdV, divQ, if_neg (fun h' => h (hi_lt.mp h'))]
theorem mdR_eq {A B C : Nat} (h : A * B < M256 * C) : mdR A B C = A * B % C := by rw [mdR, divR, if_pos (hi_lt.mpr h), lohi]
theorem mdR_no {A B C : Nat} (h : ¬ A * B < M256 * C) : mdR A B C = 0 := by rw [mdR, divR, if_neg (fun h' => h (hi_lt.mp h'))]
theorem mdE_zero {A B C : Nat} : mdE A B C = 0 ↔ A * B < M256 * C := by
  by_cases hC : C = 0
  · subst hC; rw [mdE, divE, if_pos rfl]; omega
  · rw [mdE_eq hC]; split <;> simp_all
theorem zt_t {A : Nat} (h : A < M256) (hz : A = 0) : (lim A 0 == 0 && (lim A 1 == 0 && (lim A 2 == 0 && lim A 3 == 0))) = true := (zero_test h).trans (by simp [hz])
theorem zt_f {A : Nat} (h : A < M256) (hz : A ≠ 0) : (lim A 0 == 0 && (lim A 1 == 0 && (lim A 2 == 0 && lim A 3 == 0))) = false := (zero_test h).trans (by simp [hz])
theorem one_of {n : Nat} (h : n < 18446744073709551616) : isU n (n : Int) 0 0 0 := by constructor <;> omega
theorem lim_one {n : Nat} (h : n < 18446744073709551616) : lim n 0 = n ∧ lim n 1 = 0 ∧ lim n 2 = 0 ∧ lim n 3 = 0 := by
  obtain ⟨a, b, c, d⟩ := (one_of h).lims
  exact ⟨a.symm, b.symm, c.symm, d.symm⟩
theorem isU_wf {a0 a1 a2 a3 : Int} (h0 : (Lit.int .u64 a0).wf = true) (h1 : (Lit.int .u64 a1).wf = true) (h2 : (Lit.int .u64 a2).wf = true) (h3 : (Lit.int .u64 a3).wf = true) : ∃ A, A < M256 ∧ a0 = lim A 0 ∧ a1 = lim A 1 ∧ a2 = lim A 2 ∧ a3 = lim A 3 := by
  obtain ⟨p0, q0⟩ := bounds_u64 h0
  obtain ⟨p1, q1⟩ := bounds_u64 h1
  obtain ⟨p2, q2⟩ := bounds_u64 h2
  obtain ⟨p3, q3⟩ := bounds_u64 h3
  obtain ⟨A, h⟩ := isU_ex p0 p1 p2 p3 (by omega) (by omega) (by omega) (by omega)
  exact ⟨A, h.lt, h.lims⟩
end Go.Proofs.Ytkneiobohhhcpaa
