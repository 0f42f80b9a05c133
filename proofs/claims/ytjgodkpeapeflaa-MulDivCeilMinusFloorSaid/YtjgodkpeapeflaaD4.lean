/- Chapter 2: the plain laws, and the leaves. -/
import Derived.WalkKit
import Derived.KernelRfl
import Derived.RowKit3
import Derived.Deep.LoopGhost
import Derived.Deep.QuietTactic
import Derived.BigQuiet
import Derived.WideLaws
import Derived.Laws.Rows
import Derived.Below
import Derived.Deep.Draws
import Derived.Outline
import Derived.LoopN
import Derived.Handy
import Derived.Laws.Externs
import Derived.Laws.BitsAllLaws
import Derived.Laws.BitsLemmas
import Derived.Deep.DeepCutAuto
import Derived.Deep.CutBlock
import Derived.Deep.RegionHeld3
import Derived.Test.YtjgodkpeapeflaaD6
import Derived.Test.YtjgodkpeapeflaaD8
import Derived.Test.YtjgodkpeapeflaaO
namespace Go.Proofs.Ytjgodkpeapeflaa
open Go.RowKit
set_option linter.unusedVariables false
set_option linter.unusedSimpArgs false
theorem lohi (A B : Nat) : loV A B + M256 * hiV A B = A * B := by unfold loV hiV; exact Nat.mod_add_div _ _
theorem hi_lt {A B C : Nat} : hiV A B < C ↔ A * B < M256 * C := by unfold hiV; rw [Nat.div_lt_iff_lt_mul (by decide), Nat.mul_comm C]
theorem mdE_eq {A B C : Nat} (hC : C ≠ 0) : mdE A B C = if A * B < M256 * C then 0 else 4 := by
  rw [mdE, divE, if_neg hC]
  by_cases h : A * B < M256 * C
  · rw [if_pos h, if_pos (hi_lt.mpr h)]
  · rw [if_neg h, if_neg (fun h' => h (hi_lt.mp h'))]
theorem mdV_eq {A B C : Nat} (h : A * B < M256 * C) : mdV A B C = A * B / C := by rw [mdV, divQ, if_pos (hi_lt.mpr h), lohi]
theorem mdV_no {A B C : Nat} (h : ¬ A * B < M256 * C) : mdV A B C = 0 := by rw [mdV, divQ, if_neg (fun h' => h (hi_lt.mp h'))]
theorem mdR_eq {A B C : Nat} (h : A * B < M256 * C) : mdR A B C = A * B % C := by rw [mdR, divR, if_pos (hi_lt.mpr h), lohi]
theorem mdR_no {A B C : Nat} (h : ¬ A * B < M256 * C) : mdR A B C = 0 := by rw [mdR, divR, if_neg (fun h' => h (hi_lt.mp h'))]
theorem mdE_zero {A B C : Nat} : mdE A B C = 0 ↔ A * B < M256 * C := by
  by_cases hC : C = 0
  · subst hC; rw [mdE, divE, if_pos rfl]; omega
  · rw [mdE_eq hC]; split <;> simp_all
theorem md_one {A B : Nat} : mdV A B 1 = mulV A B ∧ mdE A B 1 = mulE A B ∧ mcV A B 1 = mulV A B ∧ mcE A B 1 = mulE A B := by
  have e1 : mdE A B 1 = mulE A B := by rw [mdE_eq (by omega), mulE, Nat.mul_one]
  have e2 : mdV A B 1 = mulV A B := by
    rw [mulV]
    by_cases h : A * B < M256
    · rw [if_pos h, mdV_eq (by omega), Nat.div_one]
    · rw [if_neg h, mdV_no (by omega)]
  have e3 : mdR A B 1 = 0 := by
    by_cases h : A * B < M256
    · rw [mdR_eq (by omega), Nat.mod_one]
    · rw [mdR_no (by omega)]
  refine ⟨e2, e1, ?_, ?_⟩
  · rw [mcV, if_neg (fun h => h.2 e3), e2]
  · rw [mcE, if_neg (fun h => h.2 e3), e1]
theorem md_same {A C : Nat} (hA : A < M256) (hC : C ≠ 0) : mdV A C C = A ∧ mdE A C C = 0 ∧ mcV C A C = A ∧ mcE C A C = 0 := by
  have h : A * C < M256 * C := Nat.mul_lt_mul_of_pos_right hA (by omega)
  have h' : C * A < M256 * C := by rw [Nat.mul_comm C A]; exact h
  have e3 : mdR C A C = 0 := by rw [mdR_eq h', Nat.mul_mod_right]
  refine ⟨?_, mdE_zero.mpr h, ?_, ?_⟩
  · rw [mdV_eq h, Nat.mul_div_cancel _ (by omega)]
  · rw [mcV, if_neg (fun h => h.2 e3), mdV_eq h', Nat.mul_div_cancel_left _ (by omega)]
  · rw [mcE, if_neg (fun h => h.2 e3)]; exact mdE_zero.mpr h'
/-- Quotient times divisor plus remainder. -/
theorem inv_law {A B C Q R : Nat} (hC : C < M256) (h : A * B < M256 * C) (hQ : Q = A * B / C) (hR : R = A * B % C) :
    R < C ∧ (loV Q C + R < M256 → loV Q C + R = loV A B ∧ hiV Q C = hiV A B) ∧
    (¬ loV Q C + R < M256 → hiV Q C + 1 = hiV A B ∧ hiV Q C + 1 < M256 ∧ M256 - 1 - loV Q C < R ∧ R - (M256 - 1 - loV Q C) - 1 = loV A B) := by
  have hC0 : 0 < C := by
    rcases Nat.eq_zero_or_pos C with h0 | h0
    · subst h0; omega
    · exact h0
  have hRC : R < C := by rw [hR]; exact Nat.mod_lt _ hC0
  have e : Q * C + R = A * B := by rw [hQ, hR, Nat.mul_comm]; exact Nat.div_add_mod _ _
  have e1 := lohi Q C
  have e2 := lohi A B
  have b1 := loV_lt Q C
  have b2 := loV_lt A B
  have b3 := hi_lt.mpr h
  generalize loV Q C = x at *
  generalize hiV Q C = y at *
  generalize loV A B = l at *
  generalize hiV A B = k at *
  generalize Q * C = qc at *
  generalize A * B = ab at *
  clear hQ hR
  unfold M256 at *
  refine ⟨hRC, fun hs => ?_, fun hs => ?_⟩ <;> omega
theorem zt_t {A : Nat} (h : A < M256) (hz : A = 0) : (lim A 0 == 0 && (lim A 1 == 0 && (lim A 2 == 0 && lim A 3 == 0))) = true := (zero_test h).trans (by simp [hz])
theorem zt_f {A : Nat} (h : A < M256) (hz : A ≠ 0) : (lim A 0 == 0 && (lim A 1 == 0 && (lim A 2 == 0 && lim A 3 == 0))) = false := (zero_test h).trans (by simp [hz])
theorem md_ex : mdV 7 5 10 = 3 ∧ mdE 7 5 10 = 0 ∧ mcV 7 5 10 = 4 ∧ mcE 7 5 10 = 0 ∧ divE 0 0 = 5 := by decide
theorem one_of {n : Nat} (h : n < 18446744073709551616) : isU n (n : Int) 0 0 0 := by constructor <;> omega
theorem lim_one {n : Nat} (h : n < 18446744073709551616) : lim n 0 = n ∧ lim n 1 = 0 ∧ lim n 2 = 0 ∧ lim n 3 = 0 := by
  obtain ⟨a, b, c, d⟩ := (one_of h).lims
  exact ⟨a.symm, b.symm, c.symm, d.symm⟩
theorem isU_wf {a0 a1 a2 a3 : Int} (h0 : (Lit.int .u64 a0).wf = true) (h1 : (Lit.int .u64 a1).wf = true) (h2 : (Lit.int .u64 a2).wf = true) (h3 : (Lit.int .u64 a3).wf = true) : ∃ A, A < M256 ∧ a0 = lim A 0 ∧ a1 = lim A 1 ∧ a2 = lim A 2 ∧ a3 = lim A 3 := by
  obtain ⟨p0, q0⟩ := bounds_u64 h0
  obtain ⟨p1, q1⟩ := bounds_u64 h1
  obtain ⟨p2, q2⟩ := bounds_u64 h2
  obtain ⟨p3, q3⟩ := bounds_u64 h3
  obtain ⟨A, h⟩ := isU_ex p0 p1 p2 p3 (by omega) (by omega) (by omega) (by omega)
  exact ⟨A, h.lt, h.lims⟩
end Go.Proofs.Ytjgodkpeapeflaa
