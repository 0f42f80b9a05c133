/- Chapter 5: the examples, Mod, the plain laws. -/
import Derived.WalkKit
import Derived.KernelRfl
import Derived.RowKit3
import Derived.Deep.LoopGhost
import Derived.Deep.QuietTactic
import Derived.BigQuiet
import Derived.WideLaws
import Derived.Laws.Rows
import Derived.Below
import Derived.Deep.Draws
import Derived.Outline
import Derived.LoopN
import Derived.Handy
import Derived.Laws.Externs
import Derived.Laws.BitsAllLaws
import Derived.Laws.BitsLemmas
import Derived.Deep.DeepCutAuto
import Derived.Deep.CutBlock
import Derived.Deep.RegionHeld3
import Derived.Test.YtkneiobohhhcpaaE1
import Derived.Test.YtkneiobohhhcpaaO
namespace Go.Proofs.Ytkneiobohhhcpaa
open Go.RowKit
set_option linter.unusedVariables false
set_option linter.unusedSimpArgs false
def modV (x n : Int) : Int := x % 18446744073709551616 % n
theorem modV_w {x n : Int} (n0 : 0 < n) : 0 ≤ modV x n ∧ modV x n < n := ⟨Int.emod_nonneg _ (by omega), Int.emod_lt_of_pos _ n0⟩
theorem tmod_ex {x K : Int} (h : 0 ≤ x) (hK : 0 < K) : ∃ y, x.tmod K = y ∧ 0 ≤ y ∧ y < K := ⟨_, rfl, Int.tmod_nonneg _ h, Int.tmod_lt_of_pos _ hK⟩
theorem exp_facts {a b m n : Int} (a0 : 0 ≤ a) (ab : a ≤ b) (b1 : b ≤ 200000) (m0 : 1 ≤ m) (mn : m ≤ n) (n1 : n ≤ 20) :
    expE a m = 0 ∧ expE b m = 0 ∧ expE a n = 0 ∧ expE 0 n = 0 ∧ expV 0 n = 10000 ∧ 10000 + a ≤ expV a m ∧ expV a m ≤ expV b m ∧ expV a m ≤ expV a n := by
  have k1 : ¬ (a > 200000 ∨ m < 1 ∨ m > 20) := by omega
  have k2 : ¬ (b > 200000 ∨ m < 1 ∨ m > 20) := by omega
  have k3 : ¬ (a > 200000 ∨ n < 1 ∨ n > 20) := by omega
  have k4 : ¬ ((0 : Int) > 200000 ∨ n < 1 ∨ n > 20) := by omega
  unfold expE expV
  rw [if_neg k1, if_neg k2, if_neg k3, if_neg k4, if_neg k1, if_neg k2, if_neg k3, if_neg k4]
  obtain ⟨M, hM⟩ : ∃ M, m.toNat = M + 1 := ⟨m.toNat - 1, by omega⟩
  obtain ⟨D, hD⟩ : ∃ D, n.toNat = m.toNat + D := ⟨n.toNat - m.toNat, by omega⟩
  refine ⟨rfl, rfl, rfl, rfl, expGo_zero _, ?_, expGo_mono a0 ab _ _ _ (by omega) (Int.le_refl _), ?_⟩
  · rw [hM]; exact expGo_first a0 M _ (Int.le_refl _)
  · rw [hD]; exact expGo_terms a0 _ D _ (Int.le_refl _)
theorem sp_facts {A : Nat} (hA : A < M256) {b : Int} (b0 : 0 ≤ b) (h : b ≤ 10000) : spE b = 0 ∧ spV A b = A * b.toNat / 10000 ∧ spV A b ≤ A ∧ spR A b = A - spV A b := by
  have hn : ¬ b > 10000 := by omega
  have h1 := (sc_ok (A := A) hA h).2
  rw [spE, spV, spR, if_neg hn, if_neg hn, if_neg hn, mdV_eq h1]
  have hle : A * b.toNat / 10000 ≤ A := Nat.div_le_of_le_mul (by rw [Nat.mul_comm 10000]; exact Nat.mul_le_mul_left A (by omega))
  refine ⟨rfl, rfl, hle, ?_⟩
  rw [subV, if_neg (by omega)]
theorem sp_mono {A : Nat} {x y : Int} (h : x ≤ y) : A * x.toNat / 10000 ≤ A * y.toNat / 10000 := Nat.div_le_div_right (Nat.mul_le_mul_left A (by omega))
end Go.Proofs.Ytkneiobohhhcpaa
