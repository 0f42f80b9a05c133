/- chapter 14: plain laws; the examples. -/
import Derived.WalkKit
import Derived.KernelRfl
import Derived.RowKit3
import Derived.Deep.LoopGhost
import Derived.Deep.QuietTactic
import Derived.BigQuiet
import Derived.WideLaws
import Derived.Laws.Rows
import Derived.Below
import Derived.Deep.Draws
import Derived.Outline
import Derived.LoopN
import Derived.Handy
import Derived.Laws.Externs
import Derived.Laws.BitsAllLaws
import Derived.Laws.BitsLemmas
import Derived.Deep.DeepCutAuto
import Derived.Deep.CutBlock
import Derived.Deep.RegionHeld3
import Derived.Test.YtkneiobohhhcpaaF2
namespace Go.Proofs.Ytkneiobohhhcpaa
open Go.RowKit
set_option linter.unusedVariables false
set_option linter.unusedSimpArgs false
/-- Parameters within these bounds are valid. -/
theorem valid_of {P : Nat → Int} (hP : PW P) (h0 : 1 ≤ P 0 ∧ P 0 ≤ 1099511627776) (h1 : P 1 ≤ 1048576) (h2 : 1 ≤ P 2 ∧ P 2 ≤ 1048576) (h4 : 1 ≤ P 3 ∧ P 4 = 0 ∧ P 5 = 0 ∧ P 6 = 0) (h5 : 1 ≤ P 7 ∧ P 7 ≤ 1099511627776)
    (h6 : P 9 = 0 ∧ P 10 = 0 ∧ P 11 = 0) (h7 : P 12 ≤ 10000) (h8 : P 14 = 0 ∧ P 15 = 0 ∧ P 16 = 0) (h9 : 1 ≤ P 17 ∧ P 17 ≤ 1099511627776) (h10 : 1 ≤ P 18 ∧ P 18 ≤ 1048576) (h11 : P 19 ≤ 1048576) (h12 : P 19 ≤ P 20 ∧ P 20 ≤ 16777216) : fiV P = 0 := by
  have p := fun j => (hP j)
  have g (k : Int) (h0 : getL P k 1 = 0) (h1 : getL P k 2 = 0) (h2 : getL P k 3 = 0) : (getN P k : Int) = getL P k 0 := val_one (getL_w hP k 0).1 h0 h1 h2
  refine fi_zero.2 fun k k1 k2 => ?_
  unfold okP
  obtain rfl | rfl | rfl | rfl | rfl | rfl | rfl | rfl | rfl | rfl | rfl | rfl : k = 1 ∨ k = 2 ∨ k = 3 ∨ k = 4 ∨ k = 5 ∨ k = 6 ∨ k = 7 ∨ k = 8 ∨ k = 9 ∨ k = 10 ∨ k = 11 ∨ k = 12 := by omega
  · rw [g 1 rfl rfl rfl]; exact h0
  · rw [g 2 rfl rfl rfl]; exact ⟨(p 1).1, h1⟩
  · rw [g 3 rfl rfl rfl]; exact h2
  · rw [g 4 h4.2.1 h4.2.2.1 h4.2.2.2]; exact ⟨h4.1, show P 3 ≤ 18446744073709551615 by have := p 3; omega⟩
  · rw [g 5 rfl rfl rfl]; exact h5
  · rw [g 6 h6.1 h6.2.1 h6.2.2]; exact ⟨(p 8).1, show P 8 ≤ 18446744073709551615 by have := p 8; omega⟩
  · rw [g 7 rfl rfl rfl]; exact ⟨(p 12).1, h7⟩
  · rw [g 8 h8.1 h8.2.1 h8.2.2]; exact ⟨(p 13).1, show P 13 ≤ 18446744073709551615 by have := p 13; omega⟩
  · rw [g 9 rfl rfl rfl]; exact h9
  · rw [g 10 rfl rfl rfl]; exact h10
  · rw [g 11 rfl rfl rfl]; exact ⟨(p 19).1, h11⟩
  · rw [g 12 rfl rfl rfl]; exact h12
theorem pw_rg {x : Int} (c k : Int) (hc : 0 ≤ c) (hk : 0 < k) : 0 ≤ x % 2 ^ (c + x % k).toNat ∧ x % 2 ^ (c + x % k).toNat < 2 ^ (c + k - 1).toNat := by
  have h0 := Int.emod_nonneg x (show k ≠ 0 by omega)
  have h1 := Int.emod_lt_of_pos x hk
  have hp := two_pos (c + x % k).toNat
  have hle : (2 : Int) ^ (c + x % k).toNat ≤ 2 ^ (c + k - 1).toNat := two_lt (by omega)
  have m0 := Int.emod_nonneg x (show (2 : Int) ^ (c + x % k).toNat ≠ 0 by omega)
  have m1 := Int.emod_lt_of_pos x hp
  omega
theorem vp_rg {v : Nat → Int} (hv : ∀ j, 0 ≤ v j ∧ v j < 18446744073709551616) :
    (0 ≤ vpP v 0 ∧ 1 ≤ vpP v 0 ∧ vpP v 0 ≤ 1099511627776) ∧ (0 ≤ vpP v 1 ∧ vpP v 1 < 40) ∧ (1 ≤ vpP v 2 ∧ vpP v 2 ≤ 300) ∧ (1 ≤ vpP v 3 ∧ vpP v 3 ≤ 1152921504606846976) ∧ (1 ≤ vpP v 7 ∧ vpP v 7 ≤ 549755813888) ∧ (0 ≤ vpP v 8 ∧ vpP v 8 < 1152921504606846976) ∧ (0 ≤ vpP v 12 ∧ vpP v 12 ≤ 10000) ∧ (0 ≤ vpP v 13 ∧ vpP v 13 < 5000) ∧ (1 ≤ vpP v 17 ∧ vpP v 17 ≤ 1099511627776) ∧ (1 ≤ vpP v 18 ∧ vpP v 18 ≤ 100) := by
  have a0 := pw_rg (x := v 0) 1 40 (by omega) (by omega)
  have a3 := pw_rg (x := v 3) 1 60 (by omega) (by omega)
  have a4 := pw_rg (x := v 4) 10 30 (by omega) (by omega)
  have a5 := pw_rg (x := v 5) 1 60 (by omega) (by omega)
  have a7 := pw_rg (x := v 7) 1 40 (by omega) (by omega)
  have e40 : (2 : Int) ^ ((1 : Int) + 40 - 1).toNat = 1099511627776 := by decide
  have e60 : (2 : Int) ^ ((1 : Int) + 60 - 1).toNat = 1152921504606846976 := by decide
  have e39 : (2 : Int) ^ ((10 : Int) + 30 - 1).toNat = 549755813888 := by decide
  rw [e40] at a0 a7
  rw [e60] at a3 a5
  rw [e39] at a4
  have q0 : vpP v 0 = 1 + v 0 % 2 ^ (1 + v 0 % 40).toNat := rfl
  have q1 : vpP v 1 = v 1 % 40 := rfl
  have q2 : vpP v 2 = 1 + v 2 % 300 := rfl
  have q3 : vpP v 3 = 1 + v 3 % 2 ^ (1 + v 3 % 60).toNat := rfl
  have q7 : vpP v 7 = 1 + v 4 % 2 ^ (10 + v 4 % 30).toNat := rfl
  have q8 : vpP v 8 = v 5 % 2 ^ (1 + v 5 % 60).toNat := rfl
  have q12 : vpP v 12 = v 6 % 10001 := rfl
  have q13 : vpP v 13 = v 6 % 5000 := rfl
  have q17 : vpP v 17 = 1 + v 7 % 2 ^ (1 + v 7 % 40).toNat := rfl
  have q18 : vpP v 18 = 1 + v 7 / 7 % 100 := rfl
  rw [q0, q1, q2, q3, q7, q8, q12, q13, q17, q18]
  refine ⟨?_, ?_, ?_, ?_, ?_, ?_, ?_, ?_, ?_, ?_⟩ <;> omega
theorem vp_w {v : Nat → Int} (hv : ∀ j, 0 ≤ v j ∧ v j < 18446744073709551616) : PW (vpP v) := by
  obtain ⟨h0, h1, h2, h3, h7, h8, h12, h13, h17, h18⟩ := vp_rg hv
  intro j
  by_cases hj : j < 21
  · obtain rfl | rfl | rfl | rfl | rfl | rfl | rfl | rfl | rfl | rfl | rfl | rfl | rfl | rfl | rfl | rfl | rfl | rfl | rfl | rfl | rfl : j = 0 ∨ j = 1 ∨ j = 2 ∨ j = 3 ∨ j = 4 ∨ j = 5 ∨ j = 6 ∨ j = 7 ∨ j = 8 ∨ j = 9 ∨ j = 10 ∨ j = 11 ∨ j = 12 ∨ j = 13 ∨ j = 14 ∨ j = 15 ∨ j = 16 ∨ j = 17 ∨ j = 18 ∨ j = 19 ∨ j = 20 := by omega
    all_goals first
      | omega
      | exact ⟨Int.le_refl 0, show (0 : Int) < 18446744073709551616 by decide⟩
      | exact ⟨show (0 : Int) ≤ 16 by decide, show (16 : Int) < 18446744073709551616 by decide⟩
      | exact ⟨show (0 : Int) ≤ 65536 by decide, show (65536 : Int) < 18446744073709551616 by decide⟩
  · have : vpP v j = 0 := by
      unfold vpP
      split <;> first | rfl | omega
    omega
theorem vp_ok {v : Nat → Int} (hv : ∀ j, 0 ≤ v j ∧ v j < 18446744073709551616) : fiV (vpP v) = 0 := by
  obtain ⟨h0, h1, h2, h3, h7, h8, h12, h13, h17, h18⟩ := vp_rg hv
  exact valid_of (vp_w hv) h0.2 (by omega) (by omega) ⟨h3.1, rfl, rfl, rfl⟩ (by omega) ⟨rfl, rfl, rfl⟩ h12.2 ⟨rfl, rfl, rfl⟩ h17 (by omega) (show (16 : Int) ≤ 1048576 by decide) ⟨show (16 : Int) ≤ 65536 by decide, show (65536 : Int) ≤ 16777216 by decide⟩
theorem drn_mono {a b s t : Int} (h : a ≤ b) (hs : 0 ≤ s * t) : drn a s t ≤ drn b s t := by unfold drn; split <;> split <;> omega
theorem drn_anti {b s t t' : Int} (hs : 0 ≤ s) (h : t ≤ t') : drn b s t' ≤ drn b s t := by
  have := Int.mul_le_mul_of_nonneg_left h hs
  unfold drn; split <;> split <;> omega
theorem min_mono {a b c : Int} (h : a ≤ b) : min a c ≤ min b c := by omega
theorem feV_lt (b : Int) (P : Nat → Int) : feV b P < M256 := by
  unfold feV
  split
  · exact seV_lt _ _ _
  · decide
theorem se_val {A : Nat} (hA : A < 18446744073709551616) {x : Int} (x0 : 0 ≤ x) (x1 : x ≤ 200000) : seE A x 10 = 0 ∧ seV A x 10 = A * (expV x 10).toNat / 10000 := by
  obtain ⟨f1, -, -, -, -, -, -, -⟩ := exp_facts (a := x) (b := x) (m := 10) (n := 10) x0 (Int.le_refl _) x1 (by omega) (by omega) (by omega)
  obtain ⟨b0, b1⟩ := expV_lt x 10 x0
  have h1 : A * (expV x 10).toNat < M256 * 10000 := by
    have : A * (expV x 10).toNat ≤ 18446744073709551616 * 5000000000000 := Nat.mul_le_mul (by omega) (by omega)
    unfold M256
    omega
  rw [seE, seV, if_pos f1, if_pos f1]
  exact ⟨mdE_zero.mpr h1, mdV_eq h1⟩
theorem se_mono {A : Nat} {x y : Int} (x0 : 0 ≤ x) (h : x ≤ y) (y1 : y ≤ 200000) : A * (expV x 10).toNat / 10000 ≤ A * (expV y 10).toNat / 10000 := by
  obtain ⟨-, -, -, -, -, -, f7, -⟩ := exp_facts (a := x) (b := y) (m := 10) (n := 10) x0 h y1 (by omega) (by omega) (by omega)
  exact Nat.div_le_div_right (Nat.mul_le_mul_left A (by omega))
theorem se_zero {A : Nat} : A * (expV 0 10).toNat / 10000 = A := by
  obtain ⟨-, -, -, -, f5, -, -, -⟩ := exp_facts (a := 0) (b := 0) (m := 10) (n := 10) (Int.le_refl _) (Int.le_refl _) (by omega) (by omega) (by omega) (by omega)
  rw [f5]
  show A * 10000 / 10000 = A
  omega
/-- What Fee answers for valid parameters. -/
theorem fe_val {P : Nat → Int} (hP : PW P) (h : fiV P = 0) {b : Int} (b0 : 0 ≤ b) (b1 : b < 18446744073709551616) : feE b P = 0 ∧ feV b P = getN P 4 * (expV (xqV b P) 10).toNat / 10000 := by
  obtain ⟨x0, x1⟩ := xqV_rg hP h b0 b1
  have hv := valid_rg hP h
  rw [feE, feV, if_pos h, if_pos h]
  exact se_val hv.2.2.2.2.2.2.1 x0 x1
theorem xq_zero {P : Nat → Int} {b : Int} (h : b ≤ P 0 * P 1) : xqV b P = 0 := by
  have : drn b (P 0) (P 1) = 0 := by unfold drn; split <;> omega
  rw [xqV, this, Int.zero_mul, Int.zero_ediv]
  rfl
theorem getN4 {P : Nat → Int} (hP : PW P) (h4 : P 4 = 0) (h5 : P 5 = 0) (h6 : P 6 = 0) : (getN P 4 : Int) = P 3 := val_one (n := getL P 4) (hP 3).1 h4 h5 h6
theorem ex14 : fiV Gen = 0 ∧ xqV 784000000 Gen = 10000 ∧ feE 0 Gen = 0 ∧ feV 0 Gen = 100000000 := by
  have h := fe_val Gen_w Gen_ok (b := 0) (by omega) (by omega)
  refine ⟨Gen_ok, by decide, h.1, ?_⟩
  rw [h.2, xq_zero (P := Gen) (by decide), se_zero]
  have := getN4 Gen_w rfl rfl rfl
  have e : Gen 3 = 100000000 := rfl
  omega
end Go.Proofs.Ytkneiobohhhcpaa
