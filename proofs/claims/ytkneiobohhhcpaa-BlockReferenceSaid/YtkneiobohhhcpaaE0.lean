/- bips, plain: the exponential's steps. -/
import Derived.Test.YtkneiobohhhcpaaD9
namespace Go.Proofs.Ytkneiobohhhcpaa
set_option linter.unusedVariables false
/-- The steps from i down to 1. -/
def expGo (x : Int) : Nat → Int → Int
  | 0, h => h
  | i + 1, h => expGo x i (10000 + h * x / (((i : Int) + 1) * 10000))
def expV (x t : Int) : Int := if x > 200000 ∨ t < 1 ∨ t > 20 then 0 else expGo x t.toNat 10000
def expE (x t : Int) : Int := if x > 200000 ∨ t < 1 ∨ t > 20 then 2 else 0
/-- What h may be when i steps are left. -/
def bnd : Nat → Nat
  | i => (List.range (20 - i)).foldl (fun h k => 10000 + h * 200000 / ((20 - k) * 10000)) 10000
theorem bnd_step : ∀ i, i < 20 → 10000 ≤ bnd (i + 1) ∧ 10000 + bnd (i + 1) * 200000 / ((i + 1) * 10000) ≤ bnd i ∧ bnd i < 5000000000000 := by decide
theorem bnd_top : ∀ i, i ≤ 20 → 10000 ≤ bnd i ∧ bnd i < 5000000000000 := by decide
theorem exp_step {x h : Int} {i : Nat} (hi : i < 20) (x0 : 0 ≤ x) (x1 : x ≤ 200000) (h0 : 0 ≤ h) (h1 : h ≤ bnd (i + 1)) :
    0 ≤ h * x ∧ h * x < 1000000000000000000 ∧ 10000 ≤ 10000 + h * x / (((i : Int) + 1) * 10000) ∧ 10000 + h * x / (((i : Int) + 1) * 10000) ≤ bnd i ∧ 10000 + h * x / (((i : Int) + 1) * 10000) < 5000000000000 := by
  obtain ⟨b0, b1, b2⟩ := bnd_step i hi
  have b3 := (bnd_top (i + 1) (by omega)).2
  have m0 : 0 ≤ h * x := Int.mul_nonneg h0 x0
  have m1 : h * x ≤ (bnd (i + 1) : Int) * 200000 := Int.mul_le_mul h1 x1 x0 (by omega)
  have c0 : 0 < ((i : Int) + 1) * 10000 := by omega
  have d0 : 0 ≤ h * x / (((i : Int) + 1) * 10000) := Int.ediv_nonneg m0 (by omega)
  have d1 : h * x / (((i : Int) + 1) * 10000) ≤ (bnd (i + 1) : Int) * 200000 / (((i : Int) + 1) * 10000) := Int.ediv_le_ediv c0 m1
  have d2 : (bnd (i + 1) : Int) * 200000 / (((i : Int) + 1) * 10000) = ((bnd (i + 1) * 200000 / ((i + 1) * 10000) : Nat) : Int) := by simp
  refine ⟨m0, by omega, by omega, by omega, by omega⟩
theorem expGo_mono {x y : Int} (x0 : 0 ≤ x) (hxy : x ≤ y) : ∀ (i : Nat) (h k : Int), 0 ≤ h → h ≤ k → expGo x i h ≤ expGo y i k
  | 0, h, k, h0, hk => hk
  | i + 1, h, k, h0, hk => by
    have c0 : 0 < ((i : Int) + 1) * 10000 := by omega
    have m : h * x ≤ k * y := Int.mul_le_mul hk hxy x0 (by omega)
    have d := Int.ediv_le_ediv c0 m
    have d0 : 0 ≤ h * x / (((i : Int) + 1) * 10000) := Int.ediv_nonneg (Int.mul_nonneg h0 x0) (by omega)
    exact expGo_mono x0 hxy i _ _ (by omega) (by omega)
theorem expGo_ge {x : Int} (x0 : 0 ≤ x) : ∀ (i : Nat) (h : Int), 10000 ≤ h → 10000 ≤ expGo x i h
  | 0, h, h0 => h0
  | i + 1, h, h0 => by
    have d0 : 0 ≤ h * x / (((i : Int) + 1) * 10000) := Int.ediv_nonneg (Int.mul_nonneg (by omega) x0) (by omega)
    exact expGo_ge x0 i _ (by omega)
/-- More terms, more: a first step that yields 10000 at least. -/
theorem expGo_terms {x : Int} (x0 : 0 ≤ x) (m : Nat) : ∀ (d : Nat) (h : Int), 10000 ≤ h → expGo x m 10000 ≤ expGo x (m + d) h
  | 0, h, h0 => expGo_mono x0 (Int.le_refl _) m _ _ (by omega) h0
  | d + 1, h, h0 => by
    have d0 : 0 ≤ h * x / ((((Nat.add m d : Nat) : Int) + 1) * 10000) := Int.ediv_nonneg (Int.mul_nonneg (by omega) x0) (by omega)
    exact expGo_terms x0 m d _ (by omega)
theorem expGo_first {x : Int} (x0 : 0 ≤ x) : ∀ (i : Nat) (h : Int), 10000 ≤ h → 10000 + x ≤ expGo x (i + 1) h
  | 0, h, h0 => by
    show 10000 + x ≤ 10000 + h * x / (((0 : Int) + 1) * 10000)
    have m : 10000 * x ≤ h * x := Int.mul_le_mul_of_nonneg_right h0 x0
    have : x ≤ h * x / (((0 : Int) + 1) * 10000) := by omega
    omega
  | i + 1, h, h0 => by
    have d0 : 0 ≤ h * x / ((((i + 1 : Nat) : Int) + 1) * 10000) := Int.ediv_nonneg (Int.mul_nonneg (by omega) x0) (by omega)
    exact expGo_first x0 i _ (by omega)
theorem expGo_zero : ∀ (i : Nat), expGo 0 i 10000 = 10000
  | 0 => rfl
  | i + 1 => by
    show expGo 0 i (10000 + 10000 * 0 / _) = 10000
    rw [Int.mul_zero, Int.zero_ediv]
    exact expGo_zero i
theorem expGo_lt {x : Int} (x0 : 0 ≤ x) (x1 : x ≤ 200000) : ∀ (i : Nat) (h : Int), i ≤ 20 → 0 ≤ h → h ≤ bnd i → 0 ≤ expGo x i h ∧ expGo x i h < 5000000000000
  | 0, h, hi, h0, h1 => ⟨h0, by have := (bnd_top 0 (by omega)).2; show h < _; omega⟩
  | i + 1, h, hi, h0, h1 => by
    obtain ⟨_, _, s1, s2, _⟩ := exp_step (by omega) x0 x1 h0 h1
    exact expGo_lt x0 x1 i _ (by omega) (by omega) s2
theorem expV_lt (x t : Int) (x0 : 0 ≤ x) : 0 ≤ expV x t ∧ expV x t < 5000000000000 := by
  unfold expV
  split
  · omega
  · exact expGo_lt x0 (by omega) _ _ (by omega) (by omega) (by have := (bnd_top t.toNat (by omega)).1; omega)
end Go.Proofs.Ytkneiobohhhcpaa
