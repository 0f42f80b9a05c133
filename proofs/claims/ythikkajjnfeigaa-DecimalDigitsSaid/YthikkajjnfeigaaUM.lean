/- uint256.Mul, walked: the product, or ErrOverflow. -/
import Derived.WalkKit
import Derived.KernelRfl
import Derived.RowKit3
import Derived.Deep.LoopGhost
import Derived.Deep.QuietTactic
import Derived.BigQuiet
import Derived.WideLaws
import Derived.Laws.Rows
import Derived.Below
import Derived.Deep.Draws
import Derived.Outline
import Derived.LoopN
import Derived.Handy
import Derived.Laws.Externs
import Derived.Laws.BitsAllLaws
import Derived.Laws.BitsLemmas
import Derived.Deep.DeepCutAuto
import Derived.Deep.CutBlock
import Derived.Deep.RegionHeld3
import Derived.Test.YthikkajjnfeigaaU
import Derived.Test.YthikkajjnfeigaaS
namespace Go.Proofs.Ythikkajjnfeigaa
open Go.RowKit
set_option linter.unusedVariables false
set_option linter.unusedSimpArgs false
def mlo (x y : Int) : Int := x * y % 18446744073709551616
def mhi (x y : Int) : Int := x * y / 18446744073709551616
theorem mul64_m {x y : Int} (hx0 : 0 ≤ x) (hx : x < 18446744073709551616) (hy0 : 0 ≤ y) (hy : y < 18446744073709551616) (w : World) :
    Calls Try.prog 37 #[.int .u64 x, .int .u64 y] w fun e w' => e = .returned (.tuple #[.int .u64 (mhi x y), .int .u64 (mlo x y)]) ∧ w' = w := (mul64_c hx0 hx hy0 hy w).mono fun e w' h => ⟨h.1, h.2.symm⟩
theorem setCell_drewN (w : World) (n : Nat) (a : Addr) (v : Value) : (w.drewN n).setCell a v = (w.setCell a v).drewN n := rfl
theorem mlo_nn (x y : Int) : 0 ≤ mlo x y := by unfold mlo; omega
theorem sm_nn (x y c : Int) : 0 ≤ sm x y c := by unfold sm; omega
/-- One step: the new limb and the new carry. -/
theorem mac {a b s c : Int} (ha : 0 ≤ a) (hb : 0 ≤ b) (hs : 0 ≤ s) (hc : 0 ≤ c) (ha' : a < 18446744073709551616) (hb' : b < 18446744073709551616) (hs' : s < 18446744073709551616) (hc' : c < 18446744073709551616) :
    ∃ s' c' : Int, sm s (sm (mlo a b) c 0) 0 = s' ∧ IntKind.u64.wrap (IntKind.u64.wrap (mhi a b + cy (mlo a b) c 0) + cy s (sm (mlo a b) c 0) 0) = c' ∧ 0 ≤ s' ∧ s' < 18446744073709551616 ∧ 0 ≤ c' ∧ c' < 18446744073709551616 ∧ s' + 18446744073709551616 * c' = s + a * b + c := by
  have h1 : 0 ≤ a * b := Int.mul_nonneg ha hb
  have h2 : a * b ≤ 18446744073709551615 * 18446744073709551615 := Int.mul_le_mul (by omega) (by omega) hb (by omega)
  refine ⟨_, _, rfl, rfl, ?_⟩
  simp only [IntKind.wrap_u64]
  unfold sm cy mlo mhi
  generalize a * b = m at *
  omega
theorem or_zero (x y : Nat) : x ||| y = 0 ↔ x = 0 ∧ y = 0 := by
  constructor
  · intro h
    have h1 : x ≤ x ||| y := Nat.left_le_or
    have h2 : y ≤ x ||| y := Nat.right_le_or
    omega
  · rintro ⟨rfl, rfl⟩; rfl
theorem bits_or_zero {x y : Int} (hx : 0 ≤ x) (hx' : x < 18446744073709551616) (hy : 0 ≤ y) (hy' : y < 18446744073709551616) : bits .or .u64 x y = 0 ↔ x = 0 ∧ y = 0 := by
  obtain ⟨X, rfl⟩ := Int.eq_ofNat_of_zero_le hx
  obtain ⟨Y, rfl⟩ := Int.eq_ofNat_of_zero_le hy
  rw [bits_or_u64_nat X Y (by omega) (by omega)]
  have := or_zero X Y
  omega
/-- The test on a product above the fourth limb. -/
theorem big_test {a b : Int} (ha : 0 ≤ a) (hb : 0 ≤ b) (ha' : a < 18446744073709551616) (hb' : b < 18446744073709551616) : bits .or .u64 (mhi a b) (mlo a b) = 0 ↔ a * b = 0 := by
  have h1 : 0 ≤ a * b := Int.mul_nonneg ha hb
  have h2 : a * b ≤ 18446744073709551615 * 18446744073709551615 := Int.mul_le_mul (by omega) (by omega) hb (by omega)
  rw [bits_or_zero (by unfold mhi; omega) (by unfold mhi; omega) (by unfold mlo; omega) (by unfold mlo; omega)]
  unfold mhi mlo
  omega

theorem mul_exp (a0 a1 a2 a3 b0 b1 b2 b3 : Int) : (a0 + 18446744073709551616 * a1 + 340282366920938463463374607431768211456 * a2 + 6277101735386680763835789423207666416102355444464034512896 * a3) * (b0 + 18446744073709551616 * b1 + 340282366920938463463374607431768211456 * b2 + 6277101735386680763835789423207666416102355444464034512896 * b3) = 1 * (a0 * b0) + 18446744073709551616 * (a0 * b1) + 340282366920938463463374607431768211456 * (a0 * b2) + 6277101735386680763835789423207666416102355444464034512896 * (a0 * b3) + 18446744073709551616 * (a1 * b0) + 340282366920938463463374607431768211456 * (a1 * b1) + 6277101735386680763835789423207666416102355444464034512896 * (a1 * b2) + 115792089237316195423570985008687907853269984665640564039457584007913129639936 * (a1 * b3) + 340282366920938463463374607431768211456 * (a2 * b0) + 6277101735386680763835789423207666416102355444464034512896 * (a2 * b1) + 115792089237316195423570985008687907853269984665640564039457584007913129639936 * (a2 * b2) + 2135987035920910082395021706169552114602704522356652769947041607822219725780640550022962086936576 * (a2 * b3) + 6277101735386680763835789423207666416102355444464034512896 * (a3 * b0) + 115792089237316195423570985008687907853269984665640564039457584007913129639936 * (a3 * b1) + 2135987035920910082395021706169552114602704522356652769947041607822219725780640550022962086936576 * (a3 * b2) + 39402006196394479212279040100143613805079739270465446667948293404245721771497210611414266254884915640806627990306816 * (a3 * b3) := by grind
theorem mul_over {A B : Nat} (h : M256 ≤ A * B) : mulV A B = 0 ∧ mulE A B = 4 := by
  have hlt : ¬ A * B < M256 := by omega
  exact ⟨by rw [mulV, if_neg hlt], by rw [mulE, if_neg hlt]⟩
theorem mul_fine {A B : Nat} (h : A * B < M256) : mulV A B = A * B ∧ mulE A B = 0 := ⟨by rw [mulV, if_pos h], by rw [mulE, if_pos h]⟩
section
variable {A B : Nat} {a0 a1 a2 a3 b0 b1 b2 b3 : Int} (hA : isU A a0 a1 a2 a3) (hB : isU B b0 b1 b2 b3)
include hA hB
theorem mul_sum : ((A * B : Nat) : Int) = 1 * (a0 * b0) + 18446744073709551616 * (a0 * b1) + 340282366920938463463374607431768211456 * (a0 * b2) + 6277101735386680763835789423207666416102355444464034512896 * (a0 * b3) + 18446744073709551616 * (a1 * b0) + 340282366920938463463374607431768211456 * (a1 * b1) + 6277101735386680763835789423207666416102355444464034512896 * (a1 * b2) + 115792089237316195423570985008687907853269984665640564039457584007913129639936 * (a1 * b3) + 340282366920938463463374607431768211456 * (a2 * b0) + 6277101735386680763835789423207666416102355444464034512896 * (a2 * b1) + 115792089237316195423570985008687907853269984665640564039457584007913129639936 * (a2 * b2) + 2135987035920910082395021706169552114602704522356652769947041607822219725780640550022962086936576 * (a2 * b3) + 6277101735386680763835789423207666416102355444464034512896 * (a3 * b0) + 115792089237316195423570985008687907853269984665640564039457584007913129639936 * (a3 * b1) + 2135987035920910082395021706169552114602704522356652769947041607822219725780640550022962086936576 * (a3 * b2) + 39402006196394479212279040100143613805079739270465446667948293404245721771497210611414266254884915640806627990306816 * (a3 * b3) ∧ 0 ≤ a0 * b0 ∧ 0 ≤ a0 * b1 ∧ 0 ≤ a0 * b2 ∧ 0 ≤ a0 * b3 ∧ 0 ≤ a1 * b0 ∧ 0 ≤ a1 * b1 ∧ 0 ≤ a1 * b2 ∧ 0 ≤ a1 * b3 ∧ 0 ≤ a2 * b0 ∧ 0 ≤ a2 * b1 ∧ 0 ≤ a2 * b2 ∧ 0 ≤ a2 * b3 ∧ 0 ≤ a3 * b0 ∧ 0 ≤ a3 * b1 ∧ 0 ≤ a3 * b2 ∧ 0 ≤ a3 * b3 := by
  obtain ⟨p0, p1, p2, p3, q0, q1, q2, q3, v⟩ := hA; obtain ⟨r0, r1, r2, r3, s0, s1, s2, s3, u⟩ := hB
  refine ⟨by rw [Int.natCast_mul, v, u, mul_exp], Int.mul_nonneg p0 r0, Int.mul_nonneg p0 r1, Int.mul_nonneg p0 r2, Int.mul_nonneg p0 r3, Int.mul_nonneg p1 r0, Int.mul_nonneg p1 r1, Int.mul_nonneg p1 r2, Int.mul_nonneg p1 r3, Int.mul_nonneg p2 r0, Int.mul_nonneg p2 r1, Int.mul_nonneg p2 r2, Int.mul_nonneg p2 r3, Int.mul_nonneg p3 r0, Int.mul_nonneg p3 r1, Int.mul_nonneg p3 r2, Int.mul_nonneg p3 r3⟩
theorem row0_over {s0_0 c0_0 s0_1 c0_1 s0_2 c0_2 s0_3 c0_3 : Int} (x0_0 : 0 ≤ s0_0) (y0_0 : s0_0 < 18446744073709551616) (z0_0 : 0 ≤ c0_0) (e0_0 : s0_0 + 18446744073709551616 * c0_0 = 0 + a0 * b0 + 0) (x0_1 : 0 ≤ s0_1) (y0_1 : s0_1 < 18446744073709551616) (z0_1 : 0 ≤ c0_1) (e0_1 : s0_1 + 18446744073709551616 * c0_1 = 0 + a0 * b1 + c0_0) (x0_2 : 0 ≤ s0_2) (y0_2 : s0_2 < 18446744073709551616) (z0_2 : 0 ≤ c0_2) (e0_2 : s0_2 + 18446744073709551616 * c0_2 = 0 + a0 * b2 + c0_1) (x0_3 : 0 ≤ s0_3) (y0_3 : s0_3 < 18446744073709551616) (z0_3 : 0 ≤ c0_3) (e0_3 : s0_3 + 18446744073709551616 * c0_3 = 0 + a0 * b3 + c0_2)  (hc : c0_3 ≠ 0) : M256 ≤ A * B := by
  obtain ⟨e, n00, n01, n02, n03, n10, n11, n12, n13, n20, n21, n22, n23, n30, n31, n32, n33⟩ := mul_sum hA hB
  clear hA hB
  generalize a0 * b0 = m00 at *
  generalize a0 * b1 = m01 at *
  generalize a0 * b2 = m02 at *
  generalize a0 * b3 = m03 at *
  generalize a1 * b0 = m10 at *
  generalize a1 * b1 = m11 at *
  generalize a1 * b2 = m12 at *
  generalize a1 * b3 = m13 at *
  generalize a2 * b0 = m20 at *
  generalize a2 * b1 = m21 at *
  generalize a2 * b2 = m22 at *
  generalize a2 * b3 = m23 at *
  generalize a3 * b0 = m30 at *
  generalize a3 * b1 = m31 at *
  generalize a3 * b2 = m32 at *
  generalize a3 * b3 = m33 at *
  unfold M256
  omega
theorem row1_over {s0_0 c0_0 s0_1 c0_1 s0_2 c0_2 s0_3 c0_3 s1_1 c1_0 s1_2 c1_1 s1_3 c1_2 : Int} (x0_0 : 0 ≤ s0_0) (y0_0 : s0_0 < 18446744073709551616) (z0_0 : 0 ≤ c0_0) (e0_0 : s0_0 + 18446744073709551616 * c0_0 = 0 + a0 * b0 + 0) (x0_1 : 0 ≤ s0_1) (y0_1 : s0_1 < 18446744073709551616) (z0_1 : 0 ≤ c0_1) (e0_1 : s0_1 + 18446744073709551616 * c0_1 = 0 + a0 * b1 + c0_0) (x0_2 : 0 ≤ s0_2) (y0_2 : s0_2 < 18446744073709551616) (z0_2 : 0 ≤ c0_2) (e0_2 : s0_2 + 18446744073709551616 * c0_2 = 0 + a0 * b2 + c0_1) (x0_3 : 0 ≤ s0_3) (y0_3 : s0_3 < 18446744073709551616) (z0_3 : 0 ≤ c0_3) (e0_3 : s0_3 + 18446744073709551616 * c0_3 = 0 + a0 * b3 + c0_2) (x1_0 : 0 ≤ s1_1) (y1_0 : s1_1 < 18446744073709551616) (z1_0 : 0 ≤ c1_0) (e1_0 : s1_1 + 18446744073709551616 * c1_0 = s0_1 + a1 * b0 + 0) (x1_1 : 0 ≤ s1_2) (y1_1 : s1_2 < 18446744073709551616) (z1_1 : 0 ≤ c1_1) (e1_1 : s1_2 + 18446744073709551616 * c1_1 = s0_2 + a1 * b1 + c1_0) (x1_2 : 0 ≤ s1_3) (y1_2 : s1_3 < 18446744073709551616) (z1_2 : 0 ≤ c1_2) (e1_2 : s1_3 + 18446744073709551616 * c1_2 = s0_3 + a1 * b2 + c1_1) (w1_3 : a1 * b3 = 0) (hc : c1_2 ≠ 0) : M256 ≤ A * B := by
  obtain ⟨e, n00, n01, n02, n03, n10, n11, n12, n13, n20, n21, n22, n23, n30, n31, n32, n33⟩ := mul_sum hA hB
  clear hA hB
  generalize a0 * b0 = m00 at *
  generalize a0 * b1 = m01 at *
  generalize a0 * b2 = m02 at *
  generalize a0 * b3 = m03 at *
  generalize a1 * b0 = m10 at *
  generalize a1 * b1 = m11 at *
  generalize a1 * b2 = m12 at *
  generalize a1 * b3 = m13 at *
  generalize a2 * b0 = m20 at *
  generalize a2 * b1 = m21 at *
  generalize a2 * b2 = m22 at *
  generalize a2 * b3 = m23 at *
  generalize a3 * b0 = m30 at *
  generalize a3 * b1 = m31 at *
  generalize a3 * b2 = m32 at *
  generalize a3 * b3 = m33 at *
  unfold M256
  omega
theorem row2_over {s0_0 c0_0 s0_1 c0_1 s0_2 c0_2 s0_3 c0_3 s1_1 c1_0 s1_2 c1_1 s1_3 c1_2 s2_2 c2_0 s2_3 c2_1 : Int} (x0_0 : 0 ≤ s0_0) (y0_0 : s0_0 < 18446744073709551616) (z0_0 : 0 ≤ c0_0) (e0_0 : s0_0 + 18446744073709551616 * c0_0 = 0 + a0 * b0 + 0) (x0_1 : 0 ≤ s0_1) (y0_1 : s0_1 < 18446744073709551616) (z0_1 : 0 ≤ c0_1) (e0_1 : s0_1 + 18446744073709551616 * c0_1 = 0 + a0 * b1 + c0_0) (x0_2 : 0 ≤ s0_2) (y0_2 : s0_2 < 18446744073709551616) (z0_2 : 0 ≤ c0_2) (e0_2 : s0_2 + 18446744073709551616 * c0_2 = 0 + a0 * b2 + c0_1) (x0_3 : 0 ≤ s0_3) (y0_3 : s0_3 < 18446744073709551616) (z0_3 : 0 ≤ c0_3) (e0_3 : s0_3 + 18446744073709551616 * c0_3 = 0 + a0 * b3 + c0_2) (x1_0 : 0 ≤ s1_1) (y1_0 : s1_1 < 18446744073709551616) (z1_0 : 0 ≤ c1_0) (e1_0 : s1_1 + 18446744073709551616 * c1_0 = s0_1 + a1 * b0 + 0) (x1_1 : 0 ≤ s1_2) (y1_1 : s1_2 < 18446744073709551616) (z1_1 : 0 ≤ c1_1) (e1_1 : s1_2 + 18446744073709551616 * c1_1 = s0_2 + a1 * b1 + c1_0) (x1_2 : 0 ≤ s1_3) (y1_2 : s1_3 < 18446744073709551616) (z1_2 : 0 ≤ c1_2) (e1_2 : s1_3 + 18446744073709551616 * c1_2 = s0_3 + a1 * b2 + c1_1) (x2_0 : 0 ≤ s2_2) (y2_0 : s2_2 < 18446744073709551616) (z2_0 : 0 ≤ c2_0) (e2_0 : s2_2 + 18446744073709551616 * c2_0 = s1_2 + a2 * b0 + 0) (x2_1 : 0 ≤ s2_3) (y2_1 : s2_3 < 18446744073709551616) (z2_1 : 0 ≤ c2_1) (e2_1 : s2_3 + 18446744073709551616 * c2_1 = s1_3 + a2 * b1 + c2_0) (w1_3 : a1 * b3 = 0) (w2_2 : a2 * b2 = 0) (w2_3 : a2 * b3 = 0) (hc : c2_1 ≠ 0) : M256 ≤ A * B := by
  obtain ⟨e, n00, n01, n02, n03, n10, n11, n12, n13, n20, n21, n22, n23, n30, n31, n32, n33⟩ := mul_sum hA hB
  clear hA hB
  generalize a0 * b0 = m00 at *
  generalize a0 * b1 = m01 at *
  generalize a0 * b2 = m02 at *
  generalize a0 * b3 = m03 at *
  generalize a1 * b0 = m10 at *
  generalize a1 * b1 = m11 at *
  generalize a1 * b2 = m12 at *
  generalize a1 * b3 = m13 at *
  generalize a2 * b0 = m20 at *
  generalize a2 * b1 = m21 at *
  generalize a2 * b2 = m22 at *
  generalize a2 * b3 = m23 at *
  generalize a3 * b0 = m30 at *
  generalize a3 * b1 = m31 at *
  generalize a3 * b2 = m32 at *
  generalize a3 * b3 = m33 at *
  unfold M256
  omega
theorem row3_over {s0_0 c0_0 s0_1 c0_1 s0_2 c0_2 s0_3 c0_3 s1_1 c1_0 s1_2 c1_1 s1_3 c1_2 s2_2 c2_0 s2_3 c2_1 s3_3 c3_0 : Int} (x0_0 : 0 ≤ s0_0) (y0_0 : s0_0 < 18446744073709551616) (z0_0 : 0 ≤ c0_0) (e0_0 : s0_0 + 18446744073709551616 * c0_0 = 0 + a0 * b0 + 0) (x0_1 : 0 ≤ s0_1) (y0_1 : s0_1 < 18446744073709551616) (z0_1 : 0 ≤ c0_1) (e0_1 : s0_1 + 18446744073709551616 * c0_1 = 0 + a0 * b1 + c0_0) (x0_2 : 0 ≤ s0_2) (y0_2 : s0_2 < 18446744073709551616) (z0_2 : 0 ≤ c0_2) (e0_2 : s0_2 + 18446744073709551616 * c0_2 = 0 + a0 * b2 + c0_1) (x0_3 : 0 ≤ s0_3) (y0_3 : s0_3 < 18446744073709551616) (z0_3 : 0 ≤ c0_3) (e0_3 : s0_3 + 18446744073709551616 * c0_3 = 0 + a0 * b3 + c0_2) (x1_0 : 0 ≤ s1_1) (y1_0 : s1_1 < 18446744073709551616) (z1_0 : 0 ≤ c1_0) (e1_0 : s1_1 + 18446744073709551616 * c1_0 = s0_1 + a1 * b0 + 0) (x1_1 : 0 ≤ s1_2) (y1_1 : s1_2 < 18446744073709551616) (z1_1 : 0 ≤ c1_1) (e1_1 : s1_2 + 18446744073709551616 * c1_1 = s0_2 + a1 * b1 + c1_0) (x1_2 : 0 ≤ s1_3) (y1_2 : s1_3 < 18446744073709551616) (z1_2 : 0 ≤ c1_2) (e1_2 : s1_3 + 18446744073709551616 * c1_2 = s0_3 + a1 * b2 + c1_1) (x2_0 : 0 ≤ s2_2) (y2_0 : s2_2 < 18446744073709551616) (z2_0 : 0 ≤ c2_0) (e2_0 : s2_2 + 18446744073709551616 * c2_0 = s1_2 + a2 * b0 + 0) (x2_1 : 0 ≤ s2_3) (y2_1 : s2_3 < 18446744073709551616) (z2_1 : 0 ≤ c2_1) (e2_1 : s2_3 + 18446744073709551616 * c2_1 = s1_3 + a2 * b1 + c2_0) (x3_0 : 0 ≤ s3_3) (y3_0 : s3_3 < 18446744073709551616) (z3_0 : 0 ≤ c3_0) (e3_0 : s3_3 + 18446744073709551616 * c3_0 = s2_3 + a3 * b0 + 0) (w1_3 : a1 * b3 = 0) (w2_2 : a2 * b2 = 0) (w2_3 : a2 * b3 = 0) (w3_1 : a3 * b1 = 0) (w3_2 : a3 * b2 = 0) (w3_3 : a3 * b3 = 0) (hc : c3_0 ≠ 0) : M256 ≤ A * B := by
  obtain ⟨e, n00, n01, n02, n03, n10, n11, n12, n13, n20, n21, n22, n23, n30, n31, n32, n33⟩ := mul_sum hA hB
  clear hA hB
  generalize a0 * b0 = m00 at *
  generalize a0 * b1 = m01 at *
  generalize a0 * b2 = m02 at *
  generalize a0 * b3 = m03 at *
  generalize a1 * b0 = m10 at *
  generalize a1 * b1 = m11 at *
  generalize a1 * b2 = m12 at *
  generalize a1 * b3 = m13 at *
  generalize a2 * b0 = m20 at *
  generalize a2 * b1 = m21 at *
  generalize a2 * b2 = m22 at *
  generalize a2 * b3 = m23 at *
  generalize a3 * b0 = m30 at *
  generalize a3 * b1 = m31 at *
  generalize a3 * b2 = m32 at *
  generalize a3 * b3 = m33 at *
  unfold M256
  omega
theorem rows_fine {s0_0 c0_0 s0_1 c0_1 s0_2 c0_2 s0_3 c0_3 s1_1 c1_0 s1_2 c1_1 s1_3 c1_2 s2_2 c2_0 s2_3 c2_1 s3_3 c3_0 : Int} (x0_0 : 0 ≤ s0_0) (y0_0 : s0_0 < 18446744073709551616) (z0_0 : 0 ≤ c0_0) (e0_0 : s0_0 + 18446744073709551616 * c0_0 = 0 + a0 * b0 + 0) (x0_1 : 0 ≤ s0_1) (y0_1 : s0_1 < 18446744073709551616) (z0_1 : 0 ≤ c0_1) (e0_1 : s0_1 + 18446744073709551616 * c0_1 = 0 + a0 * b1 + c0_0) (x0_2 : 0 ≤ s0_2) (y0_2 : s0_2 < 18446744073709551616) (z0_2 : 0 ≤ c0_2) (e0_2 : s0_2 + 18446744073709551616 * c0_2 = 0 + a0 * b2 + c0_1) (x0_3 : 0 ≤ s0_3) (y0_3 : s0_3 < 18446744073709551616) (z0_3 : 0 ≤ c0_3) (e0_3 : s0_3 + 18446744073709551616 * c0_3 = 0 + a0 * b3 + c0_2) (x1_0 : 0 ≤ s1_1) (y1_0 : s1_1 < 18446744073709551616) (z1_0 : 0 ≤ c1_0) (e1_0 : s1_1 + 18446744073709551616 * c1_0 = s0_1 + a1 * b0 + 0) (x1_1 : 0 ≤ s1_2) (y1_1 : s1_2 < 18446744073709551616) (z1_1 : 0 ≤ c1_1) (e1_1 : s1_2 + 18446744073709551616 * c1_1 = s0_2 + a1 * b1 + c1_0) (x1_2 : 0 ≤ s1_3) (y1_2 : s1_3 < 18446744073709551616) (z1_2 : 0 ≤ c1_2) (e1_2 : s1_3 + 18446744073709551616 * c1_2 = s0_3 + a1 * b2 + c1_1) (x2_0 : 0 ≤ s2_2) (y2_0 : s2_2 < 18446744073709551616) (z2_0 : 0 ≤ c2_0) (e2_0 : s2_2 + 18446744073709551616 * c2_0 = s1_2 + a2 * b0 + 0) (x2_1 : 0 ≤ s2_3) (y2_1 : s2_3 < 18446744073709551616) (z2_1 : 0 ≤ c2_1) (e2_1 : s2_3 + 18446744073709551616 * c2_1 = s1_3 + a2 * b1 + c2_0) (x3_0 : 0 ≤ s3_3) (y3_0 : s3_3 < 18446744073709551616) (z3_0 : 0 ≤ c3_0) (e3_0 : s3_3 + 18446744073709551616 * c3_0 = s2_3 + a3 * b0 + 0) (w1_3 : a1 * b3 = 0) (w2_2 : a2 * b2 = 0) (w2_3 : a2 * b3 = 0) (w3_1 : a3 * b1 = 0) (w3_2 : a3 * b2 = 0) (w3_3 : a3 * b3 = 0) (hc0 : c0_3 = 0) (hc1 : c1_2 = 0) (hc2 : c2_1 = 0) (hc3 : c3_0 = 0) : isU (A * B) s0_0 s1_1 s2_2 s3_3 := by
  obtain ⟨e, n00, n01, n02, n03, n10, n11, n12, n13, n20, n21, n22, n23, n30, n31, n32, n33⟩ := mul_sum hA hB
  clear hA hB
  generalize a0 * b0 = m00 at *
  generalize a0 * b1 = m01 at *
  generalize a0 * b2 = m02 at *
  generalize a0 * b3 = m03 at *
  generalize a1 * b0 = m10 at *
  generalize a1 * b1 = m11 at *
  generalize a1 * b2 = m12 at *
  generalize a1 * b3 = m13 at *
  generalize a2 * b0 = m20 at *
  generalize a2 * b1 = m21 at *
  generalize a2 * b2 = m22 at *
  generalize a2 * b3 = m23 at *
  generalize a3 * b0 = m30 at *
  generalize a3 * b1 = m31 at *
  generalize a3 * b2 = m32 at *
  generalize a3 * b3 = m33 at *
  constructor <;> omega
theorem big13 (h : a1 * b3 ≠ 0) : M256 ≤ A * B := by
  obtain ⟨e, n00, n01, n02, n03, n10, n11, n12, n13, n20, n21, n22, n23, n30, n31, n32, n33⟩ := mul_sum hA hB
  clear hA hB
  generalize a0 * b0 = m00 at *
  generalize a0 * b1 = m01 at *
  generalize a0 * b2 = m02 at *
  generalize a0 * b3 = m03 at *
  generalize a1 * b0 = m10 at *
  generalize a1 * b1 = m11 at *
  generalize a1 * b2 = m12 at *
  generalize a1 * b3 = m13 at *
  generalize a2 * b0 = m20 at *
  generalize a2 * b1 = m21 at *
  generalize a2 * b2 = m22 at *
  generalize a2 * b3 = m23 at *
  generalize a3 * b0 = m30 at *
  generalize a3 * b1 = m31 at *
  generalize a3 * b2 = m32 at *
  generalize a3 * b3 = m33 at *
  unfold M256
  omega
theorem big22 (h : a2 * b2 ≠ 0) : M256 ≤ A * B := by
  obtain ⟨e, n00, n01, n02, n03, n10, n11, n12, n13, n20, n21, n22, n23, n30, n31, n32, n33⟩ := mul_sum hA hB
  clear hA hB
  generalize a0 * b0 = m00 at *
  generalize a0 * b1 = m01 at *
  generalize a0 * b2 = m02 at *
  generalize a0 * b3 = m03 at *
  generalize a1 * b0 = m10 at *
  generalize a1 * b1 = m11 at *
  generalize a1 * b2 = m12 at *
  generalize a1 * b3 = m13 at *
  generalize a2 * b0 = m20 at *
  generalize a2 * b1 = m21 at *
  generalize a2 * b2 = m22 at *
  generalize a2 * b3 = m23 at *
  generalize a3 * b0 = m30 at *
  generalize a3 * b1 = m31 at *
  generalize a3 * b2 = m32 at *
  generalize a3 * b3 = m33 at *
  unfold M256
  omega
theorem big23 (h : a2 * b3 ≠ 0) : M256 ≤ A * B := by
  obtain ⟨e, n00, n01, n02, n03, n10, n11, n12, n13, n20, n21, n22, n23, n30, n31, n32, n33⟩ := mul_sum hA hB
  clear hA hB
  generalize a0 * b0 = m00 at *
  generalize a0 * b1 = m01 at *
  generalize a0 * b2 = m02 at *
  generalize a0 * b3 = m03 at *
  generalize a1 * b0 = m10 at *
  generalize a1 * b1 = m11 at *
  generalize a1 * b2 = m12 at *
  generalize a1 * b3 = m13 at *
  generalize a2 * b0 = m20 at *
  generalize a2 * b1 = m21 at *
  generalize a2 * b2 = m22 at *
  generalize a2 * b3 = m23 at *
  generalize a3 * b0 = m30 at *
  generalize a3 * b1 = m31 at *
  generalize a3 * b2 = m32 at *
  generalize a3 * b3 = m33 at *
  unfold M256
  omega
theorem big31 (h : a3 * b1 ≠ 0) : M256 ≤ A * B := by
  obtain ⟨e, n00, n01, n02, n03, n10, n11, n12, n13, n20, n21, n22, n23, n30, n31, n32, n33⟩ := mul_sum hA hB
  clear hA hB
  generalize a0 * b0 = m00 at *
  generalize a0 * b1 = m01 at *
  generalize a0 * b2 = m02 at *
  generalize a0 * b3 = m03 at *
  generalize a1 * b0 = m10 at *
  generalize a1 * b1 = m11 at *
  generalize a1 * b2 = m12 at *
  generalize a1 * b3 = m13 at *
  generalize a2 * b0 = m20 at *
  generalize a2 * b1 = m21 at *
  generalize a2 * b2 = m22 at *
  generalize a2 * b3 = m23 at *
  generalize a3 * b0 = m30 at *
  generalize a3 * b1 = m31 at *
  generalize a3 * b2 = m32 at *
  generalize a3 * b3 = m33 at *
  unfold M256
  omega
theorem big32 (h : a3 * b2 ≠ 0) : M256 ≤ A * B := by
  obtain ⟨e, n00, n01, n02, n03, n10, n11, n12, n13, n20, n21, n22, n23, n30, n31, n32, n33⟩ := mul_sum hA hB
  clear hA hB
  generalize a0 * b0 = m00 at *
  generalize a0 * b1 = m01 at *
  generalize a0 * b2 = m02 at *
  generalize a0 * b3 = m03 at *
  generalize a1 * b0 = m10 at *
  generalize a1 * b1 = m11 at *
  generalize a1 * b2 = m12 at *
  generalize a1 * b3 = m13 at *
  generalize a2 * b0 = m20 at *
  generalize a2 * b1 = m21 at *
  generalize a2 * b2 = m22 at *
  generalize a2 * b3 = m23 at *
  generalize a3 * b0 = m30 at *
  generalize a3 * b1 = m31 at *
  generalize a3 * b2 = m32 at *
  generalize a3 * b3 = m33 at *
  unfold M256
  omega
theorem big33 (h : a3 * b3 ≠ 0) : M256 ≤ A * B := by
  obtain ⟨e, n00, n01, n02, n03, n10, n11, n12, n13, n20, n21, n22, n23, n30, n31, n32, n33⟩ := mul_sum hA hB
  clear hA hB
  generalize a0 * b0 = m00 at *
  generalize a0 * b1 = m01 at *
  generalize a0 * b2 = m02 at *
  generalize a0 * b3 = m03 at *
  generalize a1 * b0 = m10 at *
  generalize a1 * b1 = m11 at *
  generalize a1 * b2 = m12 at *
  generalize a1 * b3 = m13 at *
  generalize a2 * b0 = m20 at *
  generalize a2 * b1 = m21 at *
  generalize a2 * b2 = m22 at *
  generalize a2 * b3 = m23 at *
  generalize a3 * b0 = m30 at *
  generalize a3 * b1 = m31 at *
  generalize a3 * b2 = m32 at *
  generalize a3 * b3 = m33 at *
  unfold M256
  omega
end
set_option maxHeartbeats 4000000 in
theorem mul_c {A B : Nat} {a0 a1 a2 a3 b0 b1 b2 b3 : Int} (hA : isU A a0 a1 a2 a3) (hB : isU B b0 b1 b2 b3) (w : World) :
   Calls Try.prog 22 #[.agg #[.int .u64 a0, .int .u64 a1, .int .u64 a2, .int .u64 a3], .agg #[.int .u64 b0, .int .u64 b1, .int .u64 b2, .int .u64 b3]] w fun e w' => e = .returned (.tuple #[.agg #[.int .u64 (lim (mulV A B) 0), .int .u64 (lim (mulV A B) 1), .int .u64 (lim (mulV A B) 2), .int .u64 (lim (mulV A B) 3)], .int .i64 (mulE A B)]) ∧ Below w.heap.size w w' := by
  have N1 := mlo_nn
  have N2 := sm_nn
  have L := @add_law
  have p0 := hA.p0
  have q0 := hA.q0
  have r0 := hB.p0
  have t0 := hB.q0
  have p1 := hA.p1
  have q1 := hA.q1
  have r1 := hB.p1
  have t1 := hB.q1
  have p2 := hA.p2
  have q2 := hA.q2
  have r2 := hB.p2
  have t2 := hB.q2
  have p3 := hA.p3
  have q3 := hA.q3
  have r3 := hB.p3
  have t3 := hB.q3
  go_enter Try.func22, Try.ntmps22
  go_wp2
  refine wp_loop_rounds 5 ?_
  rw [rounds_succ]
  go_wp2
  refine wp_loop_rounds 5 ?_
  rw [rounds_succ]
  go_wp2
  go_quiet ((go_at_call 37; exact Calls.quiet_of_same (mul64_m p0 q0 r0 t0 _)))
  go_wp2
  rw [setCell_drewN]
  obtain ⟨s0_0, c0_0, f1, f2, hf⟩ := mac (s := 0) (c := 0) p0 r0 (Int.le_refl 0) (Int.le_refl 0) q0 t0 (by omega) (by omega)
  rw [f1, f2]
  clear f1 f2
  have x0_0 := hf.1
  have z0_0 := hf.2.2.1
  have G0_0 := hide hf
  clear hf
  rw [rounds_succ]
  go_wp2
  go_quiet ((go_at_call 37; exact quiet_add_same (mul64_m p0 q0 r1 t1 _)))
  go_wp2
  rw [setCell_drewN]
  obtain ⟨s0_1, c0_1, f1, f2, hf⟩ := mac (s := 0) (c := c0_0) p0 r1 (Int.le_refl 0) G0_0.out.2.2.1 q0 t1 (by omega) G0_0.out.2.2.2.1
  rw [f1, f2]
  clear f1 f2
  have x0_1 := hf.1
  have z0_1 := hf.2.2.1
  have G0_1 := hide hf
  clear hf
  clear z0_0
  rw [rounds_succ]
  go_wp2
  go_quiet ((go_at_call 37; exact quiet_add_same (mul64_m p0 q0 r2 t2 _)))
  go_wp2
  rw [setCell_drewN]
  obtain ⟨s0_2, c0_2, f1, f2, hf⟩ := mac (s := 0) (c := c0_1) p0 r2 (Int.le_refl 0) G0_1.out.2.2.1 q0 t2 (by omega) G0_1.out.2.2.2.1
  rw [f1, f2]
  clear f1 f2
  have x0_2 := hf.1
  have z0_2 := hf.2.2.1
  have G0_2 := hide hf
  clear hf
  clear z0_1
  rw [rounds_succ]
  go_wp2
  go_quiet ((go_at_call 37; exact quiet_add_same (mul64_m p0 q0 r3 t3 _)))
  go_wp2
  rw [setCell_drewN]
  obtain ⟨s0_3, c0_3, f1, f2, hf⟩ := mac (s := 0) (c := c0_2) p0 r3 (Int.le_refl 0) G0_2.out.2.2.1 q0 t3 (by omega) G0_2.out.2.2.2.1
  rw [f1, f2]
  clear f1 f2
  have x0_3 := hf.1
  have z0_3 := hf.2.2.1
  have G0_3 := hide hf
  clear hf
  clear z0_2
  rw [rounds_succ]
  obtain ⟨ct, hct⟩ : ∃ ct : Bool, (c0_3 != 0) = ct := ⟨_, rfl⟩
  cases ct with
  | true =>
    go_wp2
    have hne : c0_3 ≠ 0 := by simpa using hct
    go_returns
    obtain ⟨g1, g2⟩ := mul_over (row0_over hA hB G0_0.out.1 G0_0.out.2.1 G0_0.out.2.2.1 G0_0.out.2.2.2.2 G0_1.out.1 G0_1.out.2.1 G0_1.out.2.2.1 G0_1.out.2.2.2.2 G0_2.out.1 G0_2.out.2.1 G0_2.out.2.2.1 G0_2.out.2.2.2.2 G0_3.out.1 G0_3.out.2.1 G0_3.out.2.2.1 G0_3.out.2.2.2.2  hne)
    rw [g1, g2, lim_zero, lim_zero, lim_zero, lim_zero]
    exact ⟨rfl, (by (repeat' (first | (with_reducible exact Below.refl _ _) | (with_reducible assumption) | (with_reducible refine Below.alloc ?_ ?_ _) | (with_reducible refine Below.drew ?_) | (with_reducible refine below_drewN ?_ _) | (with_reducible refine Below.setCell ?_ ?_ _) | (with_reducible refine below_step (by with_reducible assumption) ?_ ?_) | (first | (with_reducible exact Nat.le_refl _) | (with_reducible assumption) | omega | (simp only [World.size_alloc, World.size_setCell, World.size_drew, size_drewN]; omega) | (simp; omega) | (simp; done)))))⟩
  | false =>
  go_wp2
  have Z0 := hide (show c0_3 = 0 by simpa using hct)
  clear hct z0_3
  rw [rounds_succ]
  go_wp2
  refine wp_loop_rounds 5 ?_
  rw [rounds_succ]
  go_wp2
  go_quiet ((go_at_call 37; exact quiet_add_same (mul64_m p1 q1 r0 t0 _)))
  go_wp2
  rw [setCell_drewN]
  obtain ⟨s1_1, c1_0, f1, f2, hf⟩ := mac (s := s0_1) (c := 0) p1 r0 G0_1.out.1 (Int.le_refl 0) q1 t0 G0_1.out.2.1 (by omega)
  rw [f1, f2]
  clear f1 f2
  have x1_0 := hf.1
  have z1_0 := hf.2.2.1
  have G1_0 := hide hf
  clear hf
  clear x0_1
  rw [rounds_succ]
  go_wp2
  go_quiet ((go_at_call 37; exact quiet_add_same (mul64_m p1 q1 r1 t1 _)))
  go_wp2
  rw [setCell_drewN]
  obtain ⟨s1_2, c1_1, f1, f2, hf⟩ := mac (s := s0_2) (c := c1_0) p1 r1 G0_2.out.1 G1_0.out.2.2.1 q1 t1 G0_2.out.2.1 G1_0.out.2.2.2.1
  rw [f1, f2]
  clear f1 f2
  have x1_1 := hf.1
  have z1_1 := hf.2.2.1
  have G1_1 := hide hf
  clear hf
  clear z1_0
  clear x0_2
  rw [rounds_succ]
  go_wp2
  go_quiet ((go_at_call 37; exact quiet_add_same (mul64_m p1 q1 r2 t2 _)))
  go_wp2
  rw [setCell_drewN]
  obtain ⟨s1_3, c1_2, f1, f2, hf⟩ := mac (s := s0_3) (c := c1_1) p1 r2 G0_3.out.1 G1_1.out.2.2.1 q1 t2 G0_3.out.2.1 G1_1.out.2.2.2.1
  rw [f1, f2]
  clear f1 f2
  have x1_2 := hf.1
  have z1_2 := hf.2.2.1
  have G1_2 := hide hf
  clear hf
  clear z1_1
  clear x0_3
  rw [rounds_succ]
  go_wp2
  go_quiet ((go_at_call 37; exact quiet_add_same (mul64_m p1 q1 r3 t3 _)))
  have T13 := hide (big_test p1 r3 q1 t3)
  obtain ⟨bt, hbt⟩ : ∃ bt : Bool, (bits .or .u64 (mhi a1 b3) (mlo a1 b3) != 0) = bt := ⟨_, rfl⟩
  cases bt with
  | true =>
    go_wp2
    have hne : a1 * b3 ≠ 0 := fun h => by rw [T13.out.2 h] at hbt; simp at hbt
    go_returns
    obtain ⟨g1, g2⟩ := mul_over (big13 hA hB hne)
    rw [g1, g2, lim_zero, lim_zero, lim_zero, lim_zero]
    exact ⟨rfl, (by (repeat' (first | (with_reducible exact Below.refl _ _) | (with_reducible assumption) | (with_reducible refine Below.alloc ?_ ?_ _) | (with_reducible refine Below.drew ?_) | (with_reducible refine below_drewN ?_ _) | (with_reducible refine Below.setCell ?_ ?_ _) | (with_reducible refine below_step (by with_reducible assumption) ?_ ?_) | (first | (with_reducible exact Nat.le_refl _) | (with_reducible assumption) | omega | (simp only [World.size_alloc, World.size_setCell, World.size_drew, size_drewN]; omega) | (simp; omega) | (simp; done)))))⟩
  | false =>
  have W1_3 := hide (T13.out.1 (by simpa using hbt))
  go_wp2
  clear hbt T13
  rw [rounds_succ]
  obtain ⟨ct, hct⟩ : ∃ ct : Bool, (c1_2 != 0) = ct := ⟨_, rfl⟩
  cases ct with
  | true =>
    go_wp2
    have hne : c1_2 ≠ 0 := by simpa using hct
    go_returns
    obtain ⟨g1, g2⟩ := mul_over (row1_over hA hB G0_0.out.1 G0_0.out.2.1 G0_0.out.2.2.1 G0_0.out.2.2.2.2 G0_1.out.1 G0_1.out.2.1 G0_1.out.2.2.1 G0_1.out.2.2.2.2 G0_2.out.1 G0_2.out.2.1 G0_2.out.2.2.1 G0_2.out.2.2.2.2 G0_3.out.1 G0_3.out.2.1 G0_3.out.2.2.1 G0_3.out.2.2.2.2 G1_0.out.1 G1_0.out.2.1 G1_0.out.2.2.1 G1_0.out.2.2.2.2 G1_1.out.1 G1_1.out.2.1 G1_1.out.2.2.1 G1_1.out.2.2.2.2 G1_2.out.1 G1_2.out.2.1 G1_2.out.2.2.1 G1_2.out.2.2.2.2 W1_3.out hne)
    rw [g1, g2, lim_zero, lim_zero, lim_zero, lim_zero]
    exact ⟨rfl, (by (repeat' (first | (with_reducible exact Below.refl _ _) | (with_reducible assumption) | (with_reducible refine Below.alloc ?_ ?_ _) | (with_reducible refine Below.drew ?_) | (with_reducible refine below_drewN ?_ _) | (with_reducible refine Below.setCell ?_ ?_ _) | (with_reducible refine below_step (by with_reducible assumption) ?_ ?_) | (first | (with_reducible exact Nat.le_refl _) | (with_reducible assumption) | omega | (simp only [World.size_alloc, World.size_setCell, World.size_drew, size_drewN]; omega) | (simp; omega) | (simp; done)))))⟩
  | false =>
  go_wp2
  have Z1 := hide (show c1_2 = 0 by simpa using hct)
  clear hct z1_2
  rw [rounds_succ]
  go_wp2
  refine wp_loop_rounds 5 ?_
  rw [rounds_succ]
  go_wp2
  go_quiet ((go_at_call 37; exact quiet_add_same (mul64_m p2 q2 r0 t0 _)))
  go_wp2
  rw [setCell_drewN]
  obtain ⟨s2_2, c2_0, f1, f2, hf⟩ := mac (s := s1_2) (c := 0) p2 r0 G1_1.out.1 (Int.le_refl 0) q2 t0 G1_1.out.2.1 (by omega)
  rw [f1, f2]
  clear f1 f2
  have x2_0 := hf.1
  have z2_0 := hf.2.2.1
  have G2_0 := hide hf
  clear hf
  clear x1_1
  rw [rounds_succ]
  go_wp2
  go_quiet ((go_at_call 37; exact quiet_add_same (mul64_m p2 q2 r1 t1 _)))
  go_wp2
  rw [setCell_drewN]
  obtain ⟨s2_3, c2_1, f1, f2, hf⟩ := mac (s := s1_3) (c := c2_0) p2 r1 G1_2.out.1 G2_0.out.2.2.1 q2 t1 G1_2.out.2.1 G2_0.out.2.2.2.1
  rw [f1, f2]
  clear f1 f2
  have x2_1 := hf.1
  have z2_1 := hf.2.2.1
  have G2_1 := hide hf
  clear hf
  clear z2_0
  clear x1_2
  rw [rounds_succ]
  go_wp2
  go_quiet ((go_at_call 37; exact quiet_add_same (mul64_m p2 q2 r2 t2 _)))
  have T22 := hide (big_test p2 r2 q2 t2)
  obtain ⟨bt, hbt⟩ : ∃ bt : Bool, (bits .or .u64 (mhi a2 b2) (mlo a2 b2) != 0) = bt := ⟨_, rfl⟩
  cases bt with
  | true =>
    go_wp2
    have hne : a2 * b2 ≠ 0 := fun h => by rw [T22.out.2 h] at hbt; simp at hbt
    go_returns
    obtain ⟨g1, g2⟩ := mul_over (big22 hA hB hne)
    rw [g1, g2, lim_zero, lim_zero, lim_zero, lim_zero]
    exact ⟨rfl, (by (repeat' (first | (with_reducible exact Below.refl _ _) | (with_reducible assumption) | (with_reducible refine Below.alloc ?_ ?_ _) | (with_reducible refine Below.drew ?_) | (with_reducible refine below_drewN ?_ _) | (with_reducible refine Below.setCell ?_ ?_ _) | (with_reducible refine below_step (by with_reducible assumption) ?_ ?_) | (first | (with_reducible exact Nat.le_refl _) | (with_reducible assumption) | omega | (simp only [World.size_alloc, World.size_setCell, World.size_drew, size_drewN]; omega) | (simp; omega) | (simp; done)))))⟩
  | false =>
  have W2_2 := hide (T22.out.1 (by simpa using hbt))
  go_wp2
  clear hbt T22
  rw [rounds_succ]
  go_wp2
  go_quiet ((go_at_call 37; exact quiet_add_same (mul64_m p2 q2 r3 t3 _)))
  have T23 := hide (big_test p2 r3 q2 t3)
  obtain ⟨bt, hbt⟩ : ∃ bt : Bool, (bits .or .u64 (mhi a2 b3) (mlo a2 b3) != 0) = bt := ⟨_, rfl⟩
  cases bt with
  | true =>
    go_wp2
    have hne : a2 * b3 ≠ 0 := fun h => by rw [T23.out.2 h] at hbt; simp at hbt
    go_returns
    obtain ⟨g1, g2⟩ := mul_over (big23 hA hB hne)
    rw [g1, g2, lim_zero, lim_zero, lim_zero, lim_zero]
    exact ⟨rfl, (by (repeat' (first | (with_reducible exact Below.refl _ _) | (with_reducible assumption) | (with_reducible refine Below.alloc ?_ ?_ _) | (with_reducible refine Below.drew ?_) | (with_reducible refine below_drewN ?_ _) | (with_reducible refine Below.setCell ?_ ?_ _) | (with_reducible refine below_step (by with_reducible assumption) ?_ ?_) | (first | (with_reducible exact Nat.le_refl _) | (with_reducible assumption) | omega | (simp only [World.size_alloc, World.size_setCell, World.size_drew, size_drewN]; omega) | (simp; omega) | (simp; done)))))⟩
  | false =>
  have W2_3 := hide (T23.out.1 (by simpa using hbt))
  go_wp2
  clear hbt T23
  rw [rounds_succ]
  obtain ⟨ct, hct⟩ : ∃ ct : Bool, (c2_1 != 0) = ct := ⟨_, rfl⟩
  cases ct with
  | true =>
    go_wp2
    have hne : c2_1 ≠ 0 := by simpa using hct
    go_returns
    obtain ⟨g1, g2⟩ := mul_over (row2_over hA hB G0_0.out.1 G0_0.out.2.1 G0_0.out.2.2.1 G0_0.out.2.2.2.2 G0_1.out.1 G0_1.out.2.1 G0_1.out.2.2.1 G0_1.out.2.2.2.2 G0_2.out.1 G0_2.out.2.1 G0_2.out.2.2.1 G0_2.out.2.2.2.2 G0_3.out.1 G0_3.out.2.1 G0_3.out.2.2.1 G0_3.out.2.2.2.2 G1_0.out.1 G1_0.out.2.1 G1_0.out.2.2.1 G1_0.out.2.2.2.2 G1_1.out.1 G1_1.out.2.1 G1_1.out.2.2.1 G1_1.out.2.2.2.2 G1_2.out.1 G1_2.out.2.1 G1_2.out.2.2.1 G1_2.out.2.2.2.2 G2_0.out.1 G2_0.out.2.1 G2_0.out.2.2.1 G2_0.out.2.2.2.2 G2_1.out.1 G2_1.out.2.1 G2_1.out.2.2.1 G2_1.out.2.2.2.2 W1_3.out W2_2.out W2_3.out hne)
    rw [g1, g2, lim_zero, lim_zero, lim_zero, lim_zero]
    exact ⟨rfl, (by (repeat' (first | (with_reducible exact Below.refl _ _) | (with_reducible assumption) | (with_reducible refine Below.alloc ?_ ?_ _) | (with_reducible refine Below.drew ?_) | (with_reducible refine below_drewN ?_ _) | (with_reducible refine Below.setCell ?_ ?_ _) | (with_reducible refine below_step (by with_reducible assumption) ?_ ?_) | (first | (with_reducible exact Nat.le_refl _) | (with_reducible assumption) | omega | (simp only [World.size_alloc, World.size_setCell, World.size_drew, size_drewN]; omega) | (simp; omega) | (simp; done)))))⟩
  | false =>
  go_wp2
  have Z2 := hide (show c2_1 = 0 by simpa using hct)
  clear hct z2_1
  rw [rounds_succ]
  go_wp2
  refine wp_loop_rounds 5 ?_
  rw [rounds_succ]
  go_wp2
  go_quiet ((go_at_call 37; exact quiet_add_same (mul64_m p3 q3 r0 t0 _)))
  go_wp2
  rw [setCell_drewN]
  obtain ⟨s3_3, c3_0, f1, f2, hf⟩ := mac (s := s2_3) (c := 0) p3 r0 G2_1.out.1 (Int.le_refl 0) q3 t0 G2_1.out.2.1 (by omega)
  rw [f1, f2]
  clear f1 f2
  have x3_0 := hf.1
  have z3_0 := hf.2.2.1
  have G3_0 := hide hf
  clear hf
  clear x2_1
  rw [rounds_succ]
  go_wp2
  go_quiet ((go_at_call 37; exact quiet_add_same (mul64_m p3 q3 r1 t1 _)))
  have T31 := hide (big_test p3 r1 q3 t1)
  obtain ⟨bt, hbt⟩ : ∃ bt : Bool, (bits .or .u64 (mhi a3 b1) (mlo a3 b1) != 0) = bt := ⟨_, rfl⟩
  cases bt with
  | true =>
    go_wp2
    have hne : a3 * b1 ≠ 0 := fun h => by rw [T31.out.2 h] at hbt; simp at hbt
    go_returns
    obtain ⟨g1, g2⟩ := mul_over (big31 hA hB hne)
    rw [g1, g2, lim_zero, lim_zero, lim_zero, lim_zero]
    exact ⟨rfl, (by (repeat' (first | (with_reducible exact Below.refl _ _) | (with_reducible assumption) | (with_reducible refine Below.alloc ?_ ?_ _) | (with_reducible refine Below.drew ?_) | (with_reducible refine below_drewN ?_ _) | (with_reducible refine Below.setCell ?_ ?_ _) | (with_reducible refine below_step (by with_reducible assumption) ?_ ?_) | (first | (with_reducible exact Nat.le_refl _) | (with_reducible assumption) | omega | (simp only [World.size_alloc, World.size_setCell, World.size_drew, size_drewN]; omega) | (simp; omega) | (simp; done)))))⟩
  | false =>
  have W3_1 := hide (T31.out.1 (by simpa using hbt))
  go_wp2
  clear hbt T31
  rw [rounds_succ]
  go_wp2
  go_quiet ((go_at_call 37; exact quiet_add_same (mul64_m p3 q3 r2 t2 _)))
  have T32 := hide (big_test p3 r2 q3 t2)
  obtain ⟨bt, hbt⟩ : ∃ bt : Bool, (bits .or .u64 (mhi a3 b2) (mlo a3 b2) != 0) = bt := ⟨_, rfl⟩
  cases bt with
  | true =>
    go_wp2
    have hne : a3 * b2 ≠ 0 := fun h => by rw [T32.out.2 h] at hbt; simp at hbt
    go_returns
    obtain ⟨g1, g2⟩ := mul_over (big32 hA hB hne)
    rw [g1, g2, lim_zero, lim_zero, lim_zero, lim_zero]
    exact ⟨rfl, (by (repeat' (first | (with_reducible exact Below.refl _ _) | (with_reducible assumption) | (with_reducible refine Below.alloc ?_ ?_ _) | (with_reducible refine Below.drew ?_) | (with_reducible refine below_drewN ?_ _) | (with_reducible refine Below.setCell ?_ ?_ _) | (with_reducible refine below_step (by with_reducible assumption) ?_ ?_) | (first | (with_reducible exact Nat.le_refl _) | (with_reducible assumption) | omega | (simp only [World.size_alloc, World.size_setCell, World.size_drew, size_drewN]; omega) | (simp; omega) | (simp; done)))))⟩
  | false =>
  have W3_2 := hide (T32.out.1 (by simpa using hbt))
  go_wp2
  clear hbt T32
  rw [rounds_succ]
  go_wp2
  go_quiet ((go_at_call 37; exact quiet_add_same (mul64_m p3 q3 r3 t3 _)))
  have T33 := hide (big_test p3 r3 q3 t3)
  obtain ⟨bt, hbt⟩ : ∃ bt : Bool, (bits .or .u64 (mhi a3 b3) (mlo a3 b3) != 0) = bt := ⟨_, rfl⟩
  cases bt with
  | true =>
    go_wp2
    have hne : a3 * b3 ≠ 0 := fun h => by rw [T33.out.2 h] at hbt; simp at hbt
    go_returns
    obtain ⟨g1, g2⟩ := mul_over (big33 hA hB hne)
    rw [g1, g2, lim_zero, lim_zero, lim_zero, lim_zero]
    exact ⟨rfl, (by (repeat' (first | (with_reducible exact Below.refl _ _) | (with_reducible assumption) | (with_reducible refine Below.alloc ?_ ?_ _) | (with_reducible refine Below.drew ?_) | (with_reducible refine below_drewN ?_ _) | (with_reducible refine Below.setCell ?_ ?_ _) | (with_reducible refine below_step (by with_reducible assumption) ?_ ?_) | (first | (with_reducible exact Nat.le_refl _) | (with_reducible assumption) | omega | (simp only [World.size_alloc, World.size_setCell, World.size_drew, size_drewN]; omega) | (simp; omega) | (simp; done)))))⟩
  | false =>
  have W3_3 := hide (T33.out.1 (by simpa using hbt))
  go_wp2
  clear hbt T33
  rw [rounds_succ]
  obtain ⟨ct, hct⟩ : ∃ ct : Bool, (c3_0 != 0) = ct := ⟨_, rfl⟩
  cases ct with
  | true =>
    go_wp2
    have hne : c3_0 ≠ 0 := by simpa using hct
    go_returns
    obtain ⟨g1, g2⟩ := mul_over (row3_over hA hB G0_0.out.1 G0_0.out.2.1 G0_0.out.2.2.1 G0_0.out.2.2.2.2 G0_1.out.1 G0_1.out.2.1 G0_1.out.2.2.1 G0_1.out.2.2.2.2 G0_2.out.1 G0_2.out.2.1 G0_2.out.2.2.1 G0_2.out.2.2.2.2 G0_3.out.1 G0_3.out.2.1 G0_3.out.2.2.1 G0_3.out.2.2.2.2 G1_0.out.1 G1_0.out.2.1 G1_0.out.2.2.1 G1_0.out.2.2.2.2 G1_1.out.1 G1_1.out.2.1 G1_1.out.2.2.1 G1_1.out.2.2.2.2 G1_2.out.1 G1_2.out.2.1 G1_2.out.2.2.1 G1_2.out.2.2.2.2 G2_0.out.1 G2_0.out.2.1 G2_0.out.2.2.1 G2_0.out.2.2.2.2 G2_1.out.1 G2_1.out.2.1 G2_1.out.2.2.1 G2_1.out.2.2.2.2 G3_0.out.1 G3_0.out.2.1 G3_0.out.2.2.1 G3_0.out.2.2.2.2 W1_3.out W2_2.out W2_3.out W3_1.out W3_2.out W3_3.out hne)
    rw [g1, g2, lim_zero, lim_zero, lim_zero, lim_zero]
    exact ⟨rfl, (by (repeat' (first | (with_reducible exact Below.refl _ _) | (with_reducible assumption) | (with_reducible refine Below.alloc ?_ ?_ _) | (with_reducible refine Below.drew ?_) | (with_reducible refine below_drewN ?_ _) | (with_reducible refine Below.setCell ?_ ?_ _) | (with_reducible refine below_step (by with_reducible assumption) ?_ ?_) | (first | (with_reducible exact Nat.le_refl _) | (with_reducible assumption) | omega | (simp only [World.size_alloc, World.size_setCell, World.size_drew, size_drewN]; omega) | (simp; omega) | (simp; done)))))⟩
  | false =>
  go_wp2
  have Z3 := hide (show c3_0 = 0 by simpa using hct)
  clear hct z3_0
  rw [rounds_succ]
  go_wp2
  have h3 := rows_fine hA hB G0_0.out.1 G0_0.out.2.1 G0_0.out.2.2.1 G0_0.out.2.2.2.2 G0_1.out.1 G0_1.out.2.1 G0_1.out.2.2.1 G0_1.out.2.2.2.2 G0_2.out.1 G0_2.out.2.1 G0_2.out.2.2.1 G0_2.out.2.2.2.2 G0_3.out.1 G0_3.out.2.1 G0_3.out.2.2.1 G0_3.out.2.2.2.2 G1_0.out.1 G1_0.out.2.1 G1_0.out.2.2.1 G1_0.out.2.2.2.2 G1_1.out.1 G1_1.out.2.1 G1_1.out.2.2.1 G1_1.out.2.2.2.2 G1_2.out.1 G1_2.out.2.1 G1_2.out.2.2.1 G1_2.out.2.2.2.2 G2_0.out.1 G2_0.out.2.1 G2_0.out.2.2.1 G2_0.out.2.2.2.2 G2_1.out.1 G2_1.out.2.1 G2_1.out.2.2.1 G2_1.out.2.2.2.2 G3_0.out.1 G3_0.out.2.1 G3_0.out.2.2.1 G3_0.out.2.2.2.2 W1_3.out W2_2.out W2_3.out W3_1.out W3_2.out W3_3.out Z0.out Z1.out Z2.out Z3.out
  go_returns
  obtain ⟨h1, h2⟩ := mul_fine h3.lt
  obtain ⟨e0, e1, e2, e3⟩ := h3.lims
  rw [h1, h2, ← e0, ← e1, ← e2, ← e3]
  exact ⟨rfl, (by (repeat' (first | (with_reducible exact Below.refl _ _) | (with_reducible assumption) | (with_reducible refine Below.alloc ?_ ?_ _) | (with_reducible refine Below.drew ?_) | (with_reducible refine below_drewN ?_ _) | (with_reducible refine Below.setCell ?_ ?_ _) | (with_reducible refine below_step (by with_reducible assumption) ?_ ?_) | (first | (with_reducible exact Nat.le_refl _) | (with_reducible assumption) | omega | (simp only [World.size_alloc, World.size_setCell, World.size_drew, size_drewN]; omega) | (simp; omega) | (simp; done)))))⟩
end Go.Proofs.Ythikkajjnfeigaa
