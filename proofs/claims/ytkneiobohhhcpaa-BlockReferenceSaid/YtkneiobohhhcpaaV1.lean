/- muldiv.Mul: the outer loop's state, plain. -/
import Derived.Test.YtkneiobohhhcpaaV0
namespace Go.Proofs.Ytkneiobohhhcpaa
set_option linter.unusedVariables false
set_option linter.unusedSimpArgs false
/-- Eight limbs of P. -/
structure is8 (P : Nat) (p0 p1 p2 p3 p4 p5 p6 p7 : Int) : Prop where
  lo : 0 ≤ p0 ∧ 0 ≤ p1 ∧ 0 ≤ p2 ∧ 0 ≤ p3 ∧ 0 ≤ p4 ∧ 0 ≤ p5 ∧ 0 ≤ p6 ∧ 0 ≤ p7
  hi : p0 < 18446744073709551616 ∧ p1 < 18446744073709551616 ∧ p2 < 18446744073709551616 ∧ p3 < 18446744073709551616 ∧ p4 < 18446744073709551616 ∧ p5 < 18446744073709551616 ∧ p6 < 18446744073709551616 ∧ p7 < 18446744073709551616
  v : (P : Int) = 1 * p0 + 18446744073709551616 * p1 + 340282366920938463463374607431768211456 * p2 + 6277101735386680763835789423207666416102355444464034512896 * p3 + 115792089237316195423570985008687907853269984665640564039457584007913129639936 * p4 + 2135987035920910082395021706169552114602704522356652769947041607822219725780640550022962086936576 * p5 + 39402006196394479212279040100143613805079739270465446667948293404245721771497210611414266254884915640806627990306816 * p6 + 726838724295606890549323807888004534353641360687318060281490199180639288113397923326191050713763565560762521606266177933534601628614656 * p7
theorem row8_0 {B P : Nat} {a0 a1 a2 a3 b0 b1 b2 b3 p0 p1 p2 p3 p4 p5 p6 p7 s0 c0 s1 c1 s2 c2 s3 c3 : Int} (hB : isU B b0 b1 b2 b3) (ha : 0 ≤ a0) (h : is8 P p0 p1 p2 p3 p4 p5 p6 p7) (hP : (P : Int) = (0) * (B : Int)) (hz : p4 = 0) (x0 : 0 ≤ s0) (y0 : s0 < 18446744073709551616) (z0 : 0 ≤ c0) (v0 : c0 < 18446744073709551616) (e0 : s0 + 18446744073709551616 * c0 = p0 + a0 * b0 + 0) (x1 : 0 ≤ s1) (y1 : s1 < 18446744073709551616) (z1 : 0 ≤ c1) (v1 : c1 < 18446744073709551616) (e1 : s1 + 18446744073709551616 * c1 = p1 + a0 * b1 + c0) (x2 : 0 ≤ s2) (y2 : s2 < 18446744073709551616) (z2 : 0 ≤ c2) (v2 : c2 < 18446744073709551616) (e2 : s2 + 18446744073709551616 * c2 = p2 + a0 * b2 + c1) (x3 : 0 ≤ s3) (y3 : s3 < 18446744073709551616) (z3 : 0 ≤ c3) (v3 : c3 < 18446744073709551616) (e3 : s3 + 18446744073709551616 * c3 = p3 + a0 * b3 + c2) : ∃ P' : Nat, is8 P' s0 s1 s2 s3 c3 p5 p6 p7 ∧ (P' : Int) = (1 * a0) * (B : Int) := by
  have hm : 0 ≤ a0 * (B : Int) := Int.mul_nonneg ha (by omega)
  refine ⟨(P + 1 * (a0 * (B : Int))).toNat, ⟨?_, ?_, ?_⟩, ?_⟩
  · have := h.lo; omega
  · have := h.hi; omega
  · have hv := h.v
    obtain ⟨r0, r1, r2, r3, t0, t1, t2, t3, u⟩ := hB
    have em : a0 * (B : Int) = a0 * b0 + 18446744073709551616 * (a0 * b1) + 340282366920938463463374607431768211456 * (a0 * b2) + 6277101735386680763835789423207666416102355444464034512896 * (a0 * b3) := by rw [u]; simp only [Int.mul_add, Int.mul_left_comm a0]
    rw [Int.toNat_of_nonneg (by omega), em]
    clear hm hP em u
    generalize a0 * b0 = m0 at *
    generalize a0 * b1 = m1 at *
    generalize a0 * b2 = m2 at *
    generalize a0 * b3 = m3 at *
    omega
  · rw [Int.toNat_of_nonneg (by omega), hP]
    simp only [Int.add_mul, Int.mul_assoc, Int.zero_mul, Int.zero_add]
theorem row8_1 {B P : Nat} {a0 a1 a2 a3 b0 b1 b2 b3 p0 p1 p2 p3 p4 p5 p6 p7 s0 c0 s1 c1 s2 c2 s3 c3 : Int} (hB : isU B b0 b1 b2 b3) (ha : 0 ≤ a1) (h : is8 P p0 p1 p2 p3 p4 p5 p6 p7) (hP : (P : Int) = (1 * a0) * (B : Int)) (hz : p5 = 0) (x0 : 0 ≤ s0) (y0 : s0 < 18446744073709551616) (z0 : 0 ≤ c0) (v0 : c0 < 18446744073709551616) (e0 : s0 + 18446744073709551616 * c0 = p1 + a1 * b0 + 0) (x1 : 0 ≤ s1) (y1 : s1 < 18446744073709551616) (z1 : 0 ≤ c1) (v1 : c1 < 18446744073709551616) (e1 : s1 + 18446744073709551616 * c1 = p2 + a1 * b1 + c0) (x2 : 0 ≤ s2) (y2 : s2 < 18446744073709551616) (z2 : 0 ≤ c2) (v2 : c2 < 18446744073709551616) (e2 : s2 + 18446744073709551616 * c2 = p3 + a1 * b2 + c1) (x3 : 0 ≤ s3) (y3 : s3 < 18446744073709551616) (z3 : 0 ≤ c3) (v3 : c3 < 18446744073709551616) (e3 : s3 + 18446744073709551616 * c3 = p4 + a1 * b3 + c2) : ∃ P' : Nat, is8 P' p0 s0 s1 s2 s3 c3 p6 p7 ∧ (P' : Int) = (1 * a0 + 18446744073709551616 * a1) * (B : Int) := by
  have hm : 0 ≤ a1 * (B : Int) := Int.mul_nonneg ha (by omega)
  refine ⟨(P + 18446744073709551616 * (a1 * (B : Int))).toNat, ⟨?_, ?_, ?_⟩, ?_⟩
  · have := h.lo; omega
  · have := h.hi; omega
  · have hv := h.v
    obtain ⟨r0, r1, r2, r3, t0, t1, t2, t3, u⟩ := hB
    have em : a1 * (B : Int) = a1 * b0 + 18446744073709551616 * (a1 * b1) + 340282366920938463463374607431768211456 * (a1 * b2) + 6277101735386680763835789423207666416102355444464034512896 * (a1 * b3) := by rw [u]; simp only [Int.mul_add, Int.mul_left_comm a1]
    rw [Int.toNat_of_nonneg (by omega), em]
    clear hm hP em u
    generalize a1 * b0 = m0 at *
    generalize a1 * b1 = m1 at *
    generalize a1 * b2 = m2 at *
    generalize a1 * b3 = m3 at *
    omega
  · rw [Int.toNat_of_nonneg (by omega), hP]
    simp only [Int.add_mul, Int.mul_assoc, Int.zero_mul, Int.zero_add]
theorem row8_2 {B P : Nat} {a0 a1 a2 a3 b0 b1 b2 b3 p0 p1 p2 p3 p4 p5 p6 p7 s0 c0 s1 c1 s2 c2 s3 c3 : Int} (hB : isU B b0 b1 b2 b3) (ha : 0 ≤ a2) (h : is8 P p0 p1 p2 p3 p4 p5 p6 p7) (hP : (P : Int) = (1 * a0 + 18446744073709551616 * a1) * (B : Int)) (hz : p6 = 0) (x0 : 0 ≤ s0) (y0 : s0 < 18446744073709551616) (z0 : 0 ≤ c0) (v0 : c0 < 18446744073709551616) (e0 : s0 + 18446744073709551616 * c0 = p2 + a2 * b0 + 0) (x1 : 0 ≤ s1) (y1 : s1 < 18446744073709551616) (z1 : 0 ≤ c1) (v1 : c1 < 18446744073709551616) (e1 : s1 + 18446744073709551616 * c1 = p3 + a2 * b1 + c0) (x2 : 0 ≤ s2) (y2 : s2 < 18446744073709551616) (z2 : 0 ≤ c2) (v2 : c2 < 18446744073709551616) (e2 : s2 + 18446744073709551616 * c2 = p4 + a2 * b2 + c1) (x3 : 0 ≤ s3) (y3 : s3 < 18446744073709551616) (z3 : 0 ≤ c3) (v3 : c3 < 18446744073709551616) (e3 : s3 + 18446744073709551616 * c3 = p5 + a2 * b3 + c2) : ∃ P' : Nat, is8 P' p0 p1 s0 s1 s2 s3 c3 p7 ∧ (P' : Int) = (1 * a0 + 18446744073709551616 * a1 + 340282366920938463463374607431768211456 * a2) * (B : Int) := by
  have hm : 0 ≤ a2 * (B : Int) := Int.mul_nonneg ha (by omega)
  refine ⟨(P + 340282366920938463463374607431768211456 * (a2 * (B : Int))).toNat, ⟨?_, ?_, ?_⟩, ?_⟩
  · have := h.lo; omega
  · have := h.hi; omega
  · have hv := h.v
    obtain ⟨r0, r1, r2, r3, t0, t1, t2, t3, u⟩ := hB
    have em : a2 * (B : Int) = a2 * b0 + 18446744073709551616 * (a2 * b1) + 340282366920938463463374607431768211456 * (a2 * b2) + 6277101735386680763835789423207666416102355444464034512896 * (a2 * b3) := by rw [u]; simp only [Int.mul_add, Int.mul_left_comm a2]
    rw [Int.toNat_of_nonneg (by omega), em]
    clear hm hP em u
    generalize a2 * b0 = m0 at *
    generalize a2 * b1 = m1 at *
    generalize a2 * b2 = m2 at *
    generalize a2 * b3 = m3 at *
    omega
  · rw [Int.toNat_of_nonneg (by omega), hP]
    simp only [Int.add_mul, Int.mul_assoc, Int.zero_mul, Int.zero_add]
theorem row8_3 {B P : Nat} {a0 a1 a2 a3 b0 b1 b2 b3 p0 p1 p2 p3 p4 p5 p6 p7 s0 c0 s1 c1 s2 c2 s3 c3 : Int} (hB : isU B b0 b1 b2 b3) (ha : 0 ≤ a3) (h : is8 P p0 p1 p2 p3 p4 p5 p6 p7) (hP : (P : Int) = (1 * a0 + 18446744073709551616 * a1 + 340282366920938463463374607431768211456 * a2) * (B : Int)) (hz : p7 = 0) (x0 : 0 ≤ s0) (y0 : s0 < 18446744073709551616) (z0 : 0 ≤ c0) (v0 : c0 < 18446744073709551616) (e0 : s0 + 18446744073709551616 * c0 = p3 + a3 * b0 + 0) (x1 : 0 ≤ s1) (y1 : s1 < 18446744073709551616) (z1 : 0 ≤ c1) (v1 : c1 < 18446744073709551616) (e1 : s1 + 18446744073709551616 * c1 = p4 + a3 * b1 + c0) (x2 : 0 ≤ s2) (y2 : s2 < 18446744073709551616) (z2 : 0 ≤ c2) (v2 : c2 < 18446744073709551616) (e2 : s2 + 18446744073709551616 * c2 = p5 + a3 * b2 + c1) (x3 : 0 ≤ s3) (y3 : s3 < 18446744073709551616) (z3 : 0 ≤ c3) (v3 : c3 < 18446744073709551616) (e3 : s3 + 18446744073709551616 * c3 = p6 + a3 * b3 + c2) : ∃ P' : Nat, is8 P' p0 p1 p2 s0 s1 s2 s3 c3 ∧ (P' : Int) = (1 * a0 + 18446744073709551616 * a1 + 340282366920938463463374607431768211456 * a2 + 6277101735386680763835789423207666416102355444464034512896 * a3) * (B : Int) := by
  have hm : 0 ≤ a3 * (B : Int) := Int.mul_nonneg ha (by omega)
  refine ⟨(P + 6277101735386680763835789423207666416102355444464034512896 * (a3 * (B : Int))).toNat, ⟨?_, ?_, ?_⟩, ?_⟩
  · have := h.lo; omega
  · have := h.hi; omega
  · have hv := h.v
    obtain ⟨r0, r1, r2, r3, t0, t1, t2, t3, u⟩ := hB
    have em : a3 * (B : Int) = a3 * b0 + 18446744073709551616 * (a3 * b1) + 340282366920938463463374607431768211456 * (a3 * b2) + 6277101735386680763835789423207666416102355444464034512896 * (a3 * b3) := by rw [u]; simp only [Int.mul_add, Int.mul_left_comm a3]
    rw [Int.toNat_of_nonneg (by omega), em]
    clear hm hP em u
    generalize a3 * b0 = m0 at *
    generalize a3 * b1 = m1 at *
    generalize a3 * b2 = m2 at *
    generalize a3 * b3 = m3 at *
    omega
  · rw [Int.toNat_of_nonneg (by omega), hP]
    simp only [Int.add_mul, Int.mul_assoc, Int.zero_mul, Int.zero_add]
end Go.Proofs.Ytkneiobohhhcpaa
