/- Division of 128 bits by 64, plain: the guessed digit, corrected. -/
import Derived.Test.YthikkajjnfeigaaB
namespace Go.Proofs.Ythikkajjnfeigaa
set_option linter.unusedVariables false
/-- The guess q with remainder r of u (with the next digit u1) by a (with the next digit b). -/
structure KInv (a b u u1 q r : Int) : Prop where
  q0 : 0 ≤ q
  q1 : q ≤ 4294967297
  r0 : 0 ≤ r
  ue : u = q * a + r
  hq : (u * 4294967296 + u1) / (a * 4294967296 + b) ≤ q
/-- What is known of the divisor and of the digits. -/
structure KDiv (a b u u1 : Int) : Prop where
  a0 : 2147483648 ≤ a
  a1 : a < 4294967296
  b0 : 0 ≤ b
  b1 : b < 4294967296
  u0 : 0 ≤ u
  ul : u < a * 4294967296 + b
  v0 : 0 ≤ u1
  v1 : u1 < 4294967296
theorem KDiv.pos {a b u u1 : Int} (d : KDiv a b u u1) : 0 < a * 4294967296 + b := by have := d.a0; have := d.b0; omega
theorem KInv.start {a b u u1 : Int} (d : KDiv a b u u1) : KInv a b u u1 (u / a) (u % a) := by
  have ha := d.a0; have hb := d.b0; have hb1 := d.b1; have hu := d.u0; have hl := d.ul; have hv := d.v0; have hv1 := d.v1
  have hp := d.pos
  refine ⟨Int.ediv_nonneg hu (by omega), ?_, Int.emod_nonneg _ (by omega), ?_, ?_⟩
  · have : u / a < 4294967298 := Int.ediv_lt_of_lt_mul (by omega) (by omega)
    omega
  · have := Int.mul_ediv_add_emod u a
    rw [Int.mul_comm] at this
    omega
  · generalize hQ : (u * 4294967296 + u1) / (a * 4294967296 + b) = Q
    have h1 : Q * (a * 4294967296 + b) ≤ u * 4294967296 + u1 := by rw [← hQ]; exact Int.ediv_mul_le _ (by omega)
    have h0 : 0 ≤ Q := by rw [← hQ]; exact Int.ediv_nonneg (by omega) (by omega)
    have h2 : 0 ≤ Q * b := Int.mul_nonneg h0 hb
    have h3 : Q * (a * 4294967296 + b) = Q * a * 4294967296 + Q * b := by rw [Int.mul_add, Int.mul_assoc]
    rw [h3] at h1
    exact Int.le_ediv_of_mul_le (by omega) (by omega)
theorem KInv.mul {a b u u1 q r : Int} (I : KInv a b u u1 q r) : q * (a * 4294967296 + b) = (u - r) * 4294967296 + q * b := by
  have := I.ue
  rw [Int.mul_add, ← Int.mul_assoc, show q * a = u - r by omega]
theorem KInv.down {a b u u1 q r : Int} (d : KDiv a b u u1) (I : KInv a b u u1 q r) (c : 4294967296 ≤ q ∨ 4294967296 * r + u1 < q * b) : KInv a b u u1 (q - 1) (r + a) ∧ 1 ≤ q := by
  have ha := d.a0; have hb := d.b0; have hb1 := d.b1; have hu := d.u0; have hl := d.ul; have hv := d.v0; have hv1 := d.v1
  have hq0 := I.q0; have hq1 := I.q1; have hr0 := I.r0; have hue := I.ue
  have hp := d.pos
  have hm := I.mul
  have hone : 1 ≤ q := by
    rcases Int.lt_or_le q 1 with h | h
    · obtain rfl : q = 0 := by omega
      rw [Int.zero_mul] at c
      omega
    · exact h
  have hlt : u * 4294967296 + u1 < q * (a * 4294967296 + b) := by
    rcases c with c | c
    · have : 4294967296 * (a * 4294967296 + b) ≤ q * (a * 4294967296 + b) := Int.mul_le_mul_of_nonneg_right c (by omega)
      omega
    · rw [hm]; omega
  refine ⟨⟨by omega, by omega, by omega, ?_, ?_⟩, hone⟩
  · rw [Int.sub_mul]; omega
  · have : (u * 4294967296 + u1) / (a * 4294967296 + b) < q := Int.ediv_lt_of_lt_mul hp hlt
    omega
theorem KInv.done {a b u u1 q r : Int} (d : KDiv a b u u1) (I : KInv a b u u1 q r) (c : q * b ≤ 4294967296 * r + u1) : q = (u * 4294967296 + u1) / (a * 4294967296 + b) := by
  have hm := I.mul
  have : q ≤ (u * 4294967296 + u1) / (a * 4294967296 + b) := Int.le_ediv_of_mul_le d.pos (by rw [hm]; omega)
  have := I.hq
  omega
theorem KInv.done2 {a b u u1 q r : Int} (d : KDiv a b u u1) (I : KInv a b u u1 q r) (hr : 4294967296 ≤ r) (hq : q ≤ 4294967296) : q = (u * 4294967296 + u1) / (a * 4294967296 + b) := by
  refine I.done d ?_
  have h1 : q * b ≤ 4294967296 * b := Int.mul_le_mul_of_nonneg_right hq d.b0
  have := d.b1; have := d.v0
  omega
/-- The whole division out of its two digits. -/
theorem two_digits {Y N u z1 z0 x : Int} (hY : 0 < Y) (hN : N = u * 18446744073709551616 + z1 * 4294967296 + z0) (hx : x = (u * 4294967296 + z1) % Y) (h0 : 0 ≤ z0) :
    N / Y = (u * 4294967296 + z1) / Y * 4294967296 + (x * 4294967296 + z0) / Y ∧ N % Y = (x * 4294967296 + z0) % Y := by
  generalize hq : (u * 4294967296 + z1) / Y = q
  have e : u * 4294967296 + z1 = Y * q + x := by rw [← hq, hx]; exact (Int.mul_ediv_add_emod _ _).symm
  have e2 : N = (x * 4294967296 + z0) + q * 4294967296 * Y := by
    have : q * 4294967296 * Y = Y * q * 4294967296 := by rw [Int.mul_assoc, Int.mul_comm 4294967296 Y, ← Int.mul_assoc, Int.mul_comm q Y]
    rw [this, hN]; omega
  constructor
  · rw [e2, Int.add_mul_ediv_right _ _ (by omega)]; omega
  · rw [e2, Int.add_mul_emod_self_right]
/-- The remainder by the guessed digit, in 64 bits. -/
theorem rem_wrap {A q Y : Int} (hY : 0 < Y) (hY1 : Y < 18446744073709551616) (hq : q = A / Y) : (A - q * Y) % 18446744073709551616 = A % Y := by
  have h1 := Int.mul_ediv_add_emod A Y
  rw [← hq, Int.mul_comm] at h1
  have := Int.emod_nonneg A (show Y ≠ 0 by omega)
  have := Int.emod_lt_of_pos A hY
  omega
theorem scaled {n y p : Int} (hy : 0 < y) (hp : 0 < p) : n * p / (y * p) = n / y ∧ n * p % (y * p) / p = n % y := by
  constructor
  · exact Int.mul_ediv_mul_of_pos_left _ _ hp
  · rw [Int.mul_comm n p, Int.mul_comm y p, Int.mul_emod_mul_of_pos _ _ hp, Int.mul_ediv_cancel_left _ (by omega)]
end Go.Proofs.Ythikkajjnfeigaa
