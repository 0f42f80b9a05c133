/- Plain lemmas for muldiv.Div512: bits, the division's state. -/
import Derived.Laws.BitsAllLaws
import Derived.Laws.BitsLemmas
import Derived.Laws.Externs
import Derived.Test.YtkneiobohhhcpaaB
namespace Go.Proofs.Ytkneiobohhhcpaa
open Go.RowKit
theorem and1 (x : Int) : bits .and .u64 x 1 = x % 2 := by
  show IntKind.u64.wrap ((BitVec.ofInt 64 x &&& BitVec.ofInt 64 1).toNat : Int) = _
  rw [BitVec.toNat_and, show (BitVec.ofInt 64 1).toNat = 2 ^ 1 - 1 from rfl, Nat.and_two_pow_sub_one_eq_mod, BitVec.toNat_ofInt, IntKind.wrap_u64]
  omega
/-- The bit that comes down. -/
def bitN (L k : Nat) : Nat := L / 2 ^ k % 2
theorem bitN_le (L k : Nat) : bitN L k ≤ 1 := by unfold bitN; omega
theorem pow64 (c : Nat) : 18446744073709551616 ^ c = 2 ^ (64 * c) := by rw [Nat.pow_mul]
theorem low_bit (a : Nat) {s : Nat} (hs : s < 64) : a % 18446744073709551616 / 2 ^ s % 2 = a / 2 ^ s % 2 := by
  have e : 18446744073709551616 = 2 ^ s * 2 ^ (64 - s) := by rw [← Nat.pow_add, show s + (64 - s) = 64 by omega]
  rw [e, Nat.mod_mul_right_div_self, show 64 - s = (63 - s) + 1 by omega, Nat.pow_succ, Nat.mod_mul_left_mod]
theorem bit_law (L k : Nat) {c s : Nat} (hk : k / 64 = c) (hs : k % 64 = s) : bits .and .u64 (lim L c / 2 ^ s) 1 = ((bitN L k : Nat) : Int) := by
  have h1 : s < 64 := by omega
  have h2 : k = 64 * c + s := by omega
  have e : (lim L c / 2 ^ s : Int) = ((L / 2 ^ (64 * c) % 18446744073709551616 / 2 ^ s : Nat) : Int) := by
    rw [lim, pow64]
    simp
  rw [and1, e, bitN, h2, Nat.pow_add, ← Nat.div_div_eq_div_mul]
  have := low_bit (L / 2 ^ (64 * c)) h1
  omega
theorem set_bit (Q k c : Nat) : (Q ||| 2 ^ k) / 2 ^ (64 * c) % 2 ^ 64 = (Q / 2 ^ (64 * c) % 2 ^ 64) ||| (if k / 64 = c then 2 ^ (k % 64) else 0) := by
  apply Nat.eq_of_testBit_eq
  intro j
  rw [Nat.testBit_mod_two_pow, Nat.testBit_div_two_pow, Nat.testBit_or, Nat.testBit_or, Nat.testBit_mod_two_pow, Nat.testBit_div_two_pow, Nat.testBit_two_pow]
  by_cases hj : j < 64
  · by_cases hc : k / 64 = c
    · rw [if_pos hc, Nat.testBit_two_pow]
      have : (k = j + 64 * c) ↔ (k % 64 = j) := by omega
      simp [hj, this]
    · rw [if_neg hc, Nat.zero_testBit]
      have : ¬ (k = j + 64 * c) := by omega
      simp [hj, this]
  · by_cases hc : k / 64 = c
    · rw [if_pos hc, Nat.testBit_two_pow]
      have : ¬ (k % 64 = j) := by omega
      simp [hj, this]
    · rw [if_neg hc, Nat.zero_testBit]
      simp [hj]
theorem add_bit {Q k : Nat} (h : 2 ^ (k + 1) ∣ Q) : Q + 2 ^ k = Q ||| 2 ^ k := by
  obtain ⟨m, rfl⟩ := h
  exact Nat.two_pow_add_eq_or_of_lt (Nat.pow_lt_pow_right (by omega) (by omega)) m
theorem lim_other {Q k c : Nat} (h : 2 ^ (k + 1) ∣ Q) (hc : k / 64 ≠ c) : lim (Q + 2 ^ k) c = lim Q c := by
  rw [add_bit h, lim, lim, pow64, show 18446744073709551616 = 2 ^ 64 from rfl, set_bit, if_neg hc, Nat.or_zero]
theorem lim_set {Q k c s : Nat} (h : 2 ^ (k + 1) ∣ Q) (hc : k / 64 = c) (hs : k % 64 = s) : bits .or .u64 (lim Q c) (IntKind.u64.wrap (2 ^ s)) = lim (Q + 2 ^ k) c := by
  have h1 : s < 64 := by omega
  have h2 : 2 ^ s < 2 ^ 64 := Nat.pow_lt_pow_right (by omega) h1
  rw [IntKind.wrap_u64, show ((2 : Int) ^ s % 18446744073709551616) = ((2 ^ s : Nat) : Int) by
    have : ((2 : Int) ^ s) = ((2 ^ s : Nat) : Int) := by simp
    rw [this]
    have h3 : 2 ^ s < 18446744073709551616 := h2
    clear h2 this
    generalize 2 ^ s = y at *
    omega]
  rw [lim, bits_or_u64_nat _ _ (Nat.mod_lt _ (by decide)) h2, add_bit h, lim, pow64]
  rw [show 18446744073709551616 = 2 ^ 64 from rfl, set_bit, if_pos hc, hs]
/-- j bits are still to be brought down. -/
structure DivS (L H C j R Q : Nat) : Prop where
  lt : R < C
  q : Q < M256
  d : 2 ^ j ∣ Q
  eq : L + M256 * H = Q * C + R * 2 ^ j + L % 2 ^ j
theorem DivS.start {L H C : Nat} (hL : L < M256) (h : H < C) : DivS L H C 256 H 0 := by
  refine ⟨h, by decide, Nat.dvd_zero _, ?_⟩
  rw [show 2 ^ 256 = M256 from rfl, Nat.mod_eq_of_lt hL, Nat.zero_mul, Nat.mul_comm]
  omega
theorem DivS.split {L H C k R Q b : Nat} (h : DivS L H C (k + 1) R Q) (hb : bitN L k = b) : L + M256 * H = Q * C + (2 * R + b) * 2 ^ k + L % 2 ^ k := by
  have e := h.eq
  rw [Nat.mod_pow_succ, show L / 2 ^ k % 2 = b from hb, Nat.pow_succ] at e
  rw [e, Nat.add_mul, Nat.mul_comm 2 R, Nat.mul_assoc R, Nat.mul_comm 2 (2 ^ k), Nat.mul_comm b]
  omega
theorem DivS.low {L H C k R Q b : Nat} (h : DivS L H C (k + 1) R Q) (hb : bitN L k = b) (hlt : 2 * R + b < C) : DivS L H C k (2 * R + b) Q :=
  ⟨hlt, h.q, Nat.dvd_trans ⟨2, Nat.pow_succ ..⟩ h.d, h.split hb⟩
theorem DivS.high {L H C k R Q b : Nat} (hL : L < M256) (hH : H < C) (h : DivS L H C (k + 1) R Q) (hb : bitN L k = b) (hle : C ≤ 2 * R + b) : DivS L H C k (2 * R + b - C) (Q + 2 ^ k) := by
  have e := h.split hb
  have hlt := h.lt
  have hb1 := bitN_le L k
  have e2 : L + M256 * H = (Q + 2 ^ k) * C + (2 * R + b - C) * 2 ^ k + L % 2 ^ k := by
    obtain ⟨r, hr⟩ : ∃ r, 2 * R + b = C + r := ⟨2 * R + b - C, by omega⟩
    rw [hr] at e ⊢
    rw [show C + r - C = r by omega, e, Nat.add_mul, Nat.add_mul, Nat.mul_comm (2 ^ k) C]
    omega
  refine ⟨by omega, ?_, Nat.dvd_add (Nat.dvd_trans ⟨2, Nat.pow_succ ..⟩ h.d) (Nat.dvd_refl _), e2⟩
  have h3 : M256 * H + M256 ≤ M256 * C := by rw [← Nat.mul_succ]; exact Nat.mul_le_mul_left _ hH
  have h4 : (Q + 2 ^ k) * C < M256 * C := by omega
  exact Nat.lt_of_mul_lt_mul_right h4
theorem DivS.done {L H C R Q : Nat} (h : DivS L H C 0 R Q) : Q = (L + M256 * H) / C ∧ R = (L + M256 * H) % C := by
  have e := h.eq
  have hlt := h.lt
  rw [Nat.pow_zero, Nat.mul_one, Nat.mod_one, Nat.add_zero] at e
  rw [e, Nat.mul_comm Q C, Nat.mul_add_div (by omega), Nat.div_eq_of_lt hlt, Nat.mul_add_mod, Nat.mod_eq_of_lt hlt]
  exact ⟨rfl, rfl⟩
end Go.Proofs.Ytkneiobohhhcpaa
