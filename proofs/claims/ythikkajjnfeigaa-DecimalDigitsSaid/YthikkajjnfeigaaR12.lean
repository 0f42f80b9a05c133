/- Package pontageref1: Div, plain: what its loops keep. -/
import Derived.WalkKit
import Derived.KernelRfl
import Derived.RowKit3
import Derived.Deep.LoopGhost
import Derived.Deep.QuietTactic
import Derived.BigQuiet
import Derived.WideLaws
import Derived.Laws.Rows
import Derived.Below
import Derived.Deep.Draws
import Derived.Outline
import Derived.LoopN
import Derived.Handy
import Derived.Laws.Externs
import Derived.Laws.BitsAllLaws
import Derived.Laws.BitsLemmas
import Derived.Deep.DeepCutAuto
import Derived.Deep.CutBlock
import Derived.Deep.RegionHeld3
import Derived.Test.YthikkajjnfeigaaR10
namespace Go.Proofs.Ythikkajjnfeigaa
set_option linter.unusedVariables false
/-- p bits of A are still to be brought down. -/
structure DvI (A B p Q R : Nat) : Prop where
  lt : R < B
  d : 2 ^ p ∣ Q
  eq : A = Q * B + R * 2 ^ p + A % 2 ^ p
def bitOf (A p : Nat) : Nat := A / 2 ^ p % 2
theorem bitOf_le (A p : Nat) : bitOf A p ≤ 1 := by unfold bitOf; omega
theorem DvI.split {A B p Q R : Nat} (h : DvI A B (p + 1) Q R) : A = Q * B + (2 * R + bitOf A p) * 2 ^ p + A % 2 ^ p := by
  have e := h.eq
  rw [Nat.mod_pow_succ, Nat.pow_succ, show A / 2 ^ p % 2 = bitOf A p from rfl] at e
  generalize A % 2 ^ p = s at *
  generalize bitOf A p = b at *
  have e1 : (2 * R + b) * 2 ^ p = R * (2 ^ p * 2) + 2 ^ p * b := by
    rw [Nat.add_mul, Nat.mul_comm 2 R, Nat.mul_assoc R, Nat.mul_comm 2 (2 ^ p), Nat.mul_comm b]
  omega
theorem DvI.low {A B p Q R : Nat} (h : DvI A B (p + 1) Q R) (hl : 2 * R + bitOf A p < B) : DvI A B p Q (2 * R + bitOf A p) :=
  ⟨hl, Nat.dvd_trans ⟨2, Nat.pow_succ ..⟩ h.d, h.split⟩
theorem DvI.high {A B p Q R : Nat} (h : DvI A B (p + 1) Q R) (hl : B ≤ 2 * R + bitOf A p) : DvI A B p (Q + 2 ^ p) (2 * R + bitOf A p - B) := by
  have e := h.split
  have hlt := h.lt
  have hb := bitOf_le A p
  refine ⟨by omega, Nat.dvd_add (Nat.dvd_trans ⟨2, Nat.pow_succ ..⟩ h.d) (Nat.dvd_refl _), ?_⟩
  obtain ⟨r, hr⟩ : ∃ r, 2 * R + bitOf A p = B + r := ⟨2 * R + bitOf A p - B, by omega⟩
  rw [hr] at e ⊢
  rw [show B + r - B = r by omega]
  generalize A % 2 ^ p = s at *
  rw [Nat.add_mul] at e
  rw [Nat.add_mul, Nat.mul_comm (2 ^ p) B]
  omega
theorem DvI.start {A B k : Nat} (hA : A < 2 ^ k) (hB : 0 < B) : DvI A B k 0 0 := ⟨hB, Nat.dvd_zero _, by rw [Nat.mod_eq_of_lt hA]; omega⟩
theorem DvI.done {A B Q R : Nat} (h : DvI A B 0 Q R) : Q = A / B ∧ R = A % B := by
  have e := h.eq
  have hlt := h.lt
  rw [Nat.pow_zero, Nat.mul_one, Nat.mod_one, Nat.add_zero] at e
  rw [e, Nat.mul_comm Q B, Nat.mul_add_div (by omega), Nat.div_eq_of_lt hlt, Nat.mul_add_mod, Nat.mod_eq_of_lt hlt]
  exact ⟨rfl, rfl⟩
theorem pow16 (i : Nat) : 65536 ^ i = 2 ^ (16 * i) := by rw [Nat.pow_mul]
/-- The bit that comes down, out of digit i. -/
theorem bit_dig {A i t d : Nat} (ed : (dig A).getD i 0 = d) (ht : t < 16) : d / 2 ^ t % 2 = bitOf A (16 * i + t) := by
  rw [dig_get, pow16] at ed
  rw [bitOf, Nat.pow_add, ← Nat.div_div_eq_div_mul, ← ed]
  generalize A / 2 ^ (16 * i) = X
  have e : 65536 = 2 ^ t * 2 ^ (16 - t) := by rw [← Nat.pow_add, show t + (16 - t) = 16 by omega]
  rw [e, Nat.mod_mul_right_div_self, show 16 - t = (15 - t) + 1 by omega, Nat.pow_succ, Nat.mod_mul_left_mod]
/-- The quotient's digit i takes its bit t. -/
structure QI (i t : Nat) (L : List Nat) (Q : Nat) : Prop where
  dg : Digs L
  v : val L = Q
  z : ∀ j, j < i → L.getD j 0 = 0
  d : 2 ^ t ∣ L.getD i 0
theorem QI.set {i t Q : Nat} {L : List Nat} (h : QI i (t + 1) L Q) (ht : t < 16) (hi : i < L.length) : L.getD i 0 + 2 ^ t < 65536 ∧ QI i t (L.set i (L.getD i 0 + 2 ^ t)) (Q + 2 ^ (16 * i + t)) := by
  obtain ⟨dg, v, z, d⟩ := h
  have h1 := getD_lt dg i
  have h2 : L.getD i 0 + 2 ^ t < 65536 := by
    obtain ⟨m, hm⟩ := d
    rw [hm] at h1 ⊢
    have e : 65536 = 2 ^ (t + 1) * 2 ^ (15 - t) := by rw [← Nat.pow_add, show t + 1 + (15 - t) = 16 by omega]
    rw [e] at h1 ⊢
    have hm2 : m < 2 ^ (15 - t) := Nat.lt_of_mul_lt_mul_left h1
    have h3 : 2 ^ (t + 1) * (m + 1) ≤ 2 ^ (t + 1) * 2 ^ (15 - t) := Nat.mul_le_mul_left _ hm2
    rw [Nat.mul_add] at h3
    have h4 : 2 ^ t < 2 ^ (t + 1) := Nat.pow_lt_pow_right (by omega) (by omega)
    omega
  have hg : (L.set i (L.getD i 0 + 2 ^ t)).getD i 0 = L.getD i 0 + 2 ^ t := by rw [List.getD_eq_getElem?_getD, List.getElem?_set_self hi]; rfl
  refine ⟨h2, digs_set dg h2, ?_, fun j hj => ?_, ?_⟩
  · have hv := val_set (l := L) (i := i) (x := L.getD i 0 + 2 ^ t) hi
    rw [Nat.add_mul, v, Nat.pow_add, ← pow16] at *
    rw [Nat.mul_comm (65536 ^ i) (2 ^ t)]
    omega
  · rw [List.getD_eq_getElem?_getD, List.getElem?_set_ne (by omega), ← List.getD_eq_getElem?_getD]; exact z j hj
  · rw [hg]
    exact Nat.dvd_add (Nat.dvd_trans ⟨2, Nat.pow_succ ..⟩ d) (Nat.dvd_refl _)
theorem QI.skip {i t Q : Nat} {L : List Nat} (h : QI i (t + 1) L Q) : QI i t L Q := ⟨h.dg, h.v, h.z, Nat.dvd_trans ⟨2, Nat.pow_succ ..⟩ h.d⟩
theorem QI.next {i Q : Nat} {L : List Nat} (h : QI (i + 1) 0 L Q) : QI i 16 L Q := ⟨h.dg, h.v, fun j hj => h.z j (by omega), by rw [h.z i (by omega)]; exact Nat.dvd_zero _⟩
/-- The remainder's digits doubled: k of them are done. -/
structure DbI (L0 : List Nat) (b k ov : Nat) (L : List Nat) : Prop where
  len : L.length = L0.length
  dg : Digs L
  ov1 : ov ≤ 1
  rest : ∀ j, k ≤ j → L.getD j 0 = L0.getD j 0
  eq : val (L.take k) + ov * 65536 ^ k = 2 * val (L0.take k) + b
theorem DbI.start {L0 : List Nat} (h : Digs L0) {b : Nat} (hb : b ≤ 1) : DbI L0 b 0 b L0 := ⟨rfl, h, hb, fun _ _ => rfl, by simp [val]⟩
theorem DbI.step {L0 : List Nat} {b k ov e : Nat} {L : List Nat} (h : DbI L0 b k ov L) (hk : k < L0.length) (h0 : Digs L0) (ee : L.getD k 0 = e) :
    (ov + 2 * e) % 65536 < 65536 ∧ DbI L0 b (k + 1) ((ov + 2 * e) / 65536) (L.set k ((ov + 2 * e) % 65536)) := by
  obtain ⟨len, dg, ov1, rest, eq⟩ := h
  have he : e < 65536 := by rw [← ee]; exact getD_lt dg _
  refine ⟨by omega, by rw [List.length_set]; exact len, digs_set dg (by omega), by omega, fun j hj => ?_, ?_⟩
  · rw [List.getD_eq_getElem?_getD, List.getElem?_set_ne (by omega), ← List.getD_eq_getElem?_getD]; exact rest j (by omega)
  · have hkl : k < (L.set k ((ov + 2 * e) % 65536)).length := by rw [List.length_set]; omega
    rw [val_take_succ hkl, val_take_succ hk, List.take_set_of_le (by omega)]
    have e2 : (L.set k ((ov + 2 * e) % 65536)).getD k 0 = (ov + 2 * e) % 65536 := by rw [List.getD_eq_getElem?_getD, List.getElem?_set_self (by omega)]; rfl
    rw [e2, ← rest k (Nat.le_refl _), ee, Nat.pow_succ]
    have e3 : (ov + 2 * e) % 65536 * 65536 ^ k + (ov + 2 * e) / 65536 * (65536 ^ k * 65536) = (ov + 2 * e) * 65536 ^ k := by
      rw [Nat.mul_comm (65536 ^ k) 65536, ← Nat.mul_assoc, ← Nat.add_mul]; congr 1; omega
    have e4 : (ov + 2 * e) * 65536 ^ k = ov * 65536 ^ k + 2 * (e * 65536 ^ k) := by rw [Nat.add_mul, Nat.mul_assoc]
    rw [Nat.mul_add]
    omega
theorem DbI.done {L0 : List Nat} {b ov : Nat} {L : List Nat} (h : DbI L0 b L0.length ov L) (hlt : 2 * val L0 + b < 65536 ^ L0.length) : val L = 2 * val L0 + b := by
  have e := h.eq
  rw [val_take_all (Nat.le_refl _), List.take_of_length_le (by rw [h.len]; omega)] at e
  have : ov = 0 := by
    rcases Nat.eq_zero_or_pos ov with h0 | h0
    · exact h0
    · have := Nat.mul_le_mul_right (65536 ^ L0.length) h0
      omega
  rw [this] at e
  omega
end Go.Proofs.Ythikkajjnfeigaa
