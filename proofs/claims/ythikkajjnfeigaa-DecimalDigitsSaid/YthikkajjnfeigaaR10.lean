/- Package pontageref1, walked: short (the division by one digit). -/
import Derived.WalkKit
import Derived.KernelRfl
import Derived.RowKit3
import Derived.Deep.LoopGhost
import Derived.Deep.QuietTactic
import Derived.BigQuiet
import Derived.WideLaws
import Derived.Laws.Rows
import Derived.Below
import Derived.Deep.Draws
import Derived.Outline
import Derived.LoopN
import Derived.Handy
import Derived.Laws.Externs
import Derived.Laws.BitsAllLaws
import Derived.Laws.BitsLemmas
import Derived.Deep.DeepCutAuto
import Derived.Deep.CutBlock
import Derived.Deep.RegionHeld3
import Derived.Test.YthikkajjnfeigaaR7
namespace Go.Proofs.Ythikkajjnfeigaa
open Go.RowKit
set_option linter.unusedVariables false
set_option linter.unusedSimpArgs false
/-- What short keeps: the digits from i on are divided. -/
structure ShI (A m i left : Nat) (L : List Nat) : Prop where
  len : L.length = nd A
  dg : Digs L
  z : ∀ j, j < i → L.getD j 0 = 0
  l : left = A / 65536 ^ i % m
  eq : val L = A / 65536 ^ i / m * 65536 ^ i
theorem ShI.start (A m : Nat) : ShI A m (nd A) 0 (List.replicate (nd A) 0) := by
  have h := Nat.div_eq_of_lt (nd_lt A)
  refine ⟨by simp, digs_rep _, fun j hj => ?_, by rw [h]; simp, by rw [h, val_rep]; simp⟩
  rw [List.getD_eq_getElem?_getD, List.getElem?_replicate]
  split <;> rfl
theorem ShI.step {A m k left d : Nat} {L : List Nat} (hm : 0 < m) (h : ShI A m (k + 1) left L) (ed : (dig A).getD k 0 = d) (hk : k < nd A) :
    (65536 * left + d) / m < 65536 ∧ ShI A m k ((65536 * left + d) % m) (L.set k ((65536 * left + d) / m)) := by
  obtain ⟨len, dg, z, l, eq⟩ := h
  have hd : d < 65536 := by rw [← ed]; exact getD_lt (digs_dig A) k
  have hlm : left < m := by rw [l]; exact Nat.mod_lt _ hm
  have hq : (65536 * left + d) / m < 65536 := Nat.div_lt_of_lt_mul (by
    have : (left + 1) * 65536 ≤ m * 65536 := Nat.mul_le_mul_right _ hlm
    omega)
  obtain ⟨X, hX⟩ : ∃ X, A / 65536 ^ k = X := ⟨_, rfl⟩
  have hY : A / 65536 ^ (k + 1) = X / 65536 := by rw [Nat.pow_succ, ← Nat.div_div_eq_div_mul, hX]
  rw [dig_get, hX] at ed
  rw [hY] at l eq
  obtain ⟨Y, hYe⟩ : ∃ Y, X / 65536 = Y := ⟨_, rfl⟩
  rw [hYe] at l eq
  have hXY : X = m * (65536 * (Y / m)) + (65536 * left + d) := by
    have h1 : m * (Y / m) + Y % m = Y := Nat.div_add_mod Y m
    rw [← l] at h1
    rw [Nat.mul_left_comm]
    omega
  refine ⟨hq, by rw [List.length_set]; exact len, digs_set dg hq, fun j hj => ?_, ?_, ?_⟩
  · rw [List.getD_eq_getElem?_getD, List.getElem?_set_ne (by omega), ← List.getD_eq_getElem?_getD]; exact z j (by omega)
  · rw [hX, hXY, Nat.mul_add_mod]
  · have hv := val_set (l := L) (i := k) (x := (65536 * left + d) / m) (by omega)
    rw [z k (by omega)] at hv
    rw [hX]
    have : X / m = 65536 * (Y / m) + (65536 * left + d) / m := by rw [hXY, Nat.mul_add_div hm]
    have e1 : 65536 * (Y / m) * 65536 ^ k = Y / m * 65536 ^ (k + 1) := by rw [Nat.pow_succ, Nat.mul_comm 65536 (Y / m), Nat.mul_assoc, Nat.mul_comm 65536 (65536 ^ k)]
    rw [this, Nat.add_mul, e1]
    rw [Nat.zero_mul] at hv
    omega
theorem ShI.done {A m left : Nat} {L : List Nat} (h : ShI A m 0 left L) : val L = A / m ∧ left = A % m := by
  obtain ⟨len, dg, z, l, eq⟩ := h
  rw [Nat.pow_zero, Nat.div_one] at l eq
  rw [Nat.mul_one] at eq
  exact ⟨eq, l⟩
end Go.Proofs.Ythikkajjnfeigaa
