/- uint256.Uint64, walked. -/
import Derived.WalkKit
import Derived.KernelRfl
import Derived.RowKit3
import Derived.Deep.LoopGhost
import Derived.Deep.QuietTactic
import Derived.BigQuiet
import Derived.WideLaws
import Derived.Laws.Rows
import Derived.Below
import Derived.Deep.Draws
import Derived.Outline
import Derived.LoopN
import Derived.Handy
import Derived.Laws.Externs
import Derived.Laws.BitsAllLaws
import Derived.Laws.BitsLemmas
import Derived.Deep.DeepCutAuto
import Derived.Deep.CutBlock
import Derived.Deep.RegionHeld3
import Derived.Test.YtbnpgecpanfpiaaU
namespace Go.Proofs.Ytbnpgecpanfpiaa
open Go.RowKit
set_option linter.unusedVariables false
set_option linter.unusedSimpArgs false
theorem or_zero (x y : Nat) : x ||| y = 0 ↔ x = 0 ∧ y = 0 := by
  constructor
  · intro h
    have h1 : x ≤ x ||| y := Nat.left_le_or
    have h2 : y ≤ x ||| y := Nat.right_le_or
    omega
  · rintro ⟨rfl, rfl⟩; rfl
theorem bits_or_zero {x y : Int} (hx : 0 ≤ x) (hx' : x < 18446744073709551616) (hy : 0 ≤ y) (hy' : y < 18446744073709551616) : bits .or .u64 x y = 0 ↔ x = 0 ∧ y = 0 := by
  obtain ⟨X, rfl⟩ := Int.eq_ofNat_of_zero_le hx
  obtain ⟨Y, rfl⟩ := Int.eq_ofNat_of_zero_le hy
  rw [bits_or_u64_nat X Y (by omega) (by omega)]
  have := or_zero X Y
  omega
/-- The test on a product above the fourth limb. -/
theorem or2_zero {x y : Int} (hx : 0 ≤ x) (hx' : x < 18446744073709551616) (hy : 0 ≤ y) (hy' : y < 18446744073709551616) : 0 ≤ bits .or .u64 x y ∧ bits .or .u64 x y < 18446744073709551616 := by
  obtain ⟨X, rfl⟩ := Int.eq_ofNat_of_zero_le hx
  obtain ⟨Y, rfl⟩ := Int.eq_ofNat_of_zero_le hy
  rw [bits_or_u64_nat X Y (by omega) (by omega)]
  have : X ||| Y < 2 ^ 64 := Nat.or_lt_two_pow (by omega) (by omega)
  omega
/-- What uint256.Uint64 answers: the number, and whether it fits. -/
def u64V (A : Nat) : Int := if A < 18446744073709551616 then (A : Int) else 0
def u64B (A : Nat) : Bool := decide (A < 18446744073709551616)
theorem u64_test {A : Nat} {a0 a1 a2 a3 : Int} (h : isU A a0 a1 a2 a3) : bits .or .u64 (bits .or .u64 a1 a2) a3 = 0 ↔ A < 18446744073709551616 := by
  obtain ⟨p0, p1, p2, p3, q0, q1, q2, q3, v⟩ := h
  obtain ⟨x, y⟩ := or2_zero p1 q1 p2 q2
  rw [bits_or_zero x y p3 q3, bits_or_zero p1 q1 p2 q2]
  omega
theorem u64_c {A : Nat} {a0 a1 a2 a3 : Int} (hA : isU A a0 a1 a2 a3) (w : World) :
   Calls Try.prog 30 #[.agg #[.int .u64 a0, .int .u64 a1, .int .u64 a2, .int .u64 a3]] w fun e w' => e = .returned (.tuple #[.int .u64 (u64V A), .bool (u64B A)]) ∧ Below w.heap.size w w' := by
  have T := u64_test hA
  have v := hA.val
  by_cases h : A < 18446744073709551616
  · have t : (bits .or .u64 (bits .or .u64 a1 a2) a3 != 0) = false := by simpa using T.2 h
    have e1 : u64V A = a0 := by unfold u64V; rw [if_pos h]; have := hA.p1; have := hA.p2; have := hA.p3; have := hA.p0; omega
    have e2 : u64B A = true := decide_eq_true h
    rw [e1, e2]
    clear T v h e1 e2 hA
    go_enter Try.func30, Try.ntmps30
    go_wp2
    go_ret2
    exact ⟨rfl, (by (repeat' (first | (with_reducible exact Below.refl _ _) | (with_reducible assumption) | (with_reducible refine Below.alloc ?_ ?_ _) | (with_reducible refine Below.drew ?_) | (with_reducible refine below_drewN ?_ _) | (with_reducible refine Below.setCell ?_ ?_ _) | (with_reducible refine below_step (by with_reducible assumption) ?_ ?_) | (first | (with_reducible exact Nat.le_refl _) | (with_reducible assumption) | omega | (simp only [World.size_alloc, World.size_setCell, World.size_drew, size_drewN]; omega) | (simp; omega) | (simp; done)))))⟩
  · have t : (bits .or .u64 (bits .or .u64 a1 a2) a3 != 0) = true := by simpa using fun x => h (T.1 x)
    have e1 : u64V A = 0 := by unfold u64V; rw [if_neg h]
    have e2 : u64B A = false := decide_eq_false h
    rw [e1, e2]
    clear T v h e1 e2 hA
    go_enter Try.func30, Try.ntmps30
    go_wp2
    go_ret2
    exact ⟨rfl, (by (repeat' (first | (with_reducible exact Below.refl _ _) | (with_reducible assumption) | (with_reducible refine Below.alloc ?_ ?_ _) | (with_reducible refine Below.drew ?_) | (with_reducible refine below_drewN ?_ _) | (with_reducible refine Below.setCell ?_ ?_ _) | (with_reducible refine below_step (by with_reducible assumption) ?_ ?_) | (first | (with_reducible exact Nat.le_refl _) | (with_reducible assumption) | omega | (simp only [World.size_alloc, World.size_setCell, World.size_drew, size_drewN]; omega) | (simp; omega) | (simp; done)))))⟩
end Go.Proofs.Ytbnpgecpanfpiaa
