/- Chapter 5: the examples, Mod, the plain laws. -/
import Derived.WalkKit
import Derived.KernelRfl
import Derived.RowKit3
import Derived.Deep.LoopGhost
import Derived.Deep.QuietTactic
import Derived.BigQuiet
import Derived.WideLaws
import Derived.Laws.Rows
import Derived.Below
import Derived.Deep.Draws
import Derived.Outline
import Derived.LoopN
import Derived.Handy
import Derived.Laws.Externs
import Derived.Laws.BitsAllLaws
import Derived.Laws.BitsLemmas
import Derived.Deep.DeepCutAuto
import Derived.Deep.CutBlock
import Derived.Deep.RegionHeld3
import Derived.Test.YteehlkdhgjdpaaaE1
import Derived.Test.YteehlkdhgjdpaaaO
namespace Go.Proofs.Yteehlkdhgjdpaaa
open Go.RowKit
set_option linter.unusedVariables false
set_option linter.unusedSimpArgs false
def modV (x n : Int) : Int := x % 18446744073709551616 % n
theorem mod_c {x n : Int} (n0 : 0 < n) (n1 : n < 4294967296) (w : World) :
    Calls Try.prog 8 #[.int .i64 x, .int .i64 n] w fun e w' => e = .returned (.int .i64 (modV x n)) ∧ w = w' := by
  have h1 : IntKind.u64.wrap x = x % 18446744073709551616 := IntKind.wrap_u64 x
  have h2 : IntKind.u64.wrap n = n := wrap_id (by omega) (by omega)
  have hx0 : 0 ≤ x % 18446744073709551616 := by omega
  have h3 : (x % 18446744073709551616).tmod n = modV x n := Int.tmod_eq_emod_of_nonneg hx0
  have hr0 : 0 ≤ modV x n := Int.emod_nonneg _ (by omega)
  have hr1 : modV x n < n := Int.emod_lt_of_pos _ n0
  have h4 : IntKind.i64.wrap (modV x n) = modV x n := by rw [IntKind.wrap_i64]; omega
  have h5 : IntKind.u64.wrap (modV x n) = modV x n := wrap_id hr0 (by omega)
  have hn : (n == 0) = false := by simp; omega
  have hn' : ¬ n = 0 := by omega
  go_enter Try.func8, Try.ntmps8
  go_wp2
  go_ret
  exact ⟨rfl, rfl⟩
theorem modV_w {x n : Int} (n0 : 0 < n) : 0 ≤ modV x n ∧ modV x n < n := ⟨Int.emod_nonneg _ (by omega), Int.emod_lt_of_pos _ n0⟩
theorem tmod_ex {x K : Int} (h : 0 ≤ x) (hK : 0 < K) : ∃ y, x.tmod K = y ∧ 0 ≤ y ∧ y < K := ⟨_, rfl, Int.tmod_nonneg _ h, Int.tmod_lt_of_pos _ hK⟩
set_option maxHeartbeats 4000000 in
theorem awake5_c (w : World) : Calls Try.prog 11 #[] w fun e w' => e = .returned (.bool true) ∧ Below w.heap.size w w' := by
  obtain ⟨f1, f2, f3, f4, f5, f6, f7⟩ := exp_ex
  obtain ⟨p0, p1, p2, p3⟩ := lim_one (n := 2) (by omega)
  obtain ⟨r0, r1, r2, r3⟩ := lim_one (n := 8) (by omega)
  go_enter Try.func11, Try.ntmps11
  go_wp2_with fail
  refine (exp_c (by omega) (by omega) _).mono ?_
  rintro e w1 ⟨rfl, hb1⟩
  have hs1 := hb1.size
  try simp only [World.size_alloc, World.size_setCell, World.size_drew, size_drewN] at hs1
  go_wp2_with fail
  refine (exp_c (by omega) (by omega) _).mono ?_
  rintro e w2 ⟨rfl, hb2⟩
  have hs2 := hb2.size
  try simp only [World.size_alloc, World.size_setCell, World.size_drew, size_drewN] at hs2
  go_wp2_with fail
  refine (split_c (one_of (n := 10) (by omega)) (by omega) (by omega) _).mono ?_
  rintro e w3 ⟨rfl, hb3⟩
  have hs3 := hb3.size
  try simp only [World.size_alloc, World.size_setCell, World.size_drew, size_drewN] at hs3
  go_wp2
  go_ret
  exact ⟨rfl, (by (repeat' (first | (with_reducible exact Below.refl _ _) | (with_reducible assumption) | (with_reducible refine Below.alloc ?_ ?_ _) | (with_reducible refine Below.drew ?_) | (with_reducible refine below_drewN ?_ _) | (with_reducible refine Below.setCell ?_ ?_ _) | (with_reducible refine below_step (by with_reducible assumption) ?_ ?_) | (first | (with_reducible exact Nat.le_refl _) | (with_reducible assumption) | omega | (simp only [World.size_alloc, World.size_setCell, World.size_drew, size_drewN]; omega) | (simp; omega) | (simp; done)))))⟩
theorem exp_facts {a b m n : Int} (a0 : 0 ≤ a) (ab : a ≤ b) (b1 : b ≤ 200000) (m0 : 1 ≤ m) (mn : m ≤ n) (n1 : n ≤ 20) :
    expE a m = 0 ∧ expE b m = 0 ∧ expE a n = 0 ∧ expE 0 n = 0 ∧ expV 0 n = 10000 ∧ 10000 + a ≤ expV a m ∧ expV a m ≤ expV b m ∧ expV a m ≤ expV a n := by
  have k1 : ¬ (a > 200000 ∨ m < 1 ∨ m > 20) := by omega
  have k2 : ¬ (b > 200000 ∨ m < 1 ∨ m > 20) := by omega
  have k3 : ¬ (a > 200000 ∨ n < 1 ∨ n > 20) := by omega
  have k4 : ¬ ((0 : Int) > 200000 ∨ n < 1 ∨ n > 20) := by omega
  unfold expE expV
  rw [if_neg k1, if_neg k2, if_neg k3, if_neg k4, if_neg k1, if_neg k2, if_neg k3, if_neg k4]
  obtain ⟨M, hM⟩ : ∃ M, m.toNat = M + 1 := ⟨m.toNat - 1, by omega⟩
  obtain ⟨D, hD⟩ : ∃ D, n.toNat = m.toNat + D := ⟨n.toNat - m.toNat, by omega⟩
  refine ⟨rfl, rfl, rfl, rfl, expGo_zero _, ?_, expGo_mono a0 ab _ _ _ (by omega) (Int.le_refl _), ?_⟩
  · rw [hM]; exact expGo_first a0 M _ (Int.le_refl _)
  · rw [hD]; exact expGo_terms a0 _ D _ (Int.le_refl _)
theorem sp_facts {A : Nat} (hA : A < M256) {b : Int} (b0 : 0 ≤ b) (h : b ≤ 10000) : spE b = 0 ∧ spV A b = A * b.toNat / 10000 ∧ spV A b ≤ A ∧ spR A b = A - spV A b := by
  have hn : ¬ b > 10000 := by omega
  have h1 := (sc_ok (A := A) hA h).2
  rw [spE, spV, spR, if_neg hn, if_neg hn, if_neg hn, mdV_eq h1]
  have hle : A * b.toNat / 10000 ≤ A := Nat.div_le_of_le_mul (by rw [Nat.mul_comm 10000]; exact Nat.mul_le_mul_left A (by omega))
  refine ⟨rfl, rfl, hle, ?_⟩
  rw [subV, if_neg (by omega)]
theorem sp_mono {A : Nat} {x y : Int} (h : x ≤ y) : A * x.toNat / 10000 ≤ A * y.toNat / 10000 := Nat.div_le_div_right (Nat.mul_le_mul_left A (by omega))
end Go.Proofs.Yteehlkdhgjdpaaa
