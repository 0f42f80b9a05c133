/- EdgeUint256, walked: whatever its arguments, a 256-bit number. -/
import Derived.WalkKit
import Derived.KernelRfl
import Derived.RowKit3
import Derived.Deep.LoopGhost
import Derived.Deep.QuietTactic
import Derived.BigQuiet
import Derived.WideLaws
import Derived.Laws.Rows
import Derived.Below
import Derived.Deep.Draws
import Derived.Outline
import Derived.LoopN
import Derived.Handy
import Derived.Laws.Externs
import Derived.Laws.BitsAllLaws
import Derived.Laws.BitsLemmas
import Derived.Deep.DeepCutAuto
import Derived.Deep.CutBlock
import Derived.Deep.RegionHeld3
import Derived.Test.YtphnmolndhnnpaaU
namespace Go.Proofs.Ytphnmolndhnnpaa
open Go.RowKit
set_option linter.unusedVariables false
set_option linter.unusedSimpArgs false
theorem wrap_id {x : Int} (h0 : 0 ≤ x) (h1 : x < 18446744073709551616) : IntKind.u64.wrap x = x := by rw [IntKind.wrap_u64]; omega
def modV (x n : Int) : Int := x % 18446744073709551616 % n
theorem mod_c {x n : Int} (n0 : 0 < n) (n1 : n < 4294967296) (w : World) :
    Calls Try.prog 39 #[.int .i64 x, .int .i64 n] w fun e w' => e = .returned (.int .i64 (modV x n)) ∧ w = w' := by
  have h1 : IntKind.u64.wrap x = x % 18446744073709551616 := IntKind.wrap_u64 x
  have h2 : IntKind.u64.wrap n = n := wrap_id (by omega) (by omega)
  have hx0 : 0 ≤ x % 18446744073709551616 := by omega
  have h3 : (x % 18446744073709551616).tmod n = modV x n := Int.tmod_eq_emod_of_nonneg hx0
  have hr0 : 0 ≤ modV x n := Int.emod_nonneg _ (by omega)
  have hr1 : modV x n < n := Int.emod_lt_of_pos _ n0
  have h4 : IntKind.i64.wrap (modV x n) = modV x n := by rw [IntKind.wrap_i64]; omega
  have h5 : IntKind.u64.wrap (modV x n) = modV x n := wrap_id hr0 (by omega)
  have hn : (n == 0) = false := by simp; omega
  have hn' : ¬ n = 0 := by omega
  go_enter Try.func39, Try.ntmps39
  go_wp2
  go_ret
  exact ⟨rfl, rfl⟩
theorem edge_fin {x0 x1 x2 x3 : Int} (h : (0 ≤ x0 ∧ x0 < 18446744073709551616) ∧ (0 ≤ x1 ∧ x1 < 18446744073709551616) ∧ (0 ≤ x2 ∧ x2 < 18446744073709551616) ∧ (0 ≤ x3 ∧ x3 < 18446744073709551616)) {P : Prop} (hp : P) :
    ∃ N, N < M256 ∧ (Ending.returned (.agg #[.int .u64 x0, .int .u64 x1, .int .u64 x2, .int .u64 x3]) = Ending.returned (.agg #[.int .u64 (lim N 0), .int .u64 (lim N 1), .int .u64 (lim N 2), .int .u64 (lim N 3)])) ∧ P := by
  obtain ⟨N, hN⟩ := isU_ex h.1.1 h.2.1.1 h.2.2.1.1 h.2.2.2.1 h.1.2 h.2.1.2 h.2.2.1.2 h.2.2.2.2
  obtain ⟨e0, e1, e2, e3⟩ := hN.lims
  refine ⟨N, hN.lt, ?_, hp⟩
  rw [← e0, ← e1, ← e2, ← e3]
set_option maxHeartbeats 8000000 in
theorem edge_c {a b : Int} (a0 : 0 ≤ a) (a1 : a < 18446744073709551616) (b0 : 0 ≤ b) (b1 : b < 18446744073709551616) (s : Int) (w : World) :
    Calls Try.prog 26 #[.int .u64 a, .int .u64 b, .int .i64 s] w fun e w' => ∃ N, N < M256 ∧ e = .returned (.agg #[.int .u64 (lim N 0), .int .u64 (lim N 1), .int .u64 (lim N 2), .int .u64 (lim N 3)]) ∧ Below w.heap.size w w' := by
  have HM := hide (fun w => mod_c (x := s) (n := 9) (by omega) (by omega) w)
  have hr0 : 0 ≤ modV s 9 := Int.emod_nonneg _ (by omega)
  have hr1 : modV s 9 < 9 := Int.emod_lt_of_pos _ (by omega)
  obtain ⟨r, hr⟩ : ∃ r, modV s 9 = r := ⟨_, rfl⟩
  rw [hr] at HM hr0 hr1
  have ha4 : a.tmod 4 = a % 4 := Int.tmod_eq_emod_of_nonneg a0
  have hb4 : b.tmod 4 = b % 4 := Int.tmod_eq_emod_of_nonneg b0
  have ha16 : a.tmod 16 = a % 16 := Int.tmod_eq_emod_of_nonneg a0
  obtain ⟨t, ht⟩ : ∃ t : Nat, b % 64 = (t : Int) := ⟨(b % 64).toNat, by omega⟩
  have hb64 : b.tmod 64 = (t : Int) := by rw [Int.tmod_eq_emod_of_nonneg b0, ht]
  have ht64 : t < 64 := by omega
  have hcase : r = 0 ∨ r = 1 ∨ r = 2 ∨ r = 3 ∨ r = 4 ∨ r = 5 ∨ r = 6 ∨ r = 7 ∨ r = 8 := by omega
  clear hr0 hr1 hr ht
  rcases hcase with rfl | rfl | rfl | rfl | rfl | rfl | rfl | rfl | rfl
  all_goals
    go_enter Try.func26, Try.ntmps26
    go_wp2_with fail
    refine (HM.out _).mono ?_
    rintro e w1 ⟨rfl, rfl⟩
    go_wp2
    go_returns
    refine edge_fin ?_ (by (repeat' (first | (with_reducible exact Below.refl _ _) | (with_reducible assumption) | (with_reducible refine Below.alloc ?_ ?_ _) | (with_reducible refine Below.drew ?_) | (with_reducible refine below_drewN ?_ _) | (with_reducible refine Below.setCell ?_ ?_ _) | (with_reducible refine below_step (by with_reducible assumption) ?_ ?_) | (first | (with_reducible exact Nat.le_refl _) | (with_reducible assumption) | omega | (simp only [World.size_alloc, World.size_setCell, World.size_drew, size_drewN]; omega) | (simp; omega) | (simp; done)))))
    (try simp only [IntKind.wrap_u64])
    omega
end Go.Proofs.Ytphnmolndhnnpaa
