/- Package pontageref1, walked: Checked, Uint64, Max256, FromUint64. -/
import Derived.WalkKit
import Derived.KernelRfl
import Derived.RowKit3
import Derived.Deep.LoopGhost
import Derived.Deep.QuietTactic
import Derived.BigQuiet
import Derived.WideLaws
import Derived.Laws.Rows
import Derived.Below
import Derived.Deep.Draws
import Derived.Outline
import Derived.LoopN
import Derived.Handy
import Derived.Laws.Externs
import Derived.Laws.BitsAllLaws
import Derived.Laws.BitsLemmas
import Derived.Deep.DeepCutAuto
import Derived.Deep.CutBlock
import Derived.Deep.RegionHeld3
import Derived.Test.YthikkajjnfeigaaR3
namespace Go.Proofs.Ythikkajjnfeigaa
open Go.RowKit
set_option linter.unusedVariables false
set_option linter.unusedSimpArgs false
theorem m256_16 : M256 = 65536 ^ 16 := by decide +kernel
theorem nd16 {N : Nat} : nd N ≤ 16 ↔ N < M256 := by
  rw [m256_16]
  exact ⟨lt_of_nd, nd_le_of⟩
def chkV (N : Nat) : Nat := if N < M256 then N else 0
def chkE (N : Nat) : Int := if N < M256 then 0 else 4
theorem chkV_add (A B : Nat) : chkV (A + B) = addV A B := rfl
theorem chkE_add (A B : Nat) : chkE (A + B) = addE A B := rfl
theorem chkV_mul (A B : Nat) : chkV (A * B) = mulV A B := rfl
theorem chkE_mul (A B : Nat) : chkE (A * B) = mulE A B := rfl
theorem chkV_lt (N : Nat) : chkV N < M256 := by unfold chkV; split <;> first | assumption | decide
/-- ToUint256 of a number that fits. -/
theorem toU_big {N n c : Nat} {ad : Option Addr} {w : World} (h : Hid (Big w ad n c N)) (hlen : n ≤ 100000) (hN : N < M256) :
    Calls Try.prog 40 #[.slice ad n c] w fun e w' => e = .returned (.agg #[.int .u64 (lim N 0), .int .u64 (lim N 1), .int .u64 (lim N 2), .int .u64 (lim N 3)]) ∧ Below w.heap.size w w' := by
  have := toU_c (digs_dig N) ad n c (hide h.out.hn) hlen w (hide h.out.row)
  rwa [List.take_of_length_le (nd16.2 hN), val_dig] at this
theorem fits_c (ad : Option Addr) (n c : Nat) (w : World) :
    Calls Try.prog 39 #[.slice ad n c] w fun e w' => e = .returned (.bool (decide (n ≤ 16))) ∧ w = w' := by
  go_enter Try.func39, Try.ntmps39
  go_wp2
  go_ret
  refine ⟨?_, rfl⟩
  show Ending.returned (Value.bool (decide ((n : Int) ≤ 16))) = _
  rw [decide_eq_decide.2 (show (n : Int) ≤ 16 ↔ n ≤ 16 by omega)]
set_option maxHeartbeats 1000000 in
theorem checked_c {N n c : Nat} {ad : Option Addr} {w : World} (h : Hid (Big w ad n c N)) (hlen : n ≤ 100000) :
    Calls Try.prog 29 #[.slice ad n c] w fun e w' => e = .returned (.tuple #[.agg #[.int .u64 (lim (chkV N) 0), .int .u64 (lim (chkV N) 1), .int .u64 (lim (chkV N) 2), .int .u64 (lim (chkV N) 3)], .int .i64 (chkE N)]) ∧ Below w.heap.size w w' := by
  by_cases hN : N < M256
  · have t : decide (n ≤ 16) = true := decide_eq_true (by rw [h.out.hn]; exact nd16.2 hN)
    rw [chkV, chkE, if_pos hN, if_pos hN]
    have HN := hide hN
    clear hN
    go_enter Try.func29, Try.ntmps29
    go_wp2_with fail
    refine (fits_c _ _ _ _).mono ?_
    rintro e w1 ⟨rfl, rfl⟩
    go_wp2_with fail
    refine (toU_big (N := N) (hide (h.out.below ((Below.refl _ _).alloc (Nat.le_refl _) _) (Nat.le_refl _))) hlen HN.out).mono ?_
    rintro e w2 ⟨rfl, hb2⟩
    have hc2_0 : ∀ o, w2.cell? ⟨w.heap.size, o, none⟩ = _ := fun o => hb2.cell (p := ⟨w.heap.size, o, none⟩) (by simp)
    have hf2_0 : ∀ o, w2.frozen? ⟨w.heap.size, o, none⟩ = _ := fun o => hb2.frozen (p := ⟨w.heap.size, o, none⟩) (by simp)
    go_wp2
    refine bodyPost_ret (v := .tuple #[.agg #[.int .u64 (lim N 0), .int .u64 (lim N 1), .int .u64 (lim N 2), .int .u64 (lim N 3)], .int .i64 0]) (by simp [results, Try.results29, go_sem, *]) rfl ?_
    exact ⟨rfl, (by (repeat' (first | (with_reducible exact Below.refl _ _) | (with_reducible assumption) | (with_reducible refine Below.alloc ?_ ?_ _) | (with_reducible refine Below.drew ?_) | (with_reducible refine below_drewN ?_ _) | (with_reducible refine Below.setCell ?_ ?_ _) | (with_reducible refine below_step (by with_reducible assumption) ?_ ?_) | (first | (with_reducible exact Nat.le_refl _) | (with_reducible assumption) | omega | (simp only [World.size_alloc, World.size_setCell, World.size_drew, size_drewN]; omega) | (simp; omega) | (simp; done)))))⟩
  · have t : decide (n ≤ 16) = false := decide_eq_false (by rw [h.out.hn]; exact fun x => hN (nd16.1 x))
    rw [chkV, chkE, if_neg hN, if_neg hN, lim_zero, lim_zero, lim_zero, lim_zero]
    clear hN
    go_enter Try.func29, Try.ntmps29
    go_wp2_with fail
    refine (fits_c _ _ _ _).mono ?_
    rintro e w1 ⟨rfl, rfl⟩
    go_wp2
    go_returns
    exact ⟨rfl, (by (repeat' (first | (with_reducible exact Below.refl _ _) | (with_reducible assumption) | (with_reducible refine Below.alloc ?_ ?_ _) | (with_reducible refine Below.drew ?_) | (with_reducible refine below_drewN ?_ _) | (with_reducible refine Below.setCell ?_ ?_ _) | (with_reducible refine below_step (by with_reducible assumption) ?_ ?_) | (first | (with_reducible exact Nat.le_refl _) | (with_reducible assumption) | omega | (simp only [World.size_alloc, World.size_setCell, World.size_drew, size_drewN]; omega) | (simp; omega) | (simp; done)))))⟩
theorem from64_c {x : Int} (h0 : 0 ≤ x) (h1 : x < 18446744073709551616) (w : World) :
    Calls Try.prog 28 #[.int .u64 x] w fun e w' => ∃ ad n c, e = .returned (.slice ad n c) ∧ Hid (Big w' ad n c x.toNat) ∧ n ≤ 16 ∧ Below w.heap.size w w' := by
  have HX := hide (isU_one h0 h1)
  go_enter Try.func28, Try.ntmps28
  go_wp2_with fail
  refine (from256_c HX.out _).mono ?_
  rintro e w1 ⟨ad, n, c, rfl, hB, hn, hb⟩
  go_wp2
  go_ret
  exact ⟨_, _, _, rfl, hB, hn, hb⟩
end Go.Proofs.Ythikkajjnfeigaa
