/- chapter 12: Mod, value, the examples. -/
import Derived.WalkKit
import Derived.KernelRfl
import Derived.RowKit3
import Derived.Deep.LoopGhost
import Derived.Deep.QuietTactic
import Derived.BigQuiet
import Derived.WideLaws
import Derived.Laws.Rows
import Derived.Below
import Derived.Deep.Draws
import Derived.Outline
import Derived.LoopN
import Derived.Handy
import Derived.Laws.Externs
import Derived.Laws.BitsAllLaws
import Derived.Laws.BitsLemmas
import Derived.Deep.DeepCutAuto
import Derived.Deep.CutBlock
import Derived.Deep.RegionHeld3
import Derived.Test.YtbnpgecpanfpiaaP8
namespace Go.Proofs.Ytbnpgecpanfpiaa
open Go.RowKit
set_option linter.unusedVariables false
set_option linter.unusedSimpArgs false
theorem wrap_id {x : Int} (h0 : 0 ≤ x) (h1 : x < 18446744073709551616) : IntKind.u64.wrap x = x := by rw [IntKind.wrap_u64]; omega
def modV (x n : Int) : Int := x % 18446744073709551616 % n
theorem mod_c {x n : Int} (n0 : 0 < n) (n1 : n < 4294967296) (w : World) :
    Calls Try.prog 17 #[.int .i64 x, .int .i64 n] w fun e w' => e = .returned (.int .i64 (modV x n)) ∧ w = w' := by
  have h1 : IntKind.u64.wrap x = x % 18446744073709551616 := IntKind.wrap_u64 x
  have h2 : IntKind.u64.wrap n = n := wrap_id (by omega) (by omega)
  have hx0 : 0 ≤ x % 18446744073709551616 := by omega
  have h3 : (x % 18446744073709551616).tmod n = modV x n := Int.tmod_eq_emod_of_nonneg hx0
  have hr0 : 0 ≤ modV x n := Int.emod_nonneg _ (by omega)
  have hr1 : modV x n < n := Int.emod_lt_of_pos _ n0
  have h4 : IntKind.i64.wrap (modV x n) = modV x n := by rw [IntKind.wrap_i64]; omega
  have h5 : IntKind.u64.wrap (modV x n) = modV x n := wrap_id hr0 (by omega)
  have hn : (n == 0) = false := by simp; omega
  have hn' : ¬ n = 0 := by omega
  go_enter Try.func17, Try.ntmps17
  go_wp2
  go_ret
  exact ⟨rfl, rfl⟩
def vL (N : Nat → Int) (few how : Int) (j : Nat) : Int := if how % 6 = 0 then N j else if j = 0 then (if how % 6 = 1 then few else if how % 6 = 2 then few % 30000 else if how % 6 = 3 then 2 ^ (few % 64).toNat else if how % 6 = 4 then 2 ^ (few % 64).toNat + 1 else few % 3) else 0
theorem pow_w {s : Nat} (h : s < 64) : (0 : Int) ≤ 2 ^ s ∧ (2 : Int) ^ s ≤ 9223372036854775808 := by
  have h1 : (2 : Int) ^ s = ((2 ^ s : Nat) : Int) := by simp
  have h2 : 2 ^ s ≤ 2 ^ 63 := Nat.pow_le_pow_right (by omega) (by omega)
  rw [h1]
  obtain ⟨q, hq⟩ : ∃ q, 2 ^ s = q := ⟨_, rfl⟩
  rw [hq] at h2 ⊢
  have h3 : (2 : Nat) ^ 63 = 9223372036854775808 := by decide
  rw [h3] at h2
  omega
theorem vL_w {N : Nat → Int} (hN : ∀ j, 0 ≤ N j ∧ N j < 18446744073709551616) {few : Int} (f0 : 0 ≤ few) (f1 : few < 18446744073709551616) (how : Int) (j : Nat) : 0 ≤ vL N few how j ∧ vL N few how j < 18446744073709551616 := by
  have hp := pow_w (s := (few % 64).toNat) (by omega)
  unfold vL
  repeat' split
  all_goals first
    | exact hN _
    | omega
set_option maxHeartbeats 8000000 in
theorem value_c {N : Nat → Int} {few how : Int} (key : Int) (f0 : 0 ≤ few) (f1 : few < 18446744073709551616) (h0 : 0 ≤ how) (w : World) :
    Calls Try.prog 19 #[.agg #[.int .i64 key, .int .u64 (N 0), .int .u64 (N 1), .int .u64 (N 2), .int .u64 (N 3), .int .u64 few, .int .u8 how]] w fun e w' => e = .returned (.agg #[.int .u64 (vL N few how 0), .int .u64 (vL N few how 1), .int .u64 (vL N few how 2), .int .u64 (vL N few how 3)]) ∧ Below w.heap.size w w' := by
  obtain ⟨s, hs⟩ : ∃ s : Nat, few % 64 = (s : Int) := ⟨(few % 64).toNat, by omega⟩
  have hs64 : s < 64 := by omega
  have hp := pow_w hs64
  have e64 : few.tmod 64 = (s : Int) := by rw [Int.tmod_eq_emod_of_nonneg f0, hs]
  have e3 : few.tmod 3 = few % 3 := Int.tmod_eq_emod_of_nonneg f0
  have e30 : few.tmod 30000 = few % 30000 := Int.tmod_eq_emod_of_nonneg f0
  have e6 : how.tmod 6 = how % 6 := Int.tmod_eq_emod_of_nonneg h0
  have w1 : IntKind.u64.wrap (2 ^ s) = 2 ^ s := wrap_id hp.1 (Int.lt_of_le_of_lt hp.2 (by decide))
  have w2 : IntKind.u64.wrap (2 ^ s + 1) = 2 ^ s + 1 := wrap_id (Int.le_trans hp.1 (Int.le_add_of_nonneg_right (by decide))) (Int.lt_of_le_of_lt (Int.add_le_add_right hp.2 1) (by decide))
  have w3 : IntKind.u64.wrap (few % 3) = few % 3 := wrap_id (by omega) (by omega)
  have w4 : IntKind.u64.wrap (few % 30000) = few % 30000 := wrap_id (by omega) (by omega)
  have hd : how % 6 = 0 ∨ how % 6 = 1 ∨ how % 6 = 2 ∨ how % 6 = 3 ∨ how % 6 = 4 ∨ how % 6 = 5 := by omega
  clear hp
  rcases hd with h | h | h | h | h | h
  · rw [h] at e6
    have v0 : vL N few how 0 = (N 0) := by simp [vL, h, hs]
    have v1 : vL N few how 1 = (N 1) := by simp [vL, h, hs]
    have v2 : vL N few how 2 = (N 2) := by simp [vL, h, hs]
    have v3 : vL N few how 3 = (N 3) := by simp [vL, h, hs]
    rw [v0, v1, v2, v3]
    clear v0 v1 v2 v3 h hs
    go_enter Try.func19, Try.ntmps19
    go_wp2
    refine cutP (fun W => Box W (w.heap.size + 1) ((N 0)) ((N 1)) ((N 2)) ((N 3)) ∧ Below w.heap.size w W) ?_ ?_
    · refine ⟨?_, (by (repeat' (first | (with_reducible exact Below.refl _ _) | (with_reducible assumption) | (with_reducible refine Below.alloc ?_ ?_ _) | (with_reducible refine Below.drew ?_) | (with_reducible refine below_drewN ?_ _) | (with_reducible refine Below.setCell ?_ ?_ _) | (with_reducible refine below_step (by with_reducible assumption) ?_ ?_) | (first | (with_reducible exact Nat.le_refl _) | (with_reducible assumption) | omega | (simp only [World.size_alloc, World.size_setCell, World.size_drew, size_drewN]; omega) | (simp; omega) | (simp; done)))))⟩ <;> (constructor <;> (first | (simp only [World.size_alloc, World.size_setCell, World.size_drew, size_drewN]; omega) | (simp (maxDischargeDepth := 16) [go_sem, *, World.cell?_alloc_some, World.cell?_setCell_far]; done)))
    rintro W ⟨bx0, hbW⟩
    obtain ⟨rc00, rc01, rc02, rc03, rf00, rf01, rf02, rf03, rlt0⟩ := bx0
    refine bodyPost_ret ?_ rfl ⟨rfl, hbW⟩
    simp [results, Try.results19, go_sem, rc00, rc01, rc02, rc03]
  · rw [h] at e6
    have v0 : vL N few how 0 = few := by simp [vL, h, hs]
    have v1 : vL N few how 1 = 0 := by simp [vL, h, hs]
    have v2 : vL N few how 2 = 0 := by simp [vL, h, hs]
    have v3 : vL N few how 3 = 0 := by simp [vL, h, hs]
    rw [v0, v1, v2, v3]
    clear v0 v1 v2 v3 h hs
    go_enter Try.func19, Try.ntmps19
    go_wp2
    refine cutP (fun W => Box W (w.heap.size + 1) (few) (0) (0) (0) ∧ Below w.heap.size w W) ?_ ?_
    · refine ⟨?_, (by (repeat' (first | (with_reducible exact Below.refl _ _) | (with_reducible assumption) | (with_reducible refine Below.alloc ?_ ?_ _) | (with_reducible refine Below.drew ?_) | (with_reducible refine below_drewN ?_ _) | (with_reducible refine Below.setCell ?_ ?_ _) | (with_reducible refine below_step (by with_reducible assumption) ?_ ?_) | (first | (with_reducible exact Nat.le_refl _) | (with_reducible assumption) | omega | (simp only [World.size_alloc, World.size_setCell, World.size_drew, size_drewN]; omega) | (simp; omega) | (simp; done)))))⟩ <;> (constructor <;> (first | (simp only [World.size_alloc, World.size_setCell, World.size_drew, size_drewN]; omega) | (simp (maxDischargeDepth := 16) [go_sem, *, World.cell?_alloc_some, World.cell?_setCell_far]; done)))
    rintro W ⟨bx0, hbW⟩
    obtain ⟨rc00, rc01, rc02, rc03, rf00, rf01, rf02, rf03, rlt0⟩ := bx0
    refine bodyPost_ret ?_ rfl ⟨rfl, hbW⟩
    simp [results, Try.results19, go_sem, rc00, rc01, rc02, rc03]
  · rw [h] at e6
    have v0 : vL N few how 0 = (few % 30000) := by simp [vL, h, hs]
    have v1 : vL N few how 1 = 0 := by simp [vL, h, hs]
    have v2 : vL N few how 2 = 0 := by simp [vL, h, hs]
    have v3 : vL N few how 3 = 0 := by simp [vL, h, hs]
    rw [v0, v1, v2, v3]
    clear v0 v1 v2 v3 h hs
    go_enter Try.func19, Try.ntmps19
    go_wp2
    refine cutP (fun W => Box W (w.heap.size + 1) ((few % 30000)) (0) (0) (0) ∧ Below w.heap.size w W) ?_ ?_
    · refine ⟨?_, (by (repeat' (first | (with_reducible exact Below.refl _ _) | (with_reducible assumption) | (with_reducible refine Below.alloc ?_ ?_ _) | (with_reducible refine Below.drew ?_) | (with_reducible refine below_drewN ?_ _) | (with_reducible refine Below.setCell ?_ ?_ _) | (with_reducible refine below_step (by with_reducible assumption) ?_ ?_) | (first | (with_reducible exact Nat.le_refl _) | (with_reducible assumption) | omega | (simp only [World.size_alloc, World.size_setCell, World.size_drew, size_drewN]; omega) | (simp; omega) | (simp; done)))))⟩ <;> (constructor <;> (first | (simp only [World.size_alloc, World.size_setCell, World.size_drew, size_drewN]; omega) | (simp (maxDischargeDepth := 16) [go_sem, *, World.cell?_alloc_some, World.cell?_setCell_far]; done)))
    rintro W ⟨bx0, hbW⟩
    obtain ⟨rc00, rc01, rc02, rc03, rf00, rf01, rf02, rf03, rlt0⟩ := bx0
    refine bodyPost_ret ?_ rfl ⟨rfl, hbW⟩
    simp [results, Try.results19, go_sem, rc00, rc01, rc02, rc03]
  · rw [h] at e6
    have v0 : vL N few how 0 = (2 ^ s) := by simp [vL, h, hs]
    have v1 : vL N few how 1 = 0 := by simp [vL, h, hs]
    have v2 : vL N few how 2 = 0 := by simp [vL, h, hs]
    have v3 : vL N few how 3 = 0 := by simp [vL, h, hs]
    rw [v0, v1, v2, v3]
    clear v0 v1 v2 v3 h hs
    go_enter Try.func19, Try.ntmps19
    go_wp2
    refine cutP (fun W => Box W (w.heap.size + 1) ((2 ^ s)) (0) (0) (0) ∧ Below w.heap.size w W) ?_ ?_
    · refine ⟨?_, (by (repeat' (first | (with_reducible exact Below.refl _ _) | (with_reducible assumption) | (with_reducible refine Below.alloc ?_ ?_ _) | (with_reducible refine Below.drew ?_) | (with_reducible refine below_drewN ?_ _) | (with_reducible refine Below.setCell ?_ ?_ _) | (with_reducible refine below_step (by with_reducible assumption) ?_ ?_) | (first | (with_reducible exact Nat.le_refl _) | (with_reducible assumption) | omega | (simp only [World.size_alloc, World.size_setCell, World.size_drew, size_drewN]; omega) | (simp; omega) | (simp; done)))))⟩ <;> (constructor <;> (first | (simp only [World.size_alloc, World.size_setCell, World.size_drew, size_drewN]; omega) | (simp (maxDischargeDepth := 16) [go_sem, *, World.cell?_alloc_some, World.cell?_setCell_far]; done)))
    rintro W ⟨bx0, hbW⟩
    obtain ⟨rc00, rc01, rc02, rc03, rf00, rf01, rf02, rf03, rlt0⟩ := bx0
    refine bodyPost_ret ?_ rfl ⟨rfl, hbW⟩
    simp [results, Try.results19, go_sem, rc00, rc01, rc02, rc03]
  · rw [h] at e6
    have v0 : vL N few how 0 = (2 ^ s + 1) := by simp [vL, h, hs]
    have v1 : vL N few how 1 = 0 := by simp [vL, h, hs]
    have v2 : vL N few how 2 = 0 := by simp [vL, h, hs]
    have v3 : vL N few how 3 = 0 := by simp [vL, h, hs]
    rw [v0, v1, v2, v3]
    clear v0 v1 v2 v3 h hs
    go_enter Try.func19, Try.ntmps19
    go_wp2
    refine cutP (fun W => Box W (w.heap.size + 1) ((2 ^ s + 1)) (0) (0) (0) ∧ Below w.heap.size w W) ?_ ?_
    · refine ⟨?_, (by (repeat' (first | (with_reducible exact Below.refl _ _) | (with_reducible assumption) | (with_reducible refine Below.alloc ?_ ?_ _) | (with_reducible refine Below.drew ?_) | (with_reducible refine below_drewN ?_ _) | (with_reducible refine Below.setCell ?_ ?_ _) | (with_reducible refine below_step (by with_reducible assumption) ?_ ?_) | (first | (with_reducible exact Nat.le_refl _) | (with_reducible assumption) | omega | (simp only [World.size_alloc, World.size_setCell, World.size_drew, size_drewN]; omega) | (simp; omega) | (simp; done)))))⟩ <;> (constructor <;> (first | (simp only [World.size_alloc, World.size_setCell, World.size_drew, size_drewN]; omega) | (simp (maxDischargeDepth := 16) [go_sem, *, World.cell?_alloc_some, World.cell?_setCell_far]; done)))
    rintro W ⟨bx0, hbW⟩
    obtain ⟨rc00, rc01, rc02, rc03, rf00, rf01, rf02, rf03, rlt0⟩ := bx0
    refine bodyPost_ret ?_ rfl ⟨rfl, hbW⟩
    simp [results, Try.results19, go_sem, rc00, rc01, rc02, rc03]
  · rw [h] at e6
    have v0 : vL N few how 0 = (few % 3) := by simp [vL, h, hs]
    have v1 : vL N few how 1 = 0 := by simp [vL, h, hs]
    have v2 : vL N few how 2 = 0 := by simp [vL, h, hs]
    have v3 : vL N few how 3 = 0 := by simp [vL, h, hs]
    rw [v0, v1, v2, v3]
    clear v0 v1 v2 v3 h hs
    go_enter Try.func19, Try.ntmps19
    go_wp2
    refine cutP (fun W => Box W (w.heap.size + 1) ((few % 3)) (0) (0) (0) ∧ Below w.heap.size w W) ?_ ?_
    · refine ⟨?_, (by (repeat' (first | (with_reducible exact Below.refl _ _) | (with_reducible assumption) | (with_reducible refine Below.alloc ?_ ?_ _) | (with_reducible refine Below.drew ?_) | (with_reducible refine below_drewN ?_ _) | (with_reducible refine Below.setCell ?_ ?_ _) | (with_reducible refine below_step (by with_reducible assumption) ?_ ?_) | (first | (with_reducible exact Nat.le_refl _) | (with_reducible assumption) | omega | (simp only [World.size_alloc, World.size_setCell, World.size_drew, size_drewN]; omega) | (simp; omega) | (simp; done)))))⟩ <;> (constructor <;> (first | (simp only [World.size_alloc, World.size_setCell, World.size_drew, size_drewN]; omega) | (simp (maxDischargeDepth := 16) [go_sem, *, World.cell?_alloc_some, World.cell?_setCell_far]; done)))
    rintro W ⟨bx0, hbW⟩
    obtain ⟨rc00, rc01, rc02, rc03, rf00, rf01, rf02, rf03, rlt0⟩ := bx0
    refine bodyPost_ret ?_ rfl ⟨rfl, hbW⟩
    simp [results, Try.results19, go_sem, rc00, rc01, rc02, rc03]
end Go.Proofs.Ytbnpgecpanfpiaa
