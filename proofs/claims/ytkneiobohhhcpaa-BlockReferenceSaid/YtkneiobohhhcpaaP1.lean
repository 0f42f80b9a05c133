/- params: the pointers to the fields, Get. -/
import Derived.WalkKit
import Derived.KernelRfl
import Derived.RowKit3
import Derived.Deep.LoopGhost
import Derived.Deep.QuietTactic
import Derived.BigQuiet
import Derived.WideLaws
import Derived.Laws.Rows
import Derived.Below
import Derived.Deep.Draws
import Derived.Outline
import Derived.LoopN
import Derived.Handy
import Derived.Laws.Externs
import Derived.Laws.BitsAllLaws
import Derived.Laws.BitsLemmas
import Derived.Deep.DeepCutAuto
import Derived.Deep.CutBlock
import Derived.Deep.RegionHeld3
import Derived.Test.YtkneiobohhhcpaaP0
import Derived.Test.YtkneiobohhhcpaaU
namespace Go.Proofs.Ytkneiobohhhcpaa
open Go.RowKit
set_option linter.unusedVariables false
set_option linter.unusedSimpArgs false
theorem cutP {f : World → Prop} {W : World} (H : World → Prop) (h1 : H W) (h2 : ∀ W', H W' → f W') : f W := h2 W h1
theorem getE_in {k : Int} (h : 1 ≤ k ∧ k ≤ 12) : getE k = 0 := if_pos h
set_option maxHeartbeats 4000000 in
theorem fld64_c (g : Nat) (k : Int) (w : World) :
    Calls Try.prog 58 #[.pointer (some ⟨g, 0, none⟩), .int .i64 k] w fun e w' => e = .returned (p64 g k) ∧ w = w' := by
  by_cases h1 : k = 1
  · subst h1
    have e : p64 g 1 = .pointer (some ⟨g, 0, none⟩) := rfl
    rw [e]
    go_enter Try.func58, Try.ntmps58
    go_wp2
    go_ret
    exact ⟨rfl, rfl⟩
  by_cases h2 : k = 2
  · subst h2
    have e : p64 g 2 = .pointer (some ⟨g, 1, none⟩) := rfl
    rw [e]
    go_enter Try.func58, Try.ntmps58
    go_wp2
    go_ret
    exact ⟨rfl, rfl⟩
  by_cases h3 : k = 3
  · subst h3
    have e : p64 g 3 = .pointer (some ⟨g, 2, none⟩) := rfl
    rw [e]
    go_enter Try.func58, Try.ntmps58
    go_wp2
    go_ret
    exact ⟨rfl, rfl⟩
  by_cases h5 : k = 5
  · subst h5
    have e : p64 g 5 = .pointer (some ⟨g, 7, none⟩) := rfl
    rw [e]
    go_enter Try.func58, Try.ntmps58
    go_wp2
    go_ret
    exact ⟨rfl, rfl⟩
  by_cases h7 : k = 7
  · subst h7
    have e : p64 g 7 = .pointer (some ⟨g, 12, none⟩) := rfl
    rw [e]
    go_enter Try.func58, Try.ntmps58
    go_wp2
    go_ret
    exact ⟨rfl, rfl⟩
  by_cases h9 : k = 9
  · subst h9
    have e : p64 g 9 = .pointer (some ⟨g, 17, none⟩) := rfl
    rw [e]
    go_enter Try.func58, Try.ntmps58
    go_wp2
    go_ret
    exact ⟨rfl, rfl⟩
  by_cases h10 : k = 10
  · subst h10
    have e : p64 g 10 = .pointer (some ⟨g, 18, none⟩) := rfl
    rw [e]
    go_enter Try.func58, Try.ntmps58
    go_wp2
    go_ret
    exact ⟨rfl, rfl⟩
  by_cases h11 : k = 11
  · subst h11
    have e : p64 g 11 = .pointer (some ⟨g, 19, none⟩) := rfl
    rw [e]
    go_enter Try.func58, Try.ntmps58
    go_wp2
    go_ret
    exact ⟨rfl, rfl⟩
  by_cases h12 : k = 12
  · subst h12
    have e : p64 g 12 = .pointer (some ⟨g, 20, none⟩) := rfl
    rw [e]
    go_enter Try.func58, Try.ntmps58
    go_wp2
    go_ret
    exact ⟨rfl, rfl⟩
  have e : p64 g k = .pointer none := by simp [p64, f64, h1, h2, h3, h5, h7, h9, h10, h11, h12]
  rw [e]
  have b1 : (k == 1) = false := by simpa using h1
  have b2 : (k == 2) = false := by simpa using h2
  have b3 : (k == 3) = false := by simpa using h3
  have b5 : (k == 5) = false := by simpa using h5
  have b7 : (k == 7) = false := by simpa using h7
  have b9 : (k == 9) = false := by simpa using h9
  have b10 : (k == 10) = false := by simpa using h10
  have b11 : (k == 11) = false := by simpa using h11
  have b12 : (k == 12) = false := by simpa using h12
  go_enter Try.func58, Try.ntmps58
  go_wp2
  go_ret
  exact ⟨rfl, rfl⟩
set_option maxHeartbeats 4000000 in
theorem fld256_c (g : Nat) (k : Int) (w : World) :
    Calls Try.prog 57 #[.pointer (some ⟨g, 0, none⟩), .int .i64 k] w fun e w' => e = .returned (p256 g k) ∧ w = w' := by
  by_cases h4 : k = 4
  · subst h4
    have e : p256 g 4 = .pointer (some ⟨g, 3, none⟩) := rfl
    rw [e]
    go_enter Try.func57, Try.ntmps57
    go_wp2
    go_ret
    exact ⟨rfl, rfl⟩
  by_cases h6 : k = 6
  · subst h6
    have e : p256 g 6 = .pointer (some ⟨g, 8, none⟩) := rfl
    rw [e]
    go_enter Try.func57, Try.ntmps57
    go_wp2
    go_ret
    exact ⟨rfl, rfl⟩
  by_cases h8 : k = 8
  · subst h8
    have e : p256 g 8 = .pointer (some ⟨g, 13, none⟩) := rfl
    rw [e]
    go_enter Try.func57, Try.ntmps57
    go_wp2
    go_ret
    exact ⟨rfl, rfl⟩
  have e : p256 g k = .pointer none := by simp [p256, f256, h4, h6, h8]
  rw [e]
  have b4 : (k == 4) = false := by simpa using h4
  have b6 : (k == 6) = false := by simpa using h6
  have b8 : (k == 8) = false := by simpa using h8
  go_enter Try.func57, Try.ntmps57
  go_wp2
  go_ret
  exact ⟨rfl, rfl⟩
set_option maxHeartbeats 8000000 in
theorem get_c (P : Nat → Int) (k : Int) (w : World) :
    Calls Try.prog 42 #[.agg #[.int .u64 (P 0), .int .u64 (P 1), .int .u64 (P 2), .int .u64 (P 3), .int .u64 (P 4), .int .u64 (P 5), .int .u64 (P 6), .int .u64 (P 7), .int .u64 (P 8), .int .u64 (P 9), .int .u64 (P 10), .int .u64 (P 11), .int .u64 (P 12), .int .u64 (P 13), .int .u64 (P 14), .int .u64 (P 15), .int .u64 (P 16), .int .u64 (P 17), .int .u64 (P 18), .int .u64 (P 19), .int .u64 (P 20)], .int .i64 k] w fun e w' => e = .returned (.tuple #[.agg #[.int .u64 (getL P k 0), .int .u64 (getL P k 1), .int .u64 (getL P k 2), .int .u64 (getL P k 3)], .int .i64 (getE k)]) ∧ Below w.heap.size w w' := by
  by_cases h1 : k = 1
  · subst h1
    have e : p256 w.heap.size 1 = .pointer none := rfl
    have e' : p64 w.heap.size 1 = .pointer (some ⟨w.heap.size, 0, none⟩) := rfl
    have g0 : getL P 1 0 = P 0 := rfl
    have g1 : getL P 1 1 = 0 := rfl
    have g2 : getL P 1 2 = 0 := rfl
    have g3 : getL P 1 3 = 0 := rfl
    have ge : getE 1 = 0 := rfl
    rw [g0, g1, g2, g3, ge]
    go_enter Try.func42, Try.ntmps42
    go_wp2_with fail
    refine (fld256_c _ _ _).mono ?_
    rintro e w1 ⟨rfl, rfl⟩
    rw [e]
    go_wp2_with fail
    refine (fld64_c _ _ _).mono ?_
    rintro e w1 ⟨rfl, rfl⟩
    rw [e']
    go_wp2_with fail
    refine (from_c _ _).mono ?_
    rintro e w1 ⟨rfl, hb1⟩
    have hs1 := hb1.size
    try simp only [World.size_alloc, World.size_setCell, World.size_drew, size_drewN] at hs1
    have hc1_0 : ∀ o, w1.cell? ⟨w.heap.size, o, none⟩ = _ := fun o => hb1.cell (p := ⟨w.heap.size, o, none⟩) (by ((try simp only [World.size_alloc, World.size_setCell, World.size_drew, size_drewN]); omega))
    have hf1_0 : ∀ o, w1.frozen? ⟨w.heap.size, o, none⟩ = _ := fun o => hb1.frozen (p := ⟨w.heap.size, o, none⟩) (by ((try simp only [World.size_alloc, World.size_setCell, World.size_drew, size_drewN]); omega))
    have z1_0 : w.heap.size < w1.heap.size := (by omega)
    have hc1_1 : ∀ o, w1.cell? ⟨w.heap.size + 1, o, none⟩ = _ := fun o => hb1.cell (p := ⟨w.heap.size + 1, o, none⟩) (by ((try simp only [World.size_alloc, World.size_setCell, World.size_drew, size_drewN]); omega))
    have hf1_1 : ∀ o, w1.frozen? ⟨w.heap.size + 1, o, none⟩ = _ := fun o => hb1.frozen (p := ⟨w.heap.size + 1, o, none⟩) (by ((try simp only [World.size_alloc, World.size_setCell, World.size_drew, size_drewN]); omega))
    have z1_1 : w.heap.size + 1 < w1.heap.size := (by omega)
    go_wp2
    refine cutP (fun W => Box W (w.heap.size + 1) (P 0) (0) (0) (0) ∧ Below w.heap.size w W) ?_ ?_
    · refine ⟨?_, (by (repeat' (first | (with_reducible exact Below.refl _ _) | (with_reducible assumption) | (with_reducible refine Below.alloc ?_ ?_ _) | (with_reducible refine Below.drew ?_) | (with_reducible refine below_drewN ?_ _) | (with_reducible refine Below.setCell ?_ ?_ _) | (with_reducible refine below_step (by with_reducible assumption) ?_ ?_) | (first | (with_reducible exact Nat.le_refl _) | (with_reducible assumption) | omega | (simp only [World.size_alloc, World.size_setCell, World.size_drew, size_drewN]; omega) | (simp; omega) | (simp; done)))))⟩ <;> (constructor <;> (first | (simp only [World.size_alloc, World.size_setCell, World.size_drew, size_drewN]; omega) | (simp (maxDischargeDepth := 16) [go_sem, *, World.cell?_alloc_some, World.cell?_setCell_far]; done)))
    rintro W ⟨bx0, hbW⟩
    obtain ⟨rc00, rc01, rc02, rc03, rf00, rf01, rf02, rf03, rlt0⟩ := bx0
    refine bodyPost_ret ?_ rfl ⟨rfl, hbW⟩
    simp [results, Try.results42, go_sem, rc00, rc01, rc02, rc03]
  by_cases h2 : k = 2
  · subst h2
    have e : p256 w.heap.size 2 = .pointer none := rfl
    have e' : p64 w.heap.size 2 = .pointer (some ⟨w.heap.size, 1, none⟩) := rfl
    have g0 : getL P 2 0 = P 1 := rfl
    have g1 : getL P 2 1 = 0 := rfl
    have g2 : getL P 2 2 = 0 := rfl
    have g3 : getL P 2 3 = 0 := rfl
    have ge : getE 2 = 0 := rfl
    rw [g0, g1, g2, g3, ge]
    go_enter Try.func42, Try.ntmps42
    go_wp2_with fail
    refine (fld256_c _ _ _).mono ?_
    rintro e w1 ⟨rfl, rfl⟩
    rw [e]
    go_wp2_with fail
    refine (fld64_c _ _ _).mono ?_
    rintro e w1 ⟨rfl, rfl⟩
    rw [e']
    go_wp2_with fail
    refine (from_c _ _).mono ?_
    rintro e w1 ⟨rfl, hb1⟩
    have hs1 := hb1.size
    try simp only [World.size_alloc, World.size_setCell, World.size_drew, size_drewN] at hs1
    have hc1_0 : ∀ o, w1.cell? ⟨w.heap.size, o, none⟩ = _ := fun o => hb1.cell (p := ⟨w.heap.size, o, none⟩) (by ((try simp only [World.size_alloc, World.size_setCell, World.size_drew, size_drewN]); omega))
    have hf1_0 : ∀ o, w1.frozen? ⟨w.heap.size, o, none⟩ = _ := fun o => hb1.frozen (p := ⟨w.heap.size, o, none⟩) (by ((try simp only [World.size_alloc, World.size_setCell, World.size_drew, size_drewN]); omega))
    have z1_0 : w.heap.size < w1.heap.size := (by omega)
    have hc1_1 : ∀ o, w1.cell? ⟨w.heap.size + 1, o, none⟩ = _ := fun o => hb1.cell (p := ⟨w.heap.size + 1, o, none⟩) (by ((try simp only [World.size_alloc, World.size_setCell, World.size_drew, size_drewN]); omega))
    have hf1_1 : ∀ o, w1.frozen? ⟨w.heap.size + 1, o, none⟩ = _ := fun o => hb1.frozen (p := ⟨w.heap.size + 1, o, none⟩) (by ((try simp only [World.size_alloc, World.size_setCell, World.size_drew, size_drewN]); omega))
    have z1_1 : w.heap.size + 1 < w1.heap.size := (by omega)
    go_wp2
    refine cutP (fun W => Box W (w.heap.size + 1) (P 1) (0) (0) (0) ∧ Below w.heap.size w W) ?_ ?_
    · refine ⟨?_, (by (repeat' (first | (with_reducible exact Below.refl _ _) | (with_reducible assumption) | (with_reducible refine Below.alloc ?_ ?_ _) | (with_reducible refine Below.drew ?_) | (with_reducible refine below_drewN ?_ _) | (with_reducible refine Below.setCell ?_ ?_ _) | (with_reducible refine below_step (by with_reducible assumption) ?_ ?_) | (first | (with_reducible exact Nat.le_refl _) | (with_reducible assumption) | omega | (simp only [World.size_alloc, World.size_setCell, World.size_drew, size_drewN]; omega) | (simp; omega) | (simp; done)))))⟩ <;> (constructor <;> (first | (simp only [World.size_alloc, World.size_setCell, World.size_drew, size_drewN]; omega) | (simp (maxDischargeDepth := 16) [go_sem, *, World.cell?_alloc_some, World.cell?_setCell_far]; done)))
    rintro W ⟨bx0, hbW⟩
    obtain ⟨rc00, rc01, rc02, rc03, rf00, rf01, rf02, rf03, rlt0⟩ := bx0
    refine bodyPost_ret ?_ rfl ⟨rfl, hbW⟩
    simp [results, Try.results42, go_sem, rc00, rc01, rc02, rc03]
  by_cases h3 : k = 3
  · subst h3
    have e : p256 w.heap.size 3 = .pointer none := rfl
    have e' : p64 w.heap.size 3 = .pointer (some ⟨w.heap.size, 2, none⟩) := rfl
    have g0 : getL P 3 0 = P 2 := rfl
    have g1 : getL P 3 1 = 0 := rfl
    have g2 : getL P 3 2 = 0 := rfl
    have g3 : getL P 3 3 = 0 := rfl
    have ge : getE 3 = 0 := rfl
    rw [g0, g1, g2, g3, ge]
    go_enter Try.func42, Try.ntmps42
    go_wp2_with fail
    refine (fld256_c _ _ _).mono ?_
    rintro e w1 ⟨rfl, rfl⟩
    rw [e]
    go_wp2_with fail
    refine (fld64_c _ _ _).mono ?_
    rintro e w1 ⟨rfl, rfl⟩
    rw [e']
    go_wp2_with fail
    refine (from_c _ _).mono ?_
    rintro e w1 ⟨rfl, hb1⟩
    have hs1 := hb1.size
    try simp only [World.size_alloc, World.size_setCell, World.size_drew, size_drewN] at hs1
    have hc1_0 : ∀ o, w1.cell? ⟨w.heap.size, o, none⟩ = _ := fun o => hb1.cell (p := ⟨w.heap.size, o, none⟩) (by ((try simp only [World.size_alloc, World.size_setCell, World.size_drew, size_drewN]); omega))
    have hf1_0 : ∀ o, w1.frozen? ⟨w.heap.size, o, none⟩ = _ := fun o => hb1.frozen (p := ⟨w.heap.size, o, none⟩) (by ((try simp only [World.size_alloc, World.size_setCell, World.size_drew, size_drewN]); omega))
    have z1_0 : w.heap.size < w1.heap.size := (by omega)
    have hc1_1 : ∀ o, w1.cell? ⟨w.heap.size + 1, o, none⟩ = _ := fun o => hb1.cell (p := ⟨w.heap.size + 1, o, none⟩) (by ((try simp only [World.size_alloc, World.size_setCell, World.size_drew, size_drewN]); omega))
    have hf1_1 : ∀ o, w1.frozen? ⟨w.heap.size + 1, o, none⟩ = _ := fun o => hb1.frozen (p := ⟨w.heap.size + 1, o, none⟩) (by ((try simp only [World.size_alloc, World.size_setCell, World.size_drew, size_drewN]); omega))
    have z1_1 : w.heap.size + 1 < w1.heap.size := (by omega)
    go_wp2
    refine cutP (fun W => Box W (w.heap.size + 1) (P 2) (0) (0) (0) ∧ Below w.heap.size w W) ?_ ?_
    · refine ⟨?_, (by (repeat' (first | (with_reducible exact Below.refl _ _) | (with_reducible assumption) | (with_reducible refine Below.alloc ?_ ?_ _) | (with_reducible refine Below.drew ?_) | (with_reducible refine below_drewN ?_ _) | (with_reducible refine Below.setCell ?_ ?_ _) | (with_reducible refine below_step (by with_reducible assumption) ?_ ?_) | (first | (with_reducible exact Nat.le_refl _) | (with_reducible assumption) | omega | (simp only [World.size_alloc, World.size_setCell, World.size_drew, size_drewN]; omega) | (simp; omega) | (simp; done)))))⟩ <;> (constructor <;> (first | (simp only [World.size_alloc, World.size_setCell, World.size_drew, size_drewN]; omega) | (simp (maxDischargeDepth := 16) [go_sem, *, World.cell?_alloc_some, World.cell?_setCell_far]; done)))
    rintro W ⟨bx0, hbW⟩
    obtain ⟨rc00, rc01, rc02, rc03, rf00, rf01, rf02, rf03, rlt0⟩ := bx0
    refine bodyPost_ret ?_ rfl ⟨rfl, hbW⟩
    simp [results, Try.results42, go_sem, rc00, rc01, rc02, rc03]
  by_cases h4 : k = 4
  · subst h4
    have e : p256 w.heap.size 4 = .pointer (some ⟨w.heap.size, 3, none⟩) := rfl
    have g0 : getL P 4 0 = P 3 := rfl
    have g1 : getL P 4 1 = P 4 := rfl
    have g2 : getL P 4 2 = P 5 := rfl
    have g3 : getL P 4 3 = P 6 := rfl
    have ge : getE 4 = 0 := rfl
    rw [g0, g1, g2, g3, ge]
    go_enter Try.func42, Try.ntmps42
    go_wp2_with fail
    refine (fld256_c _ _ _).mono ?_
    rintro e w1 ⟨rfl, rfl⟩
    rw [e]
    go_wp2
    go_returns
    exact ⟨rfl, (by (repeat' (first | (with_reducible exact Below.refl _ _) | (with_reducible assumption) | (with_reducible refine Below.alloc ?_ ?_ _) | (with_reducible refine Below.drew ?_) | (with_reducible refine below_drewN ?_ _) | (with_reducible refine Below.setCell ?_ ?_ _) | (with_reducible refine below_step (by with_reducible assumption) ?_ ?_) | (first | (with_reducible exact Nat.le_refl _) | (with_reducible assumption) | omega | (simp only [World.size_alloc, World.size_setCell, World.size_drew, size_drewN]; omega) | (simp; omega) | (simp; done)))))⟩
  by_cases h5 : k = 5
  · subst h5
    have e : p256 w.heap.size 5 = .pointer none := rfl
    have e' : p64 w.heap.size 5 = .pointer (some ⟨w.heap.size, 7, none⟩) := rfl
    have g0 : getL P 5 0 = P 7 := rfl
    have g1 : getL P 5 1 = 0 := rfl
    have g2 : getL P 5 2 = 0 := rfl
    have g3 : getL P 5 3 = 0 := rfl
    have ge : getE 5 = 0 := rfl
    rw [g0, g1, g2, g3, ge]
    go_enter Try.func42, Try.ntmps42
    go_wp2_with fail
    refine (fld256_c _ _ _).mono ?_
    rintro e w1 ⟨rfl, rfl⟩
    rw [e]
    go_wp2_with fail
    refine (fld64_c _ _ _).mono ?_
    rintro e w1 ⟨rfl, rfl⟩
    rw [e']
    go_wp2_with fail
    refine (from_c _ _).mono ?_
    rintro e w1 ⟨rfl, hb1⟩
    have hs1 := hb1.size
    try simp only [World.size_alloc, World.size_setCell, World.size_drew, size_drewN] at hs1
    have hc1_0 : ∀ o, w1.cell? ⟨w.heap.size, o, none⟩ = _ := fun o => hb1.cell (p := ⟨w.heap.size, o, none⟩) (by ((try simp only [World.size_alloc, World.size_setCell, World.size_drew, size_drewN]); omega))
    have hf1_0 : ∀ o, w1.frozen? ⟨w.heap.size, o, none⟩ = _ := fun o => hb1.frozen (p := ⟨w.heap.size, o, none⟩) (by ((try simp only [World.size_alloc, World.size_setCell, World.size_drew, size_drewN]); omega))
    have z1_0 : w.heap.size < w1.heap.size := (by omega)
    have hc1_1 : ∀ o, w1.cell? ⟨w.heap.size + 1, o, none⟩ = _ := fun o => hb1.cell (p := ⟨w.heap.size + 1, o, none⟩) (by ((try simp only [World.size_alloc, World.size_setCell, World.size_drew, size_drewN]); omega))
    have hf1_1 : ∀ o, w1.frozen? ⟨w.heap.size + 1, o, none⟩ = _ := fun o => hb1.frozen (p := ⟨w.heap.size + 1, o, none⟩) (by ((try simp only [World.size_alloc, World.size_setCell, World.size_drew, size_drewN]); omega))
    have z1_1 : w.heap.size + 1 < w1.heap.size := (by omega)
    go_wp2
    refine cutP (fun W => Box W (w.heap.size + 1) (P 7) (0) (0) (0) ∧ Below w.heap.size w W) ?_ ?_
    · refine ⟨?_, (by (repeat' (first | (with_reducible exact Below.refl _ _) | (with_reducible assumption) | (with_reducible refine Below.alloc ?_ ?_ _) | (with_reducible refine Below.drew ?_) | (with_reducible refine below_drewN ?_ _) | (with_reducible refine Below.setCell ?_ ?_ _) | (with_reducible refine below_step (by with_reducible assumption) ?_ ?_) | (first | (with_reducible exact Nat.le_refl _) | (with_reducible assumption) | omega | (simp only [World.size_alloc, World.size_setCell, World.size_drew, size_drewN]; omega) | (simp; omega) | (simp; done)))))⟩ <;> (constructor <;> (first | (simp only [World.size_alloc, World.size_setCell, World.size_drew, size_drewN]; omega) | (simp (maxDischargeDepth := 16) [go_sem, *, World.cell?_alloc_some, World.cell?_setCell_far]; done)))
    rintro W ⟨bx0, hbW⟩
    obtain ⟨rc00, rc01, rc02, rc03, rf00, rf01, rf02, rf03, rlt0⟩ := bx0
    refine bodyPost_ret ?_ rfl ⟨rfl, hbW⟩
    simp [results, Try.results42, go_sem, rc00, rc01, rc02, rc03]
  by_cases h6 : k = 6
  · subst h6
    have e : p256 w.heap.size 6 = .pointer (some ⟨w.heap.size, 8, none⟩) := rfl
    have g0 : getL P 6 0 = P 8 := rfl
    have g1 : getL P 6 1 = P 9 := rfl
    have g2 : getL P 6 2 = P 10 := rfl
    have g3 : getL P 6 3 = P 11 := rfl
    have ge : getE 6 = 0 := rfl
    rw [g0, g1, g2, g3, ge]
    go_enter Try.func42, Try.ntmps42
    go_wp2_with fail
    refine (fld256_c _ _ _).mono ?_
    rintro e w1 ⟨rfl, rfl⟩
    rw [e]
    go_wp2
    go_returns
    exact ⟨rfl, (by (repeat' (first | (with_reducible exact Below.refl _ _) | (with_reducible assumption) | (with_reducible refine Below.alloc ?_ ?_ _) | (with_reducible refine Below.drew ?_) | (with_reducible refine below_drewN ?_ _) | (with_reducible refine Below.setCell ?_ ?_ _) | (with_reducible refine below_step (by with_reducible assumption) ?_ ?_) | (first | (with_reducible exact Nat.le_refl _) | (with_reducible assumption) | omega | (simp only [World.size_alloc, World.size_setCell, World.size_drew, size_drewN]; omega) | (simp; omega) | (simp; done)))))⟩
  by_cases h7 : k = 7
  · subst h7
    have e : p256 w.heap.size 7 = .pointer none := rfl
    have e' : p64 w.heap.size 7 = .pointer (some ⟨w.heap.size, 12, none⟩) := rfl
    have g0 : getL P 7 0 = P 12 := rfl
    have g1 : getL P 7 1 = 0 := rfl
    have g2 : getL P 7 2 = 0 := rfl
    have g3 : getL P 7 3 = 0 := rfl
    have ge : getE 7 = 0 := rfl
    rw [g0, g1, g2, g3, ge]
    go_enter Try.func42, Try.ntmps42
    go_wp2_with fail
    refine (fld256_c _ _ _).mono ?_
    rintro e w1 ⟨rfl, rfl⟩
    rw [e]
    go_wp2_with fail
    refine (fld64_c _ _ _).mono ?_
    rintro e w1 ⟨rfl, rfl⟩
    rw [e']
    go_wp2_with fail
    refine (from_c _ _).mono ?_
    rintro e w1 ⟨rfl, hb1⟩
    have hs1 := hb1.size
    try simp only [World.size_alloc, World.size_setCell, World.size_drew, size_drewN] at hs1
    have hc1_0 : ∀ o, w1.cell? ⟨w.heap.size, o, none⟩ = _ := fun o => hb1.cell (p := ⟨w.heap.size, o, none⟩) (by ((try simp only [World.size_alloc, World.size_setCell, World.size_drew, size_drewN]); omega))
    have hf1_0 : ∀ o, w1.frozen? ⟨w.heap.size, o, none⟩ = _ := fun o => hb1.frozen (p := ⟨w.heap.size, o, none⟩) (by ((try simp only [World.size_alloc, World.size_setCell, World.size_drew, size_drewN]); omega))
    have z1_0 : w.heap.size < w1.heap.size := (by omega)
    have hc1_1 : ∀ o, w1.cell? ⟨w.heap.size + 1, o, none⟩ = _ := fun o => hb1.cell (p := ⟨w.heap.size + 1, o, none⟩) (by ((try simp only [World.size_alloc, World.size_setCell, World.size_drew, size_drewN]); omega))
    have hf1_1 : ∀ o, w1.frozen? ⟨w.heap.size + 1, o, none⟩ = _ := fun o => hb1.frozen (p := ⟨w.heap.size + 1, o, none⟩) (by ((try simp only [World.size_alloc, World.size_setCell, World.size_drew, size_drewN]); omega))
    have z1_1 : w.heap.size + 1 < w1.heap.size := (by omega)
    go_wp2
    refine cutP (fun W => Box W (w.heap.size + 1) (P 12) (0) (0) (0) ∧ Below w.heap.size w W) ?_ ?_
    · refine ⟨?_, (by (repeat' (first | (with_reducible exact Below.refl _ _) | (with_reducible assumption) | (with_reducible refine Below.alloc ?_ ?_ _) | (with_reducible refine Below.drew ?_) | (with_reducible refine below_drewN ?_ _) | (with_reducible refine Below.setCell ?_ ?_ _) | (with_reducible refine below_step (by with_reducible assumption) ?_ ?_) | (first | (with_reducible exact Nat.le_refl _) | (with_reducible assumption) | omega | (simp only [World.size_alloc, World.size_setCell, World.size_drew, size_drewN]; omega) | (simp; omega) | (simp; done)))))⟩ <;> (constructor <;> (first | (simp only [World.size_alloc, World.size_setCell, World.size_drew, size_drewN]; omega) | (simp (maxDischargeDepth := 16) [go_sem, *, World.cell?_alloc_some, World.cell?_setCell_far]; done)))
    rintro W ⟨bx0, hbW⟩
    obtain ⟨rc00, rc01, rc02, rc03, rf00, rf01, rf02, rf03, rlt0⟩ := bx0
    refine bodyPost_ret ?_ rfl ⟨rfl, hbW⟩
    simp [results, Try.results42, go_sem, rc00, rc01, rc02, rc03]
  by_cases h8 : k = 8
  · subst h8
    have e : p256 w.heap.size 8 = .pointer (some ⟨w.heap.size, 13, none⟩) := rfl
    have g0 : getL P 8 0 = P 13 := rfl
    have g1 : getL P 8 1 = P 14 := rfl
    have g2 : getL P 8 2 = P 15 := rfl
    have g3 : getL P 8 3 = P 16 := rfl
    have ge : getE 8 = 0 := rfl
    rw [g0, g1, g2, g3, ge]
    go_enter Try.func42, Try.ntmps42
    go_wp2_with fail
    refine (fld256_c _ _ _).mono ?_
    rintro e w1 ⟨rfl, rfl⟩
    rw [e]
    go_wp2
    go_returns
    exact ⟨rfl, (by (repeat' (first | (with_reducible exact Below.refl _ _) | (with_reducible assumption) | (with_reducible refine Below.alloc ?_ ?_ _) | (with_reducible refine Below.drew ?_) | (with_reducible refine below_drewN ?_ _) | (with_reducible refine Below.setCell ?_ ?_ _) | (with_reducible refine below_step (by with_reducible assumption) ?_ ?_) | (first | (with_reducible exact Nat.le_refl _) | (with_reducible assumption) | omega | (simp only [World.size_alloc, World.size_setCell, World.size_drew, size_drewN]; omega) | (simp; omega) | (simp; done)))))⟩
  by_cases h9 : k = 9
  · subst h9
    have e : p256 w.heap.size 9 = .pointer none := rfl
    have e' : p64 w.heap.size 9 = .pointer (some ⟨w.heap.size, 17, none⟩) := rfl
    have g0 : getL P 9 0 = P 17 := rfl
    have g1 : getL P 9 1 = 0 := rfl
    have g2 : getL P 9 2 = 0 := rfl
    have g3 : getL P 9 3 = 0 := rfl
    have ge : getE 9 = 0 := rfl
    rw [g0, g1, g2, g3, ge]
    go_enter Try.func42, Try.ntmps42
    go_wp2_with fail
    refine (fld256_c _ _ _).mono ?_
    rintro e w1 ⟨rfl, rfl⟩
    rw [e]
    go_wp2_with fail
    refine (fld64_c _ _ _).mono ?_
    rintro e w1 ⟨rfl, rfl⟩
    rw [e']
    go_wp2_with fail
    refine (from_c _ _).mono ?_
    rintro e w1 ⟨rfl, hb1⟩
    have hs1 := hb1.size
    try simp only [World.size_alloc, World.size_setCell, World.size_drew, size_drewN] at hs1
    have hc1_0 : ∀ o, w1.cell? ⟨w.heap.size, o, none⟩ = _ := fun o => hb1.cell (p := ⟨w.heap.size, o, none⟩) (by ((try simp only [World.size_alloc, World.size_setCell, World.size_drew, size_drewN]); omega))
    have hf1_0 : ∀ o, w1.frozen? ⟨w.heap.size, o, none⟩ = _ := fun o => hb1.frozen (p := ⟨w.heap.size, o, none⟩) (by ((try simp only [World.size_alloc, World.size_setCell, World.size_drew, size_drewN]); omega))
    have z1_0 : w.heap.size < w1.heap.size := (by omega)
    have hc1_1 : ∀ o, w1.cell? ⟨w.heap.size + 1, o, none⟩ = _ := fun o => hb1.cell (p := ⟨w.heap.size + 1, o, none⟩) (by ((try simp only [World.size_alloc, World.size_setCell, World.size_drew, size_drewN]); omega))
    have hf1_1 : ∀ o, w1.frozen? ⟨w.heap.size + 1, o, none⟩ = _ := fun o => hb1.frozen (p := ⟨w.heap.size + 1, o, none⟩) (by ((try simp only [World.size_alloc, World.size_setCell, World.size_drew, size_drewN]); omega))
    have z1_1 : w.heap.size + 1 < w1.heap.size := (by omega)
    go_wp2
    refine cutP (fun W => Box W (w.heap.size + 1) (P 17) (0) (0) (0) ∧ Below w.heap.size w W) ?_ ?_
    · refine ⟨?_, (by (repeat' (first | (with_reducible exact Below.refl _ _) | (with_reducible assumption) | (with_reducible refine Below.alloc ?_ ?_ _) | (with_reducible refine Below.drew ?_) | (with_reducible refine below_drewN ?_ _) | (with_reducible refine Below.setCell ?_ ?_ _) | (with_reducible refine below_step (by with_reducible assumption) ?_ ?_) | (first | (with_reducible exact Nat.le_refl _) | (with_reducible assumption) | omega | (simp only [World.size_alloc, World.size_setCell, World.size_drew, size_drewN]; omega) | (simp; omega) | (simp; done)))))⟩ <;> (constructor <;> (first | (simp only [World.size_alloc, World.size_setCell, World.size_drew, size_drewN]; omega) | (simp (maxDischargeDepth := 16) [go_sem, *, World.cell?_alloc_some, World.cell?_setCell_far]; done)))
    rintro W ⟨bx0, hbW⟩
    obtain ⟨rc00, rc01, rc02, rc03, rf00, rf01, rf02, rf03, rlt0⟩ := bx0
    refine bodyPost_ret ?_ rfl ⟨rfl, hbW⟩
    simp [results, Try.results42, go_sem, rc00, rc01, rc02, rc03]
  by_cases h10 : k = 10
  · subst h10
    have e : p256 w.heap.size 10 = .pointer none := rfl
    have e' : p64 w.heap.size 10 = .pointer (some ⟨w.heap.size, 18, none⟩) := rfl
    have g0 : getL P 10 0 = P 18 := rfl
    have g1 : getL P 10 1 = 0 := rfl
    have g2 : getL P 10 2 = 0 := rfl
    have g3 : getL P 10 3 = 0 := rfl
    have ge : getE 10 = 0 := rfl
    rw [g0, g1, g2, g3, ge]
    go_enter Try.func42, Try.ntmps42
    go_wp2_with fail
    refine (fld256_c _ _ _).mono ?_
    rintro e w1 ⟨rfl, rfl⟩
    rw [e]
    go_wp2_with fail
    refine (fld64_c _ _ _).mono ?_
    rintro e w1 ⟨rfl, rfl⟩
    rw [e']
    go_wp2_with fail
    refine (from_c _ _).mono ?_
    rintro e w1 ⟨rfl, hb1⟩
    have hs1 := hb1.size
    try simp only [World.size_alloc, World.size_setCell, World.size_drew, size_drewN] at hs1
    have hc1_0 : ∀ o, w1.cell? ⟨w.heap.size, o, none⟩ = _ := fun o => hb1.cell (p := ⟨w.heap.size, o, none⟩) (by ((try simp only [World.size_alloc, World.size_setCell, World.size_drew, size_drewN]); omega))
    have hf1_0 : ∀ o, w1.frozen? ⟨w.heap.size, o, none⟩ = _ := fun o => hb1.frozen (p := ⟨w.heap.size, o, none⟩) (by ((try simp only [World.size_alloc, World.size_setCell, World.size_drew, size_drewN]); omega))
    have z1_0 : w.heap.size < w1.heap.size := (by omega)
    have hc1_1 : ∀ o, w1.cell? ⟨w.heap.size + 1, o, none⟩ = _ := fun o => hb1.cell (p := ⟨w.heap.size + 1, o, none⟩) (by ((try simp only [World.size_alloc, World.size_setCell, World.size_drew, size_drewN]); omega))
    have hf1_1 : ∀ o, w1.frozen? ⟨w.heap.size + 1, o, none⟩ = _ := fun o => hb1.frozen (p := ⟨w.heap.size + 1, o, none⟩) (by ((try simp only [World.size_alloc, World.size_setCell, World.size_drew, size_drewN]); omega))
    have z1_1 : w.heap.size + 1 < w1.heap.size := (by omega)
    go_wp2
    refine cutP (fun W => Box W (w.heap.size + 1) (P 18) (0) (0) (0) ∧ Below w.heap.size w W) ?_ ?_
    · refine ⟨?_, (by (repeat' (first | (with_reducible exact Below.refl _ _) | (with_reducible assumption) | (with_reducible refine Below.alloc ?_ ?_ _) | (with_reducible refine Below.drew ?_) | (with_reducible refine below_drewN ?_ _) | (with_reducible refine Below.setCell ?_ ?_ _) | (with_reducible refine below_step (by with_reducible assumption) ?_ ?_) | (first | (with_reducible exact Nat.le_refl _) | (with_reducible assumption) | omega | (simp only [World.size_alloc, World.size_setCell, World.size_drew, size_drewN]; omega) | (simp; omega) | (simp; done)))))⟩ <;> (constructor <;> (first | (simp only [World.size_alloc, World.size_setCell, World.size_drew, size_drewN]; omega) | (simp (maxDischargeDepth := 16) [go_sem, *, World.cell?_alloc_some, World.cell?_setCell_far]; done)))
    rintro W ⟨bx0, hbW⟩
    obtain ⟨rc00, rc01, rc02, rc03, rf00, rf01, rf02, rf03, rlt0⟩ := bx0
    refine bodyPost_ret ?_ rfl ⟨rfl, hbW⟩
    simp [results, Try.results42, go_sem, rc00, rc01, rc02, rc03]
  by_cases h11 : k = 11
  · subst h11
    have e : p256 w.heap.size 11 = .pointer none := rfl
    have e' : p64 w.heap.size 11 = .pointer (some ⟨w.heap.size, 19, none⟩) := rfl
    have g0 : getL P 11 0 = P 19 := rfl
    have g1 : getL P 11 1 = 0 := rfl
    have g2 : getL P 11 2 = 0 := rfl
    have g3 : getL P 11 3 = 0 := rfl
    have ge : getE 11 = 0 := rfl
    rw [g0, g1, g2, g3, ge]
    go_enter Try.func42, Try.ntmps42
    go_wp2_with fail
    refine (fld256_c _ _ _).mono ?_
    rintro e w1 ⟨rfl, rfl⟩
    rw [e]
    go_wp2_with fail
    refine (fld64_c _ _ _).mono ?_
    rintro e w1 ⟨rfl, rfl⟩
    rw [e']
    go_wp2_with fail
    refine (from_c _ _).mono ?_
    rintro e w1 ⟨rfl, hb1⟩
    have hs1 := hb1.size
    try simp only [World.size_alloc, World.size_setCell, World.size_drew, size_drewN] at hs1
    have hc1_0 : ∀ o, w1.cell? ⟨w.heap.size, o, none⟩ = _ := fun o => hb1.cell (p := ⟨w.heap.size, o, none⟩) (by ((try simp only [World.size_alloc, World.size_setCell, World.size_drew, size_drewN]); omega))
    have hf1_0 : ∀ o, w1.frozen? ⟨w.heap.size, o, none⟩ = _ := fun o => hb1.frozen (p := ⟨w.heap.size, o, none⟩) (by ((try simp only [World.size_alloc, World.size_setCell, World.size_drew, size_drewN]); omega))
    have z1_0 : w.heap.size < w1.heap.size := (by omega)
    have hc1_1 : ∀ o, w1.cell? ⟨w.heap.size + 1, o, none⟩ = _ := fun o => hb1.cell (p := ⟨w.heap.size + 1, o, none⟩) (by ((try simp only [World.size_alloc, World.size_setCell, World.size_drew, size_drewN]); omega))
    have hf1_1 : ∀ o, w1.frozen? ⟨w.heap.size + 1, o, none⟩ = _ := fun o => hb1.frozen (p := ⟨w.heap.size + 1, o, none⟩) (by ((try simp only [World.size_alloc, World.size_setCell, World.size_drew, size_drewN]); omega))
    have z1_1 : w.heap.size + 1 < w1.heap.size := (by omega)
    go_wp2
    refine cutP (fun W => Box W (w.heap.size + 1) (P 19) (0) (0) (0) ∧ Below w.heap.size w W) ?_ ?_
    · refine ⟨?_, (by (repeat' (first | (with_reducible exact Below.refl _ _) | (with_reducible assumption) | (with_reducible refine Below.alloc ?_ ?_ _) | (with_reducible refine Below.drew ?_) | (with_reducible refine below_drewN ?_ _) | (with_reducible refine Below.setCell ?_ ?_ _) | (with_reducible refine below_step (by with_reducible assumption) ?_ ?_) | (first | (with_reducible exact Nat.le_refl _) | (with_reducible assumption) | omega | (simp only [World.size_alloc, World.size_setCell, World.size_drew, size_drewN]; omega) | (simp; omega) | (simp; done)))))⟩ <;> (constructor <;> (first | (simp only [World.size_alloc, World.size_setCell, World.size_drew, size_drewN]; omega) | (simp (maxDischargeDepth := 16) [go_sem, *, World.cell?_alloc_some, World.cell?_setCell_far]; done)))
    rintro W ⟨bx0, hbW⟩
    obtain ⟨rc00, rc01, rc02, rc03, rf00, rf01, rf02, rf03, rlt0⟩ := bx0
    refine bodyPost_ret ?_ rfl ⟨rfl, hbW⟩
    simp [results, Try.results42, go_sem, rc00, rc01, rc02, rc03]
  by_cases h12 : k = 12
  · subst h12
    have e : p256 w.heap.size 12 = .pointer none := rfl
    have e' : p64 w.heap.size 12 = .pointer (some ⟨w.heap.size, 20, none⟩) := rfl
    have g0 : getL P 12 0 = P 20 := rfl
    have g1 : getL P 12 1 = 0 := rfl
    have g2 : getL P 12 2 = 0 := rfl
    have g3 : getL P 12 3 = 0 := rfl
    have ge : getE 12 = 0 := rfl
    rw [g0, g1, g2, g3, ge]
    go_enter Try.func42, Try.ntmps42
    go_wp2_with fail
    refine (fld256_c _ _ _).mono ?_
    rintro e w1 ⟨rfl, rfl⟩
    rw [e]
    go_wp2_with fail
    refine (fld64_c _ _ _).mono ?_
    rintro e w1 ⟨rfl, rfl⟩
    rw [e']
    go_wp2_with fail
    refine (from_c _ _).mono ?_
    rintro e w1 ⟨rfl, hb1⟩
    have hs1 := hb1.size
    try simp only [World.size_alloc, World.size_setCell, World.size_drew, size_drewN] at hs1
    have hc1_0 : ∀ o, w1.cell? ⟨w.heap.size, o, none⟩ = _ := fun o => hb1.cell (p := ⟨w.heap.size, o, none⟩) (by ((try simp only [World.size_alloc, World.size_setCell, World.size_drew, size_drewN]); omega))
    have hf1_0 : ∀ o, w1.frozen? ⟨w.heap.size, o, none⟩ = _ := fun o => hb1.frozen (p := ⟨w.heap.size, o, none⟩) (by ((try simp only [World.size_alloc, World.size_setCell, World.size_drew, size_drewN]); omega))
    have z1_0 : w.heap.size < w1.heap.size := (by omega)
    have hc1_1 : ∀ o, w1.cell? ⟨w.heap.size + 1, o, none⟩ = _ := fun o => hb1.cell (p := ⟨w.heap.size + 1, o, none⟩) (by ((try simp only [World.size_alloc, World.size_setCell, World.size_drew, size_drewN]); omega))
    have hf1_1 : ∀ o, w1.frozen? ⟨w.heap.size + 1, o, none⟩ = _ := fun o => hb1.frozen (p := ⟨w.heap.size + 1, o, none⟩) (by ((try simp only [World.size_alloc, World.size_setCell, World.size_drew, size_drewN]); omega))
    have z1_1 : w.heap.size + 1 < w1.heap.size := (by omega)
    go_wp2
    refine cutP (fun W => Box W (w.heap.size + 1) (P 20) (0) (0) (0) ∧ Below w.heap.size w W) ?_ ?_
    · refine ⟨?_, (by (repeat' (first | (with_reducible exact Below.refl _ _) | (with_reducible assumption) | (with_reducible refine Below.alloc ?_ ?_ _) | (with_reducible refine Below.drew ?_) | (with_reducible refine below_drewN ?_ _) | (with_reducible refine Below.setCell ?_ ?_ _) | (with_reducible refine below_step (by with_reducible assumption) ?_ ?_) | (first | (with_reducible exact Nat.le_refl _) | (with_reducible assumption) | omega | (simp only [World.size_alloc, World.size_setCell, World.size_drew, size_drewN]; omega) | (simp; omega) | (simp; done)))))⟩ <;> (constructor <;> (first | (simp only [World.size_alloc, World.size_setCell, World.size_drew, size_drewN]; omega) | (simp (maxDischargeDepth := 16) [go_sem, *, World.cell?_alloc_some, World.cell?_setCell_far]; done)))
    rintro W ⟨bx0, hbW⟩
    obtain ⟨rc00, rc01, rc02, rc03, rf00, rf01, rf02, rf03, rlt0⟩ := bx0
    refine bodyPost_ret ?_ rfl ⟨rfl, hbW⟩
    simp [results, Try.results42, go_sem, rc00, rc01, rc02, rc03]
  have a256 : f256 k = none := by simp [f256, h4, h6, h8]
  have a64 : f64 k = none := by simp [f64, h1, h2, h3, h5, h7, h9, h10, h11, h12]
  have e : p256 w.heap.size k = .pointer none := by rw [p256, a256]
  have e' : p64 w.heap.size k = .pointer none := by rw [p64, a64]
  have g0 : getL P k 0 = 0 := by rw [getL, a256, a64]
  have g1 : getL P k 1 = 0 := by rw [getL, a256, a64]
  have g2 : getL P k 2 = 0 := by rw [getL, a256, a64]
  have g3 : getL P k 3 = 0 := by rw [getL, a256, a64]
  have ge : getE k = 17 := by rw [getE, if_neg (by omega)]
  rw [g0, g1, g2, g3, ge]
  clear h1 h2 h3 h4 h5 h6 h7 h8 h9 h10 h11 h12 a256 a64 g0 g1 g2 g3 ge
  go_enter Try.func42, Try.ntmps42
  go_wp2_with fail
  refine (fld256_c _ _ _).mono ?_
  rintro e w1 ⟨rfl, rfl⟩
  rw [e]
  go_wp2_with fail
  refine (fld64_c _ _ _).mono ?_
  rintro e w1 ⟨rfl, rfl⟩
  rw [e']
  go_wp2
  go_returns
  exact ⟨rfl, (by (repeat' (first | (with_reducible exact Below.refl _ _) | (with_reducible assumption) | (with_reducible refine Below.alloc ?_ ?_ _) | (with_reducible refine Below.drew ?_) | (with_reducible refine below_drewN ?_ _) | (with_reducible refine Below.setCell ?_ ?_ _) | (with_reducible refine below_step (by with_reducible assumption) ?_ ?_) | (first | (with_reducible exact Nat.le_refl _) | (with_reducible assumption) | omega | (simp only [World.size_alloc, World.size_setCell, World.size_drew, size_drewN]; omega) | (simp; omega) | (simp; done)))))⟩
end Go.Proofs.Ytkneiobohhhcpaa
