/- Package pontageref2, walked: Div512. -/
import Derived.WalkKit
import Derived.KernelRfl
import Derived.RowKit3
import Derived.Deep.LoopGhost
import Derived.Deep.QuietTactic
import Derived.BigQuiet
import Derived.WideLaws
import Derived.Laws.Rows
import Derived.Below
import Derived.Deep.Draws
import Derived.Outline
import Derived.LoopN
import Derived.Handy
import Derived.Laws.Externs
import Derived.Laws.BitsAllLaws
import Derived.Laws.BitsLemmas
import Derived.Deep.DeepCutAuto
import Derived.Deep.CutBlock
import Derived.Deep.RegionHeld3
import Derived.Test.YtjgodkpeapeflaaR20
namespace Go.Proofs.Ytjgodkpeapeflaa
open Go.RowKit
set_option linter.unusedVariables false
set_option linter.unusedSimpArgs false
theorem div_fits {L H C : Nat} (hL : L < M256) (hC : 0 < C) : (L + M256 * H) / C < M256 ↔ H < C := by
  rw [Nat.div_lt_iff_lt_mul hC]
  constructor
  · intro h
    rcases Nat.lt_or_ge H C with h1 | h1
    · exact h1
    · have := Nat.mul_le_mul_left M256 h1; omega
  · intro h
    have h3 : M256 * (H + 1) ≤ M256 * C := Nat.mul_le_mul_left _ h
    rw [Nat.mul_add] at h3
    omega
set_option maxHeartbeats 8000000 in
theorem rdiv512_c {L H C : Nat} (hL : L < M256) (hH : H < M256) (hC : C < M256) (w : World) :
    Calls Try.prog 14 #[.agg #[.int .u64 (lim L 0), .int .u64 (lim L 1), .int .u64 (lim L 2), .int .u64 (lim L 3)], .agg #[.int .u64 (lim H 0), .int .u64 (lim H 1), .int .u64 (lim H 2), .int .u64 (lim H 3)], .agg #[.int .u64 (lim C 0), .int .u64 (lim C 1), .int .u64 (lim C 2), .int .u64 (lim C 3)]] w fun e w' => e = .returned (.tuple #[.agg #[.int .u64 (lim (divQ L H C) 0), .int .u64 (lim (divQ L H C) 1), .int .u64 (lim (divQ L H C) 2), .int .u64 (lim (divQ L H C) 3)], .agg #[.int .u64 (lim (divR L H C) 0), .int .u64 (lim (divR L H C) 1), .int .u64 (lim (divR L H C) 2), .int .u64 (lim (divR L H C) 3)], .int .i64 (divE H C)]) ∧ Below w.heap.size w w' := by
  have FJ := hide (rjoin_c hL hH)
  have FC := hide (from256_c (isU_lim hC))
  have HZ := hide (isz_c hC)
  have hRl := divR_lt (L := L) (H := H) hC
  by_cases hz : C = 0
  · have hd : decide (C = 0) = true := decide_eq_true hz
    have e1 : divQ L H C = 0 := by rw [divQ, if_neg (by omega)]
    have e2 : divR L H C = 0 := by rw [divR, if_neg (by omega)]
    have e3 : divE H C = 5 := by rw [divE, if_pos hz]
    rw [e1, e2, e3, lim_zero, lim_zero, lim_zero, lim_zero]
    clear hz e1 e2 e3 hL hH hC FJ FC hRl
    go_enter Try.func14, Try.ntmps14
    go_wp2_with fail
    refine (HZ.out _).mono ?_
    rintro e w1 ⟨rfl, hb1⟩
    have hs1 := hb1.size
    try simp only [World.size_alloc, World.size_setCell, World.size_drew, size_drewN] at hs1
    have hc1_0 : ∀ o, w1.cell? ⟨w.heap.size, o, none⟩ = _ := fun o => hb1.cell (p := ⟨w.heap.size, o, none⟩) (by ((try simp only [World.size_alloc, World.size_setCell, World.size_drew, size_drewN]); omega))
    have hf1_0 : ∀ o, w1.frozen? ⟨w.heap.size, o, none⟩ = _ := fun o => hb1.frozen (p := ⟨w.heap.size, o, none⟩) (by ((try simp only [World.size_alloc, World.size_setCell, World.size_drew, size_drewN]); omega))
    have z1_0 : w.heap.size < w1.heap.size := (by omega)
    have hc1_1 : ∀ o, w1.cell? ⟨w.heap.size + 1, o, none⟩ = _ := fun o => hb1.cell (p := ⟨w.heap.size + 1, o, none⟩) (by ((try simp only [World.size_alloc, World.size_setCell, World.size_drew, size_drewN]); omega))
    have hf1_1 : ∀ o, w1.frozen? ⟨w.heap.size + 1, o, none⟩ = _ := fun o => hb1.frozen (p := ⟨w.heap.size + 1, o, none⟩) (by ((try simp only [World.size_alloc, World.size_setCell, World.size_drew, size_drewN]); omega))
    have z1_1 : w.heap.size + 1 < w1.heap.size := (by omega)
    have hc1_2 : ∀ o, w1.cell? ⟨w.heap.size + 1 + 1, o, none⟩ = _ := fun o => hb1.cell (p := ⟨w.heap.size + 1 + 1, o, none⟩) (by ((try simp only [World.size_alloc, World.size_setCell, World.size_drew, size_drewN]); omega))
    have hf1_2 : ∀ o, w1.frozen? ⟨w.heap.size + 1 + 1, o, none⟩ = _ := fun o => hb1.frozen (p := ⟨w.heap.size + 1 + 1, o, none⟩) (by ((try simp only [World.size_alloc, World.size_setCell, World.size_drew, size_drewN]); omega))
    have z1_2 : w.heap.size + 1 + 1 < w1.heap.size := (by omega)
    have hc1_3 : ∀ o, w1.cell? ⟨w.heap.size + 1 + 1 + 1, o, none⟩ = _ := fun o => hb1.cell (p := ⟨w.heap.size + 1 + 1 + 1, o, none⟩) (by ((try simp only [World.size_alloc, World.size_setCell, World.size_drew, size_drewN]); omega))
    have hf1_3 : ∀ o, w1.frozen? ⟨w.heap.size + 1 + 1 + 1, o, none⟩ = _ := fun o => hb1.frozen (p := ⟨w.heap.size + 1 + 1 + 1, o, none⟩) (by ((try simp only [World.size_alloc, World.size_setCell, World.size_drew, size_drewN]); omega))
    have z1_3 : w.heap.size + 1 + 1 + 1 < w1.heap.size := (by omega)
    have hc1_4 : ∀ o, w1.cell? ⟨w.heap.size + 1 + 1 + 1 + 1, o, none⟩ = _ := fun o => hb1.cell (p := ⟨w.heap.size + 1 + 1 + 1 + 1, o, none⟩) (by ((try simp only [World.size_alloc, World.size_setCell, World.size_drew, size_drewN]); omega))
    have hf1_4 : ∀ o, w1.frozen? ⟨w.heap.size + 1 + 1 + 1 + 1, o, none⟩ = _ := fun o => hb1.frozen (p := ⟨w.heap.size + 1 + 1 + 1 + 1, o, none⟩) (by ((try simp only [World.size_alloc, World.size_setCell, World.size_drew, size_drewN]); omega))
    have z1_4 : w.heap.size + 1 + 1 + 1 + 1 < w1.heap.size := (by omega)
    go_wp2
    refine cutW (fun W => Box W (w.heap.size + 1 + 1 + 1) (0) (0) (0) (0) ∧ Box W (w.heap.size + 1 + 1 + 1 + 1) (0) (0) (0) (0) ∧ Below w.heap.size w W) ?_ ?_
    · refine ⟨?_, ?_, (by (repeat' (first | (with_reducible exact Below.refl _ _) | (with_reducible assumption) | (with_reducible refine Below.alloc ?_ ?_ _) | (with_reducible refine Below.drew ?_) | (with_reducible refine below_drewN ?_ _) | (with_reducible refine Below.setCell ?_ ?_ _) | (with_reducible refine below_step (by with_reducible assumption) ?_ ?_) | (first | (with_reducible exact Nat.le_refl _) | (with_reducible assumption) | omega | (simp only [World.size_alloc, World.size_setCell, World.size_drew, size_drewN]; omega) | (simp; omega) | (simp; done)))))⟩ <;> (constructor <;> (first | (simp only [World.size_alloc, World.size_setCell, World.size_drew, size_drewN]; omega) | (simp (maxDischargeDepth := 16) [go_sem, *, World.cell?_alloc_some, World.cell?_setCell_far]; done)))
    rintro W ⟨bx0, bx1, hbW⟩
    obtain ⟨rc00, rc01, rc02, rc03, rf00, rf01, rf02, rf03, rlt0⟩ := bx0
    obtain ⟨rc10, rc11, rc12, rc13, rf10, rf11, rf12, rf13, rlt1⟩ := bx1
    refine bodyPost_ret ?_ rfl ⟨rfl, hbW⟩
    simp [results, Try.results14, go_sem, rc00, rc01, rc02, rc03, rc10, rc11, rc12, rc13]
  · have hd : decide (C = 0) = false := decide_eq_false hz
    have hC0 : 0 < C := by omega
    have hfit := div_fits (H := H) hL hC0
    by_cases hlt : H < C
    · have e1 : divQ L H C = (L + M256 * H) / C := if_pos hlt
      have e2 : divR L H C = (L + M256 * H) % C := if_pos hlt
      have e3 : divE H C = 0 := by rw [divE, if_neg hz, if_pos hlt]
      have hq := hfit.2 hlt
      rw [e2] at hRl
      rw [e1, e2, e3]
      have hnd := nd16.2 hq
      have HQ := hide hq
      have HRl := hide hRl
      clear hfit e1 e2 e3 hL hH hC hz hlt hq hRl
      go_enter Try.func14, Try.ntmps14
      go_wp2_with fail
      refine (HZ.out _).mono ?_
      rintro e w1 ⟨rfl, hb1⟩
      have hs1 := hb1.size
      try simp only [World.size_alloc, World.size_setCell, World.size_drew, size_drewN] at hs1
      have hc1_0 : ∀ o, w1.cell? ⟨w.heap.size, o, none⟩ = _ := fun o => hb1.cell (p := ⟨w.heap.size, o, none⟩) (by ((try simp only [World.size_alloc, World.size_setCell, World.size_drew, size_drewN]); omega))
      have hf1_0 : ∀ o, w1.frozen? ⟨w.heap.size, o, none⟩ = _ := fun o => hb1.frozen (p := ⟨w.heap.size, o, none⟩) (by ((try simp only [World.size_alloc, World.size_setCell, World.size_drew, size_drewN]); omega))
      have z1_0 : w.heap.size < w1.heap.size := (by omega)
      have hc1_1 : ∀ o, w1.cell? ⟨w.heap.size + 1, o, none⟩ = _ := fun o => hb1.cell (p := ⟨w.heap.size + 1, o, none⟩) (by ((try simp only [World.size_alloc, World.size_setCell, World.size_drew, size_drewN]); omega))
      have hf1_1 : ∀ o, w1.frozen? ⟨w.heap.size + 1, o, none⟩ = _ := fun o => hb1.frozen (p := ⟨w.heap.size + 1, o, none⟩) (by ((try simp only [World.size_alloc, World.size_setCell, World.size_drew, size_drewN]); omega))
      have z1_1 : w.heap.size + 1 < w1.heap.size := (by omega)
      have hc1_2 : ∀ o, w1.cell? ⟨w.heap.size + 1 + 1, o, none⟩ = _ := fun o => hb1.cell (p := ⟨w.heap.size + 1 + 1, o, none⟩) (by ((try simp only [World.size_alloc, World.size_setCell, World.size_drew, size_drewN]); omega))
      have hf1_2 : ∀ o, w1.frozen? ⟨w.heap.size + 1 + 1, o, none⟩ = _ := fun o => hb1.frozen (p := ⟨w.heap.size + 1 + 1, o, none⟩) (by ((try simp only [World.size_alloc, World.size_setCell, World.size_drew, size_drewN]); omega))
      have z1_2 : w.heap.size + 1 + 1 < w1.heap.size := (by omega)
      have hc1_3 : ∀ o, w1.cell? ⟨w.heap.size + 1 + 1 + 1, o, none⟩ = _ := fun o => hb1.cell (p := ⟨w.heap.size + 1 + 1 + 1, o, none⟩) (by ((try simp only [World.size_alloc, World.size_setCell, World.size_drew, size_drewN]); omega))
      have hf1_3 : ∀ o, w1.frozen? ⟨w.heap.size + 1 + 1 + 1, o, none⟩ = _ := fun o => hb1.frozen (p := ⟨w.heap.size + 1 + 1 + 1, o, none⟩) (by ((try simp only [World.size_alloc, World.size_setCell, World.size_drew, size_drewN]); omega))
      have z1_3 : w.heap.size + 1 + 1 + 1 < w1.heap.size := (by omega)
      have hc1_4 : ∀ o, w1.cell? ⟨w.heap.size + 1 + 1 + 1 + 1, o, none⟩ = _ := fun o => hb1.cell (p := ⟨w.heap.size + 1 + 1 + 1 + 1, o, none⟩) (by ((try simp only [World.size_alloc, World.size_setCell, World.size_drew, size_drewN]); omega))
      have hf1_4 : ∀ o, w1.frozen? ⟨w.heap.size + 1 + 1 + 1 + 1, o, none⟩ = _ := fun o => hb1.frozen (p := ⟨w.heap.size + 1 + 1 + 1 + 1, o, none⟩) (by ((try simp only [World.size_alloc, World.size_setCell, World.size_drew, size_drewN]); omega))
      have z1_4 : w.heap.size + 1 + 1 + 1 + 1 < w1.heap.size := (by omega)
      go_wp2_with fail
      go_region_held3 (fun w' => w'.cell? ⟨w.heap.size, 0, none⟩ = some (.int .u64 (lim L 0)) ∧ w'.cell? ⟨w.heap.size, 1, none⟩ = some (.int .u64 (lim L 1)) ∧ w'.cell? ⟨w.heap.size, 2, none⟩ = some (.int .u64 (lim L 2)) ∧ w'.cell? ⟨w.heap.size, 3, none⟩ = some (.int .u64 (lim L 3)) ∧ w'.cell? ⟨w.heap.size + 1, 0, none⟩ = some (.int .u64 (lim H 0)) ∧ w'.cell? ⟨w.heap.size + 1, 1, none⟩ = some (.int .u64 (lim H 1)) ∧ w'.cell? ⟨w.heap.size + 1, 2, none⟩ = some (.int .u64 (lim H 2)) ∧ w'.cell? ⟨w.heap.size + 1, 3, none⟩ = some (.int .u64 (lim H 3)) ∧ w'.cell? ⟨w.heap.size + 1 + 1, 0, none⟩ = some (.int .u64 (lim C 0)) ∧ w'.cell? ⟨w.heap.size + 1 + 1, 1, none⟩ = some (.int .u64 (lim C 1)) ∧ w'.cell? ⟨w.heap.size + 1 + 1, 2, none⟩ = some (.int .u64 (lim C 2)) ∧ w'.cell? ⟨w.heap.size + 1 + 1, 3, none⟩ = some (.int .u64 (lim C 3))) (simp (maxDischargeDepth := 16) [go_sem, *, World.cell?_alloc_some, World.cell?_setCell_far]) (first | (go_at_call 35; (with_reducible refine (FJ.out _).mono ?_); rintro e w2 ⟨ad1, n1, c1, rfl, hB1, hl1, hb2⟩; (have hs2 := hb2.size); (try simp only [World.size_alloc, World.size_setCell, World.size_drew, size_drewN] at hs2); (have hc2_0 : ∀ o, w2.cell? ⟨w.heap.size, o, none⟩ = _ := fun o => hb2.cell (p := ⟨w.heap.size, o, none⟩) (by ((try simp only [World.size_alloc, World.size_setCell, World.size_drew, size_drewN]); omega))); (have hf2_0 : ∀ o, w2.frozen? ⟨w.heap.size, o, none⟩ = _ := fun o => hb2.frozen (p := ⟨w.heap.size, o, none⟩) (by ((try simp only [World.size_alloc, World.size_setCell, World.size_drew, size_drewN]); omega))); (have z2_0 : w.heap.size < w2.heap.size := (by omega)); (have hc2_1 : ∀ o, w2.cell? ⟨w.heap.size + 1, o, none⟩ = _ := fun o => hb2.cell (p := ⟨w.heap.size + 1, o, none⟩) (by ((try simp only [World.size_alloc, World.size_setCell, World.size_drew, size_drewN]); omega))); (have hf2_1 : ∀ o, w2.frozen? ⟨w.heap.size + 1, o, none⟩ = _ := fun o => hb2.frozen (p := ⟨w.heap.size + 1, o, none⟩) (by ((try simp only [World.size_alloc, World.size_setCell, World.size_drew, size_drewN]); omega))); (have z2_1 : w.heap.size + 1 < w2.heap.size := (by omega)); (have hc2_2 : ∀ o, w2.cell? ⟨w.heap.size + 1 + 1, o, none⟩ = _ := fun o => hb2.cell (p := ⟨w.heap.size + 1 + 1, o, none⟩) (by ((try simp only [World.size_alloc, World.size_setCell, World.size_drew, size_drewN]); omega))); (have hf2_2 : ∀ o, w2.frozen? ⟨w.heap.size + 1 + 1, o, none⟩ = _ := fun o => hb2.frozen (p := ⟨w.heap.size + 1 + 1, o, none⟩) (by ((try simp only [World.size_alloc, World.size_setCell, World.size_drew, size_drewN]); omega))); (have z2_2 : w.heap.size + 1 + 1 < w2.heap.size := (by omega)); (have hc2_3 : ∀ o, w2.cell? ⟨w.heap.size + 1 + 1 + 1, o, none⟩ = _ := fun o => hb2.cell (p := ⟨w.heap.size + 1 + 1 + 1, o, none⟩) (by ((try simp only [World.size_alloc, World.size_setCell, World.size_drew, size_drewN]); omega))); (have hf2_3 : ∀ o, w2.frozen? ⟨w.heap.size + 1 + 1 + 1, o, none⟩ = _ := fun o => hb2.frozen (p := ⟨w.heap.size + 1 + 1 + 1, o, none⟩) (by ((try simp only [World.size_alloc, World.size_setCell, World.size_drew, size_drewN]); omega))); (have z2_3 : w.heap.size + 1 + 1 + 1 < w2.heap.size := (by omega)); (have hc2_4 : ∀ o, w2.cell? ⟨w.heap.size + 1 + 1 + 1 + 1, o, none⟩ = _ := fun o => hb2.cell (p := ⟨w.heap.size + 1 + 1 + 1 + 1, o, none⟩) (by ((try simp only [World.size_alloc, World.size_setCell, World.size_drew, size_drewN]); omega))); (have hf2_4 : ∀ o, w2.frozen? ⟨w.heap.size + 1 + 1 + 1 + 1, o, none⟩ = _ := fun o => hb2.frozen (p := ⟨w.heap.size + 1 + 1 + 1 + 1, o, none⟩) (by ((try simp only [World.size_alloc, World.size_setCell, World.size_drew, size_drewN]); omega))); (have z2_4 : w.heap.size + 1 + 1 + 1 + 1 < w2.heap.size := (by omega))) | (go_at_call 29; (with_reducible refine (FC.out _).mono ?_); rintro e w3 ⟨ad2, n2, c2, rfl, hB2, hl2, hb3⟩; (have hs3 := hb3.size); (try simp only [World.size_alloc, World.size_setCell, World.size_drew, size_drewN] at hs3); (have hc3_0 : ∀ o, w3.cell? ⟨w.heap.size, o, none⟩ = _ := fun o => hb3.cell (p := ⟨w.heap.size, o, none⟩) (by ((try simp only [World.size_alloc, World.size_setCell, World.size_drew, size_drewN]); omega))); (have hf3_0 : ∀ o, w3.frozen? ⟨w.heap.size, o, none⟩ = _ := fun o => hb3.frozen (p := ⟨w.heap.size, o, none⟩) (by ((try simp only [World.size_alloc, World.size_setCell, World.size_drew, size_drewN]); omega))); (have z3_0 : w.heap.size < w3.heap.size := (by omega)); (have hc3_1 : ∀ o, w3.cell? ⟨w.heap.size + 1, o, none⟩ = _ := fun o => hb3.cell (p := ⟨w.heap.size + 1, o, none⟩) (by ((try simp only [World.size_alloc, World.size_setCell, World.size_drew, size_drewN]); omega))); (have hf3_1 : ∀ o, w3.frozen? ⟨w.heap.size + 1, o, none⟩ = _ := fun o => hb3.frozen (p := ⟨w.heap.size + 1, o, none⟩) (by ((try simp only [World.size_alloc, World.size_setCell, World.size_drew, size_drewN]); omega))); (have z3_1 : w.heap.size + 1 < w3.heap.size := (by omega)); (have hc3_2 : ∀ o, w3.cell? ⟨w.heap.size + 1 + 1, o, none⟩ = _ := fun o => hb3.cell (p := ⟨w.heap.size + 1 + 1, o, none⟩) (by ((try simp only [World.size_alloc, World.size_setCell, World.size_drew, size_drewN]); omega))); (have hf3_2 : ∀ o, w3.frozen? ⟨w.heap.size + 1 + 1, o, none⟩ = _ := fun o => hb3.frozen (p := ⟨w.heap.size + 1 + 1, o, none⟩) (by ((try simp only [World.size_alloc, World.size_setCell, World.size_drew, size_drewN]); omega))); (have z3_2 : w.heap.size + 1 + 1 < w3.heap.size := (by omega)); (have hc3_3 : ∀ o, w3.cell? ⟨w.heap.size + 1 + 1 + 1, o, none⟩ = _ := fun o => hb3.cell (p := ⟨w.heap.size + 1 + 1 + 1, o, none⟩) (by ((try simp only [World.size_alloc, World.size_setCell, World.size_drew, size_drewN]); omega))); (have hf3_3 : ∀ o, w3.frozen? ⟨w.heap.size + 1 + 1 + 1, o, none⟩ = _ := fun o => hb3.frozen (p := ⟨w.heap.size + 1 + 1 + 1, o, none⟩) (by ((try simp only [World.size_alloc, World.size_setCell, World.size_drew, size_drewN]); omega))); (have z3_3 : w.heap.size + 1 + 1 + 1 < w3.heap.size := (by omega)); (have hc3_4 : ∀ o, w3.cell? ⟨w.heap.size + 1 + 1 + 1 + 1, o, none⟩ = _ := fun o => hb3.cell (p := ⟨w.heap.size + 1 + 1 + 1 + 1, o, none⟩) (by ((try simp only [World.size_alloc, World.size_setCell, World.size_drew, size_drewN]); omega))); (have hf3_4 : ∀ o, w3.frozen? ⟨w.heap.size + 1 + 1 + 1 + 1, o, none⟩ = _ := fun o => hb3.frozen (p := ⟨w.heap.size + 1 + 1 + 1 + 1, o, none⟩) (by ((try simp only [World.size_alloc, World.size_setCell, World.size_drew, size_drewN]); omega))); (have z3_4 : w.heap.size + 1 + 1 + 1 + 1 < w3.heap.size := (by omega)); have hB1b := hide (hB1.out.below hb3 (by simp))) | (go_at_call 34; (with_reducible refine (rdiv_c ad1 n1 c1 ad2 n2 c2 _ hB1b hB2 hC0 (by omega) (by omega)).mono ?_); rintro e w4 ⟨ad5, n5, c5, ad6, n6, c6, rfl, hB5, hB6, hl5, hl6, hb4⟩; (have hs4 := hb4.size); (try simp only [World.size_alloc, World.size_setCell, World.size_drew, size_drewN] at hs4); (have hc4_0 : ∀ o, w4.cell? ⟨w.heap.size, o, none⟩ = _ := fun o => hb4.cell (p := ⟨w.heap.size, o, none⟩) (by ((try simp only [World.size_alloc, World.size_setCell, World.size_drew, size_drewN]); omega))); (have hf4_0 : ∀ o, w4.frozen? ⟨w.heap.size, o, none⟩ = _ := fun o => hb4.frozen (p := ⟨w.heap.size, o, none⟩) (by ((try simp only [World.size_alloc, World.size_setCell, World.size_drew, size_drewN]); omega))); (have z4_0 : w.heap.size < w4.heap.size := (by omega)); (have hc4_1 : ∀ o, w4.cell? ⟨w.heap.size + 1, o, none⟩ = _ := fun o => hb4.cell (p := ⟨w.heap.size + 1, o, none⟩) (by ((try simp only [World.size_alloc, World.size_setCell, World.size_drew, size_drewN]); omega))); (have hf4_1 : ∀ o, w4.frozen? ⟨w.heap.size + 1, o, none⟩ = _ := fun o => hb4.frozen (p := ⟨w.heap.size + 1, o, none⟩) (by ((try simp only [World.size_alloc, World.size_setCell, World.size_drew, size_drewN]); omega))); (have z4_1 : w.heap.size + 1 < w4.heap.size := (by omega)); (have hc4_2 : ∀ o, w4.cell? ⟨w.heap.size + 1 + 1, o, none⟩ = _ := fun o => hb4.cell (p := ⟨w.heap.size + 1 + 1, o, none⟩) (by ((try simp only [World.size_alloc, World.size_setCell, World.size_drew, size_drewN]); omega))); (have hf4_2 : ∀ o, w4.frozen? ⟨w.heap.size + 1 + 1, o, none⟩ = _ := fun o => hb4.frozen (p := ⟨w.heap.size + 1 + 1, o, none⟩) (by ((try simp only [World.size_alloc, World.size_setCell, World.size_drew, size_drewN]); omega))); (have z4_2 : w.heap.size + 1 + 1 < w4.heap.size := (by omega)); (have hc4_3 : ∀ o, w4.cell? ⟨w.heap.size + 1 + 1 + 1, o, none⟩ = _ := fun o => hb4.cell (p := ⟨w.heap.size + 1 + 1 + 1, o, none⟩) (by ((try simp only [World.size_alloc, World.size_setCell, World.size_drew, size_drewN]); omega))); (have hf4_3 : ∀ o, w4.frozen? ⟨w.heap.size + 1 + 1 + 1, o, none⟩ = _ := fun o => hb4.frozen (p := ⟨w.heap.size + 1 + 1 + 1, o, none⟩) (by ((try simp only [World.size_alloc, World.size_setCell, World.size_drew, size_drewN]); omega))); (have z4_3 : w.heap.size + 1 + 1 + 1 < w4.heap.size := (by omega)); (have hc4_4 : ∀ o, w4.cell? ⟨w.heap.size + 1 + 1 + 1 + 1, o, none⟩ = _ := fun o => hb4.cell (p := ⟨w.heap.size + 1 + 1 + 1 + 1, o, none⟩) (by ((try simp only [World.size_alloc, World.size_setCell, World.size_drew, size_drewN]); omega))); (have hf4_4 : ∀ o, w4.frozen? ⟨w.heap.size + 1 + 1 + 1 + 1, o, none⟩ = _ := fun o => hb4.frozen (p := ⟨w.heap.size + 1 + 1 + 1 + 1, o, none⟩) (by ((try simp only [World.size_alloc, World.size_setCell, World.size_drew, size_drewN]); omega))); (have z4_4 : w.heap.size + 1 + 1 + 1 + 1 < w4.heap.size := (by omega))))
      have hn5 : n5 ≤ 16 := by rw [hB5.out.hn]; exact hnd
      have hft : decide (n5 ≤ 16) = true := decide_eq_true hn5
      go_wp2_with fail
      refine (fits_c _ _ _ _).mono ?_
      rintro e w5 ⟨rfl, rfl⟩
      go_wp2_with fail
      refine (toBig_c HQ.out hB5 (by omega)).mono ?_
      rintro e w7 ⟨rfl, hb7⟩
      have hs7 := hb7.size
      try simp only [World.size_alloc, World.size_setCell, World.size_drew, size_drewN] at hs7
      have hc7_3 : ∀ o, w7.cell? ⟨w.heap.size + 1 + 1 + 1, o, none⟩ = _ := fun o => hb7.cell (p := ⟨w.heap.size + 1 + 1 + 1, o, none⟩) (by ((try simp only [World.size_alloc, World.size_setCell, World.size_drew, size_drewN]); omega))
      have hf7_3 : ∀ o, w7.frozen? ⟨w.heap.size + 1 + 1 + 1, o, none⟩ = _ := fun o => hb7.frozen (p := ⟨w.heap.size + 1 + 1 + 1, o, none⟩) (by ((try simp only [World.size_alloc, World.size_setCell, World.size_drew, size_drewN]); omega))
      have z7_3 : w.heap.size + 1 + 1 + 1 < w7.heap.size := by omega
      have hc7_4 : ∀ o, w7.cell? ⟨w.heap.size + 1 + 1 + 1 + 1, o, none⟩ = _ := fun o => hb7.cell (p := ⟨w.heap.size + 1 + 1 + 1 + 1, o, none⟩) (by ((try simp only [World.size_alloc, World.size_setCell, World.size_drew, size_drewN]); omega))
      have hf7_4 : ∀ o, w7.frozen? ⟨w.heap.size + 1 + 1 + 1 + 1, o, none⟩ = _ := fun o => hb7.frozen (p := ⟨w.heap.size + 1 + 1 + 1 + 1, o, none⟩) (by ((try simp only [World.size_alloc, World.size_setCell, World.size_drew, size_drewN]); omega))
      have z7_4 : w.heap.size + 1 + 1 + 1 + 1 < w7.heap.size := by omega
      go_wp2_with fail
      refine (toBig_c HRl.out (hide (hB6.out.below hb7 (by simp))) (by omega)).mono ?_
      rintro e w8 ⟨rfl, hb8⟩
      have hs8 := hb8.size
      try simp only [World.size_alloc, World.size_setCell, World.size_drew, size_drewN] at hs8
      have hc8_3 : ∀ o, w8.cell? ⟨w.heap.size + 1 + 1 + 1, o, none⟩ = _ := fun o => hb8.cell (p := ⟨w.heap.size + 1 + 1 + 1, o, none⟩) (by ((try simp only [World.size_alloc, World.size_setCell, World.size_drew, size_drewN]); omega))
      have hf8_3 : ∀ o, w8.frozen? ⟨w.heap.size + 1 + 1 + 1, o, none⟩ = _ := fun o => hb8.frozen (p := ⟨w.heap.size + 1 + 1 + 1, o, none⟩) (by ((try simp only [World.size_alloc, World.size_setCell, World.size_drew, size_drewN]); omega))
      have z8_3 : w.heap.size + 1 + 1 + 1 < w8.heap.size := by omega
      have hc8_4 : ∀ o, w8.cell? ⟨w.heap.size + 1 + 1 + 1 + 1, o, none⟩ = _ := fun o => hb8.cell (p := ⟨w.heap.size + 1 + 1 + 1 + 1, o, none⟩) (by ((try simp only [World.size_alloc, World.size_setCell, World.size_drew, size_drewN]); omega))
      have hf8_4 : ∀ o, w8.frozen? ⟨w.heap.size + 1 + 1 + 1 + 1, o, none⟩ = _ := fun o => hb8.frozen (p := ⟨w.heap.size + 1 + 1 + 1 + 1, o, none⟩) (by ((try simp only [World.size_alloc, World.size_setCell, World.size_drew, size_drewN]); omega))
      have z8_4 : w.heap.size + 1 + 1 + 1 + 1 < w8.heap.size := by omega
      go_wp2
      refine cutW (fun W => Box W (w.heap.size + 1 + 1 + 1) (lim ((L + M256 * H) / C) 0) (lim ((L + M256 * H) / C) 1) (lim ((L + M256 * H) / C) 2) (lim ((L + M256 * H) / C) 3) ∧ Box W (w.heap.size + 1 + 1 + 1 + 1) (lim ((L + M256 * H) % C) 0) (lim ((L + M256 * H) % C) 1) (lim ((L + M256 * H) % C) 2) (lim ((L + M256 * H) % C) 3) ∧ Below w.heap.size w W) ?_ ?_
      · refine ⟨?_, ?_, (by (repeat' (first | (with_reducible exact Below.refl _ _) | (with_reducible assumption) | (with_reducible refine Below.alloc ?_ ?_ _) | (with_reducible refine Below.drew ?_) | (with_reducible refine below_drewN ?_ _) | (with_reducible refine Below.setCell ?_ ?_ _) | (with_reducible refine below_step (by with_reducible assumption) ?_ ?_) | (first | (with_reducible exact Nat.le_refl _) | (with_reducible assumption) | omega | (simp only [World.size_alloc, World.size_setCell, World.size_drew, size_drewN]; omega) | (simp; omega) | (simp; done)))))⟩ <;> (constructor <;> (first | (simp only [World.size_alloc, World.size_setCell, World.size_drew, size_drewN]; omega) | (simp (maxDischargeDepth := 16) [go_sem, *, World.cell?_alloc_some, World.cell?_setCell_far]; done)))
      rintro W ⟨bx0, bx1, hbW⟩
      obtain ⟨rc00, rc01, rc02, rc03, rf00, rf01, rf02, rf03, rlt0⟩ := bx0
      obtain ⟨rc10, rc11, rc12, rc13, rf10, rf11, rf12, rf13, rlt1⟩ := bx1
      refine bodyPost_ret ?_ rfl ⟨rfl, hbW⟩
      simp [results, Try.results14, go_sem, rc00, rc01, rc02, rc03, rc10, rc11, rc12, rc13]
    · have e1 : divQ L H C = 0 := if_neg hlt
      have e2 : divR L H C = 0 := if_neg hlt
      have e3 : divE H C = 4 := by rw [divE, if_neg hz, if_neg hlt]
      have hq : ¬ (L + M256 * H) / C < M256 := fun h => hlt (hfit.1 h)
      rw [e1, e2, e3, lim_zero, lim_zero, lim_zero, lim_zero]
      have hnd : 16 < nd ((L + M256 * H) / C) := by
        rcases Nat.lt_or_ge 16 (nd ((L + M256 * H) / C)) with h | h
        · exact h
        · exact absurd (nd16.1 h) hq
      clear hfit e1 e2 e3 hL hH hC hz hlt hq hRl
      go_enter Try.func14, Try.ntmps14
      go_wp2_with fail
      refine (HZ.out _).mono ?_
      rintro e w1 ⟨rfl, hb1⟩
      have hs1 := hb1.size
      try simp only [World.size_alloc, World.size_setCell, World.size_drew, size_drewN] at hs1
      have hc1_0 : ∀ o, w1.cell? ⟨w.heap.size, o, none⟩ = _ := fun o => hb1.cell (p := ⟨w.heap.size, o, none⟩) (by ((try simp only [World.size_alloc, World.size_setCell, World.size_drew, size_drewN]); omega))
      have hf1_0 : ∀ o, w1.frozen? ⟨w.heap.size, o, none⟩ = _ := fun o => hb1.frozen (p := ⟨w.heap.size, o, none⟩) (by ((try simp only [World.size_alloc, World.size_setCell, World.size_drew, size_drewN]); omega))
      have z1_0 : w.heap.size < w1.heap.size := (by omega)
      have hc1_1 : ∀ o, w1.cell? ⟨w.heap.size + 1, o, none⟩ = _ := fun o => hb1.cell (p := ⟨w.heap.size + 1, o, none⟩) (by ((try simp only [World.size_alloc, World.size_setCell, World.size_drew, size_drewN]); omega))
      have hf1_1 : ∀ o, w1.frozen? ⟨w.heap.size + 1, o, none⟩ = _ := fun o => hb1.frozen (p := ⟨w.heap.size + 1, o, none⟩) (by ((try simp only [World.size_alloc, World.size_setCell, World.size_drew, size_drewN]); omega))
      have z1_1 : w.heap.size + 1 < w1.heap.size := (by omega)
      have hc1_2 : ∀ o, w1.cell? ⟨w.heap.size + 1 + 1, o, none⟩ = _ := fun o => hb1.cell (p := ⟨w.heap.size + 1 + 1, o, none⟩) (by ((try simp only [World.size_alloc, World.size_setCell, World.size_drew, size_drewN]); omega))
      have hf1_2 : ∀ o, w1.frozen? ⟨w.heap.size + 1 + 1, o, none⟩ = _ := fun o => hb1.frozen (p := ⟨w.heap.size + 1 + 1, o, none⟩) (by ((try simp only [World.size_alloc, World.size_setCell, World.size_drew, size_drewN]); omega))
      have z1_2 : w.heap.size + 1 + 1 < w1.heap.size := (by omega)
      have hc1_3 : ∀ o, w1.cell? ⟨w.heap.size + 1 + 1 + 1, o, none⟩ = _ := fun o => hb1.cell (p := ⟨w.heap.size + 1 + 1 + 1, o, none⟩) (by ((try simp only [World.size_alloc, World.size_setCell, World.size_drew, size_drewN]); omega))
      have hf1_3 : ∀ o, w1.frozen? ⟨w.heap.size + 1 + 1 + 1, o, none⟩ = _ := fun o => hb1.frozen (p := ⟨w.heap.size + 1 + 1 + 1, o, none⟩) (by ((try simp only [World.size_alloc, World.size_setCell, World.size_drew, size_drewN]); omega))
      have z1_3 : w.heap.size + 1 + 1 + 1 < w1.heap.size := (by omega)
      have hc1_4 : ∀ o, w1.cell? ⟨w.heap.size + 1 + 1 + 1 + 1, o, none⟩ = _ := fun o => hb1.cell (p := ⟨w.heap.size + 1 + 1 + 1 + 1, o, none⟩) (by ((try simp only [World.size_alloc, World.size_setCell, World.size_drew, size_drewN]); omega))
      have hf1_4 : ∀ o, w1.frozen? ⟨w.heap.size + 1 + 1 + 1 + 1, o, none⟩ = _ := fun o => hb1.frozen (p := ⟨w.heap.size + 1 + 1 + 1 + 1, o, none⟩) (by ((try simp only [World.size_alloc, World.size_setCell, World.size_drew, size_drewN]); omega))
      have z1_4 : w.heap.size + 1 + 1 + 1 + 1 < w1.heap.size := (by omega)
      go_wp2_with fail
      go_region_held3 (fun w' => w'.cell? ⟨w.heap.size, 0, none⟩ = some (.int .u64 (lim L 0)) ∧ w'.cell? ⟨w.heap.size, 1, none⟩ = some (.int .u64 (lim L 1)) ∧ w'.cell? ⟨w.heap.size, 2, none⟩ = some (.int .u64 (lim L 2)) ∧ w'.cell? ⟨w.heap.size, 3, none⟩ = some (.int .u64 (lim L 3)) ∧ w'.cell? ⟨w.heap.size + 1, 0, none⟩ = some (.int .u64 (lim H 0)) ∧ w'.cell? ⟨w.heap.size + 1, 1, none⟩ = some (.int .u64 (lim H 1)) ∧ w'.cell? ⟨w.heap.size + 1, 2, none⟩ = some (.int .u64 (lim H 2)) ∧ w'.cell? ⟨w.heap.size + 1, 3, none⟩ = some (.int .u64 (lim H 3)) ∧ w'.cell? ⟨w.heap.size + 1 + 1, 0, none⟩ = some (.int .u64 (lim C 0)) ∧ w'.cell? ⟨w.heap.size + 1 + 1, 1, none⟩ = some (.int .u64 (lim C 1)) ∧ w'.cell? ⟨w.heap.size + 1 + 1, 2, none⟩ = some (.int .u64 (lim C 2)) ∧ w'.cell? ⟨w.heap.size + 1 + 1, 3, none⟩ = some (.int .u64 (lim C 3))) (simp (maxDischargeDepth := 16) [go_sem, *, World.cell?_alloc_some, World.cell?_setCell_far]) (first | (go_at_call 35; (with_reducible refine (FJ.out _).mono ?_); rintro e w2 ⟨ad1, n1, c1, rfl, hB1, hl1, hb2⟩; (have hs2 := hb2.size); (try simp only [World.size_alloc, World.size_setCell, World.size_drew, size_drewN] at hs2); (have hc2_0 : ∀ o, w2.cell? ⟨w.heap.size, o, none⟩ = _ := fun o => hb2.cell (p := ⟨w.heap.size, o, none⟩) (by ((try simp only [World.size_alloc, World.size_setCell, World.size_drew, size_drewN]); omega))); (have hf2_0 : ∀ o, w2.frozen? ⟨w.heap.size, o, none⟩ = _ := fun o => hb2.frozen (p := ⟨w.heap.size, o, none⟩) (by ((try simp only [World.size_alloc, World.size_setCell, World.size_drew, size_drewN]); omega))); (have z2_0 : w.heap.size < w2.heap.size := (by omega)); (have hc2_1 : ∀ o, w2.cell? ⟨w.heap.size + 1, o, none⟩ = _ := fun o => hb2.cell (p := ⟨w.heap.size + 1, o, none⟩) (by ((try simp only [World.size_alloc, World.size_setCell, World.size_drew, size_drewN]); omega))); (have hf2_1 : ∀ o, w2.frozen? ⟨w.heap.size + 1, o, none⟩ = _ := fun o => hb2.frozen (p := ⟨w.heap.size + 1, o, none⟩) (by ((try simp only [World.size_alloc, World.size_setCell, World.size_drew, size_drewN]); omega))); (have z2_1 : w.heap.size + 1 < w2.heap.size := (by omega)); (have hc2_2 : ∀ o, w2.cell? ⟨w.heap.size + 1 + 1, o, none⟩ = _ := fun o => hb2.cell (p := ⟨w.heap.size + 1 + 1, o, none⟩) (by ((try simp only [World.size_alloc, World.size_setCell, World.size_drew, size_drewN]); omega))); (have hf2_2 : ∀ o, w2.frozen? ⟨w.heap.size + 1 + 1, o, none⟩ = _ := fun o => hb2.frozen (p := ⟨w.heap.size + 1 + 1, o, none⟩) (by ((try simp only [World.size_alloc, World.size_setCell, World.size_drew, size_drewN]); omega))); (have z2_2 : w.heap.size + 1 + 1 < w2.heap.size := (by omega)); (have hc2_3 : ∀ o, w2.cell? ⟨w.heap.size + 1 + 1 + 1, o, none⟩ = _ := fun o => hb2.cell (p := ⟨w.heap.size + 1 + 1 + 1, o, none⟩) (by ((try simp only [World.size_alloc, World.size_setCell, World.size_drew, size_drewN]); omega))); (have hf2_3 : ∀ o, w2.frozen? ⟨w.heap.size + 1 + 1 + 1, o, none⟩ = _ := fun o => hb2.frozen (p := ⟨w.heap.size + 1 + 1 + 1, o, none⟩) (by ((try simp only [World.size_alloc, World.size_setCell, World.size_drew, size_drewN]); omega))); (have z2_3 : w.heap.size + 1 + 1 + 1 < w2.heap.size := (by omega)); (have hc2_4 : ∀ o, w2.cell? ⟨w.heap.size + 1 + 1 + 1 + 1, o, none⟩ = _ := fun o => hb2.cell (p := ⟨w.heap.size + 1 + 1 + 1 + 1, o, none⟩) (by ((try simp only [World.size_alloc, World.size_setCell, World.size_drew, size_drewN]); omega))); (have hf2_4 : ∀ o, w2.frozen? ⟨w.heap.size + 1 + 1 + 1 + 1, o, none⟩ = _ := fun o => hb2.frozen (p := ⟨w.heap.size + 1 + 1 + 1 + 1, o, none⟩) (by ((try simp only [World.size_alloc, World.size_setCell, World.size_drew, size_drewN]); omega))); (have z2_4 : w.heap.size + 1 + 1 + 1 + 1 < w2.heap.size := (by omega))) | (go_at_call 29; (with_reducible refine (FC.out _).mono ?_); rintro e w3 ⟨ad2, n2, c2, rfl, hB2, hl2, hb3⟩; (have hs3 := hb3.size); (try simp only [World.size_alloc, World.size_setCell, World.size_drew, size_drewN] at hs3); (have hc3_0 : ∀ o, w3.cell? ⟨w.heap.size, o, none⟩ = _ := fun o => hb3.cell (p := ⟨w.heap.size, o, none⟩) (by ((try simp only [World.size_alloc, World.size_setCell, World.size_drew, size_drewN]); omega))); (have hf3_0 : ∀ o, w3.frozen? ⟨w.heap.size, o, none⟩ = _ := fun o => hb3.frozen (p := ⟨w.heap.size, o, none⟩) (by ((try simp only [World.size_alloc, World.size_setCell, World.size_drew, size_drewN]); omega))); (have z3_0 : w.heap.size < w3.heap.size := (by omega)); (have hc3_1 : ∀ o, w3.cell? ⟨w.heap.size + 1, o, none⟩ = _ := fun o => hb3.cell (p := ⟨w.heap.size + 1, o, none⟩) (by ((try simp only [World.size_alloc, World.size_setCell, World.size_drew, size_drewN]); omega))); (have hf3_1 : ∀ o, w3.frozen? ⟨w.heap.size + 1, o, none⟩ = _ := fun o => hb3.frozen (p := ⟨w.heap.size + 1, o, none⟩) (by ((try simp only [World.size_alloc, World.size_setCell, World.size_drew, size_drewN]); omega))); (have z3_1 : w.heap.size + 1 < w3.heap.size := (by omega)); (have hc3_2 : ∀ o, w3.cell? ⟨w.heap.size + 1 + 1, o, none⟩ = _ := fun o => hb3.cell (p := ⟨w.heap.size + 1 + 1, o, none⟩) (by ((try simp only [World.size_alloc, World.size_setCell, World.size_drew, size_drewN]); omega))); (have hf3_2 : ∀ o, w3.frozen? ⟨w.heap.size + 1 + 1, o, none⟩ = _ := fun o => hb3.frozen (p := ⟨w.heap.size + 1 + 1, o, none⟩) (by ((try simp only [World.size_alloc, World.size_setCell, World.size_drew, size_drewN]); omega))); (have z3_2 : w.heap.size + 1 + 1 < w3.heap.size := (by omega)); (have hc3_3 : ∀ o, w3.cell? ⟨w.heap.size + 1 + 1 + 1, o, none⟩ = _ := fun o => hb3.cell (p := ⟨w.heap.size + 1 + 1 + 1, o, none⟩) (by ((try simp only [World.size_alloc, World.size_setCell, World.size_drew, size_drewN]); omega))); (have hf3_3 : ∀ o, w3.frozen? ⟨w.heap.size + 1 + 1 + 1, o, none⟩ = _ := fun o => hb3.frozen (p := ⟨w.heap.size + 1 + 1 + 1, o, none⟩) (by ((try simp only [World.size_alloc, World.size_setCell, World.size_drew, size_drewN]); omega))); (have z3_3 : w.heap.size + 1 + 1 + 1 < w3.heap.size := (by omega)); (have hc3_4 : ∀ o, w3.cell? ⟨w.heap.size + 1 + 1 + 1 + 1, o, none⟩ = _ := fun o => hb3.cell (p := ⟨w.heap.size + 1 + 1 + 1 + 1, o, none⟩) (by ((try simp only [World.size_alloc, World.size_setCell, World.size_drew, size_drewN]); omega))); (have hf3_4 : ∀ o, w3.frozen? ⟨w.heap.size + 1 + 1 + 1 + 1, o, none⟩ = _ := fun o => hb3.frozen (p := ⟨w.heap.size + 1 + 1 + 1 + 1, o, none⟩) (by ((try simp only [World.size_alloc, World.size_setCell, World.size_drew, size_drewN]); omega))); (have z3_4 : w.heap.size + 1 + 1 + 1 + 1 < w3.heap.size := (by omega)); have hB1b := hide (hB1.out.below hb3 (by simp))) | (go_at_call 34; (with_reducible refine (rdiv_c ad1 n1 c1 ad2 n2 c2 _ hB1b hB2 hC0 (by omega) (by omega)).mono ?_); rintro e w4 ⟨ad5, n5, c5, ad6, n6, c6, rfl, hB5, hB6, hl5, hl6, hb4⟩; (have hs4 := hb4.size); (try simp only [World.size_alloc, World.size_setCell, World.size_drew, size_drewN] at hs4); (have hc4_0 : ∀ o, w4.cell? ⟨w.heap.size, o, none⟩ = _ := fun o => hb4.cell (p := ⟨w.heap.size, o, none⟩) (by ((try simp only [World.size_alloc, World.size_setCell, World.size_drew, size_drewN]); omega))); (have hf4_0 : ∀ o, w4.frozen? ⟨w.heap.size, o, none⟩ = _ := fun o => hb4.frozen (p := ⟨w.heap.size, o, none⟩) (by ((try simp only [World.size_alloc, World.size_setCell, World.size_drew, size_drewN]); omega))); (have z4_0 : w.heap.size < w4.heap.size := (by omega)); (have hc4_1 : ∀ o, w4.cell? ⟨w.heap.size + 1, o, none⟩ = _ := fun o => hb4.cell (p := ⟨w.heap.size + 1, o, none⟩) (by ((try simp only [World.size_alloc, World.size_setCell, World.size_drew, size_drewN]); omega))); (have hf4_1 : ∀ o, w4.frozen? ⟨w.heap.size + 1, o, none⟩ = _ := fun o => hb4.frozen (p := ⟨w.heap.size + 1, o, none⟩) (by ((try simp only [World.size_alloc, World.size_setCell, World.size_drew, size_drewN]); omega))); (have z4_1 : w.heap.size + 1 < w4.heap.size := (by omega)); (have hc4_2 : ∀ o, w4.cell? ⟨w.heap.size + 1 + 1, o, none⟩ = _ := fun o => hb4.cell (p := ⟨w.heap.size + 1 + 1, o, none⟩) (by ((try simp only [World.size_alloc, World.size_setCell, World.size_drew, size_drewN]); omega))); (have hf4_2 : ∀ o, w4.frozen? ⟨w.heap.size + 1 + 1, o, none⟩ = _ := fun o => hb4.frozen (p := ⟨w.heap.size + 1 + 1, o, none⟩) (by ((try simp only [World.size_alloc, World.size_setCell, World.size_drew, size_drewN]); omega))); (have z4_2 : w.heap.size + 1 + 1 < w4.heap.size := (by omega)); (have hc4_3 : ∀ o, w4.cell? ⟨w.heap.size + 1 + 1 + 1, o, none⟩ = _ := fun o => hb4.cell (p := ⟨w.heap.size + 1 + 1 + 1, o, none⟩) (by ((try simp only [World.size_alloc, World.size_setCell, World.size_drew, size_drewN]); omega))); (have hf4_3 : ∀ o, w4.frozen? ⟨w.heap.size + 1 + 1 + 1, o, none⟩ = _ := fun o => hb4.frozen (p := ⟨w.heap.size + 1 + 1 + 1, o, none⟩) (by ((try simp only [World.size_alloc, World.size_setCell, World.size_drew, size_drewN]); omega))); (have z4_3 : w.heap.size + 1 + 1 + 1 < w4.heap.size := (by omega)); (have hc4_4 : ∀ o, w4.cell? ⟨w.heap.size + 1 + 1 + 1 + 1, o, none⟩ = _ := fun o => hb4.cell (p := ⟨w.heap.size + 1 + 1 + 1 + 1, o, none⟩) (by ((try simp only [World.size_alloc, World.size_setCell, World.size_drew, size_drewN]); omega))); (have hf4_4 : ∀ o, w4.frozen? ⟨w.heap.size + 1 + 1 + 1 + 1, o, none⟩ = _ := fun o => hb4.frozen (p := ⟨w.heap.size + 1 + 1 + 1 + 1, o, none⟩) (by ((try simp only [World.size_alloc, World.size_setCell, World.size_drew, size_drewN]); omega))); (have z4_4 : w.heap.size + 1 + 1 + 1 + 1 < w4.heap.size := (by omega))))
      have hn5 : ¬ n5 ≤ 16 := by rw [hB5.out.hn]; omega
      have hft : decide (n5 ≤ 16) = false := decide_eq_false hn5
      go_wp2_with fail
      refine (fits_c _ _ _ _).mono ?_
      rintro e w5 ⟨rfl, rfl⟩
      go_wp2
      refine cutW (fun W => Box W (w.heap.size + 1 + 1 + 1) (0) (0) (0) (0) ∧ Box W (w.heap.size + 1 + 1 + 1 + 1) (0) (0) (0) (0) ∧ Below w.heap.size w W) ?_ ?_
      · refine ⟨?_, ?_, (by (repeat' (first | (with_reducible exact Below.refl _ _) | (with_reducible assumption) | (with_reducible refine Below.alloc ?_ ?_ _) | (with_reducible refine Below.drew ?_) | (with_reducible refine below_drewN ?_ _) | (with_reducible refine Below.setCell ?_ ?_ _) | (with_reducible refine below_step (by with_reducible assumption) ?_ ?_) | (first | (with_reducible exact Nat.le_refl _) | (with_reducible assumption) | omega | (simp only [World.size_alloc, World.size_setCell, World.size_drew, size_drewN]; omega) | (simp; omega) | (simp; done)))))⟩ <;> (constructor <;> (first | (simp only [World.size_alloc, World.size_setCell, World.size_drew, size_drewN]; omega) | (simp (maxDischargeDepth := 16) [go_sem, *, World.cell?_alloc_some, World.cell?_setCell_far]; done)))
      rintro W ⟨bx0, bx1, hbW⟩
      obtain ⟨rc00, rc01, rc02, rc03, rf00, rf01, rf02, rf03, rlt0⟩ := bx0
      obtain ⟨rc10, rc11, rc12, rc13, rf10, rf11, rf12, rf13, rlt1⟩ := bx1
      refine bodyPost_ret ?_ rfl ⟨rfl, hbW⟩
      simp [results, Try.results14, go_sem, rc00, rc01, rc02, rc03, rc10, rc11, rc12, rc13]
end Go.Proofs.Ytjgodkpeapeflaa
