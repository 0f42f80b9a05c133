/- Package pontageref2, walked: MulDivFloor, MulDivCeil. -/
import Derived.WalkKit
import Derived.KernelRfl
import Derived.RowKit3
import Derived.Deep.LoopGhost
import Derived.Deep.QuietTactic
import Derived.BigQuiet
import Derived.WideLaws
import Derived.Laws.Rows
import Derived.Below
import Derived.Deep.Draws
import Derived.Outline
import Derived.LoopN
import Derived.Handy
import Derived.Laws.Externs
import Derived.Laws.BitsAllLaws
import Derived.Laws.BitsLemmas
import Derived.Deep.DeepCutAuto
import Derived.Deep.CutBlock
import Derived.Deep.RegionHeld3
import Derived.Test.YtjgodkpeapeflaaD5
import Derived.Test.YtjgodkpeapeflaaR15
namespace Go.Proofs.Ytjgodkpeapeflaa
open Go.RowKit
set_option linter.unusedVariables false
set_option linter.unusedSimpArgs false
theorem isz_c {A : Nat} (hA : A < M256) (w : World) :
    Calls Try.prog 33 #[.agg #[.int .u64 (lim A 0), .int .u64 (lim A 1), .int .u64 (lim A 2), .int .u64 (lim A 3)]] w fun e w' => e = .returned (.bool (decide (A = 0))) ∧ Below w.heap.size w w' := by
  rw [← zero_test hA]
  go_enter Try.func33, Try.ntmps33
  go_wp2
  go_ret
  exact ⟨rfl, (by (repeat' (first | (with_reducible exact Below.refl _ _) | (with_reducible assumption) | (with_reducible refine Below.alloc ?_ ?_ _) | (with_reducible refine Below.drew ?_) | (with_reducible refine below_drewN ?_ _) | (with_reducible refine Below.setCell ?_ ?_ _) | (with_reducible refine below_step (by with_reducible assumption) ?_ ?_) | (first | (with_reducible exact Nat.le_refl _) | (with_reducible assumption) | omega | (simp only [World.size_alloc, World.size_setCell, World.size_drew, size_drewN]; omega) | (simp; omega) | (simp; done)))))⟩
theorem chk_md {A B C : Nat} (hC : C ≠ 0) : chkV (A * B / C) = mdV A B C ∧ chkE (A * B / C) = mdE A B C := by
  have h : A * B / C < M256 ↔ A * B < M256 * C := Nat.div_lt_iff_lt_mul (by omega)
  rw [chkV, chkE, mdE_eq hC]
  by_cases h1 : A * B < M256 * C
  · rw [if_pos (h.2 h1), if_pos (h.2 h1), if_pos h1, mdV_eq h1]; exact ⟨rfl, rfl⟩
  · rw [if_neg (fun h2 => h1 (h.1 h2)), if_neg (fun h2 => h1 (h.1 h2)), if_neg h1, mdV_no h1]; exact ⟨rfl, rfl⟩
theorem chk_mc0 {A B C : Nat} (hC : C ≠ 0) (hr : A * B % C = 0) : chkV (A * B / C) = mcV A B C ∧ chkE (A * B / C) = mcE A B C := by
  have h3 : mdR A B C = 0 := by
    by_cases h1 : A * B < M256 * C
    · rw [mdR_eq h1, hr]
    · exact mdR_no h1
  rw [mcV, mcE, if_neg (fun h => h.2 h3), if_neg (fun h => h.2 h3)]
  exact chk_md hC
theorem chk_mc1 {A B C : Nat} (hC : C ≠ 0) (hr : A * B % C ≠ 0) : chkV (A * B / C + 1) = mcV A B C ∧ chkE (A * B / C + 1) = mcE A B C := by
  have h : A * B / C < M256 ↔ A * B < M256 * C := Nat.div_lt_iff_lt_mul (by omega)
  by_cases h1 : A * B < M256 * C
  · have h3 : mdE A B C = 0 ∧ mdR A B C ≠ 0 := ⟨mdE_zero.2 h1, by rw [mdR_eq h1]; exact hr⟩
    rw [mcV, mcE, if_pos h3, if_pos h3, mdV_eq h1]
    exact ⟨rfl, rfl⟩
  · have h2 : ¬ A * B / C < M256 := fun h2 => h1 (h.1 h2)
    have h4 : mdE A B C = 4 := by rw [mdE_eq hC, if_neg h1]
    have h5 : ¬ (mdE A B C = 0 ∧ mdR A B C ≠ 0) := by rw [h4]; omega
    rw [mcV, mcE, if_neg h5, if_neg h5, h4, mdV_no h1, chkV, chkE, if_neg (by omega), if_neg (by omega)]
    exact ⟨rfl, rfl⟩
set_option maxHeartbeats 8000000 in
theorem rfloor_c {A B C : Nat} (hA : A < M256) (hB : B < M256) (hC : C < M256) (w : World) :
    Calls Try.prog 17 #[.agg #[.int .u64 (lim A 0), .int .u64 (lim A 1), .int .u64 (lim A 2), .int .u64 (lim A 3)], .agg #[.int .u64 (lim B 0), .int .u64 (lim B 1), .int .u64 (lim B 2), .int .u64 (lim B 3)], .agg #[.int .u64 (lim C 0), .int .u64 (lim C 1), .int .u64 (lim C 2), .int .u64 (lim C 3)]] w fun e w' => e = .returned (.tuple #[.agg #[.int .u64 (lim (mdV A B C) 0), .int .u64 (lim (mdV A B C) 1), .int .u64 (lim (mdV A B C) 2), .int .u64 (lim (mdV A B C) 3)], .int .i64 (mdE A B C)]) ∧ Below w.heap.size w w' := by
  have FA := hide (from256_c (isU_lim hA))
  have FB := hide (from256_c (isU_lim hB))
  have FC := hide (from256_c (isU_lim hC))
  have HZ := hide (isz_c hC)
  by_cases hz : C = 0
  · have hd : decide (C = 0) = true := decide_eq_true hz
    have e1 : mdV A B C = 0 := by subst hz; exact mdV_no (by omega)
    have e2 : mdE A B C = 5 := by rw [mdE, divE, if_pos hz]
    rw [e1, e2, lim_zero, lim_zero, lim_zero, lim_zero]
    clear hz e1 e2 hA hB hC FA FB FC
    go_enter Try.func17, Try.ntmps17
    go_wp2_with fail
    refine (HZ.out _).mono ?_
    rintro e w1 ⟨rfl, hb1⟩
    have hs1 := hb1.size
    try simp only [World.size_alloc, World.size_setCell, World.size_drew, size_drewN] at hs1
    have hc1_0 : ∀ o, w1.cell? ⟨w.heap.size, o, none⟩ = _ := fun o => hb1.cell (p := ⟨w.heap.size, o, none⟩) (by ((try simp only [World.size_alloc, World.size_setCell, World.size_drew, size_drewN]); omega))
    have hf1_0 : ∀ o, w1.frozen? ⟨w.heap.size, o, none⟩ = _ := fun o => hb1.frozen (p := ⟨w.heap.size, o, none⟩) (by ((try simp only [World.size_alloc, World.size_setCell, World.size_drew, size_drewN]); omega))
    have z1_0 : w.heap.size < w1.heap.size := (by omega)
    have hc1_1 : ∀ o, w1.cell? ⟨w.heap.size + 1, o, none⟩ = _ := fun o => hb1.cell (p := ⟨w.heap.size + 1, o, none⟩) (by ((try simp only [World.size_alloc, World.size_setCell, World.size_drew, size_drewN]); omega))
    have hf1_1 : ∀ o, w1.frozen? ⟨w.heap.size + 1, o, none⟩ = _ := fun o => hb1.frozen (p := ⟨w.heap.size + 1, o, none⟩) (by ((try simp only [World.size_alloc, World.size_setCell, World.size_drew, size_drewN]); omega))
    have z1_1 : w.heap.size + 1 < w1.heap.size := (by omega)
    have hc1_2 : ∀ o, w1.cell? ⟨w.heap.size + 1 + 1, o, none⟩ = _ := fun o => hb1.cell (p := ⟨w.heap.size + 1 + 1, o, none⟩) (by ((try simp only [World.size_alloc, World.size_setCell, World.size_drew, size_drewN]); omega))
    have hf1_2 : ∀ o, w1.frozen? ⟨w.heap.size + 1 + 1, o, none⟩ = _ := fun o => hb1.frozen (p := ⟨w.heap.size + 1 + 1, o, none⟩) (by ((try simp only [World.size_alloc, World.size_setCell, World.size_drew, size_drewN]); omega))
    have z1_2 : w.heap.size + 1 + 1 < w1.heap.size := (by omega)
    have hc1_3 : ∀ o, w1.cell? ⟨w.heap.size + 1 + 1 + 1, o, none⟩ = _ := fun o => hb1.cell (p := ⟨w.heap.size + 1 + 1 + 1, o, none⟩) (by ((try simp only [World.size_alloc, World.size_setCell, World.size_drew, size_drewN]); omega))
    have hf1_3 : ∀ o, w1.frozen? ⟨w.heap.size + 1 + 1 + 1, o, none⟩ = _ := fun o => hb1.frozen (p := ⟨w.heap.size + 1 + 1 + 1, o, none⟩) (by ((try simp only [World.size_alloc, World.size_setCell, World.size_drew, size_drewN]); omega))
    have z1_3 : w.heap.size + 1 + 1 + 1 < w1.heap.size := (by omega)
    go_wp2
    refine cutW (fun W => Box W (w.heap.size + 1 + 1 + 1) 0 0 0 0 ∧ Below w.heap.size w W) ?_ ?_
    · refine ⟨?_, (by (repeat' (first | (with_reducible exact Below.refl _ _) | (with_reducible assumption) | (with_reducible refine Below.alloc ?_ ?_ _) | (with_reducible refine Below.drew ?_) | (with_reducible refine below_drewN ?_ _) | (with_reducible refine Below.setCell ?_ ?_ _) | (with_reducible refine below_step (by with_reducible assumption) ?_ ?_) | (first | (with_reducible exact Nat.le_refl _) | (with_reducible assumption) | omega | (simp only [World.size_alloc, World.size_setCell, World.size_drew, size_drewN]; omega) | (simp; omega) | (simp; done)))))⟩
      constructor <;> (first | (simp only [World.size_alloc, World.size_setCell, World.size_drew, size_drewN]; omega) | (simp (maxDischargeDepth := 16) [go_sem, *, World.cell?_alloc_some, World.cell?_setCell_far]; done))
    rintro W ⟨bx0, hbW⟩
    obtain ⟨rc00, rc01, rc02, rc03, rf00, rf01, rf02, rf03, rlt0⟩ := bx0
    refine bodyPost_ret ?_ rfl ⟨rfl, hbW⟩
    simp [results, Try.results17, go_sem, rc00, rc01, rc02, rc03]
  · have hd : decide (C = 0) = false := decide_eq_false hz
    have hC0 : 0 < C := by omega
    obtain ⟨e1, e2⟩ := chk_md (A := A) (B := B) hz
    rw [← e1, ← e2]
    clear e1 e2 hA hB hC hz
    go_enter Try.func17, Try.ntmps17
    go_wp2_with fail
    refine (HZ.out _).mono ?_
    rintro e w1 ⟨rfl, hb1⟩
    have hs1 := hb1.size
    try simp only [World.size_alloc, World.size_setCell, World.size_drew, size_drewN] at hs1
    have hc1_0 : ∀ o, w1.cell? ⟨w.heap.size, o, none⟩ = _ := fun o => hb1.cell (p := ⟨w.heap.size, o, none⟩) (by ((try simp only [World.size_alloc, World.size_setCell, World.size_drew, size_drewN]); omega))
    have hf1_0 : ∀ o, w1.frozen? ⟨w.heap.size, o, none⟩ = _ := fun o => hb1.frozen (p := ⟨w.heap.size, o, none⟩) (by ((try simp only [World.size_alloc, World.size_setCell, World.size_drew, size_drewN]); omega))
    have z1_0 : w.heap.size < w1.heap.size := (by omega)
    have hc1_1 : ∀ o, w1.cell? ⟨w.heap.size + 1, o, none⟩ = _ := fun o => hb1.cell (p := ⟨w.heap.size + 1, o, none⟩) (by ((try simp only [World.size_alloc, World.size_setCell, World.size_drew, size_drewN]); omega))
    have hf1_1 : ∀ o, w1.frozen? ⟨w.heap.size + 1, o, none⟩ = _ := fun o => hb1.frozen (p := ⟨w.heap.size + 1, o, none⟩) (by ((try simp only [World.size_alloc, World.size_setCell, World.size_drew, size_drewN]); omega))
    have z1_1 : w.heap.size + 1 < w1.heap.size := (by omega)
    have hc1_2 : ∀ o, w1.cell? ⟨w.heap.size + 1 + 1, o, none⟩ = _ := fun o => hb1.cell (p := ⟨w.heap.size + 1 + 1, o, none⟩) (by ((try simp only [World.size_alloc, World.size_setCell, World.size_drew, size_drewN]); omega))
    have hf1_2 : ∀ o, w1.frozen? ⟨w.heap.size + 1 + 1, o, none⟩ = _ := fun o => hb1.frozen (p := ⟨w.heap.size + 1 + 1, o, none⟩) (by ((try simp only [World.size_alloc, World.size_setCell, World.size_drew, size_drewN]); omega))
    have z1_2 : w.heap.size + 1 + 1 < w1.heap.size := (by omega)
    have hc1_3 : ∀ o, w1.cell? ⟨w.heap.size + 1 + 1 + 1, o, none⟩ = _ := fun o => hb1.cell (p := ⟨w.heap.size + 1 + 1 + 1, o, none⟩) (by ((try simp only [World.size_alloc, World.size_setCell, World.size_drew, size_drewN]); omega))
    have hf1_3 : ∀ o, w1.frozen? ⟨w.heap.size + 1 + 1 + 1, o, none⟩ = _ := fun o => hb1.frozen (p := ⟨w.heap.size + 1 + 1 + 1, o, none⟩) (by ((try simp only [World.size_alloc, World.size_setCell, World.size_drew, size_drewN]); omega))
    have z1_3 : w.heap.size + 1 + 1 + 1 < w1.heap.size := (by omega)
    go_wp2_with fail
    go_region_held3 (fun w' => w'.cell? ⟨w.heap.size, 0, none⟩ = some (.int .u64 (lim A 0)) ∧ w'.cell? ⟨w.heap.size, 1, none⟩ = some (.int .u64 (lim A 1)) ∧ w'.cell? ⟨w.heap.size, 2, none⟩ = some (.int .u64 (lim A 2)) ∧ w'.cell? ⟨w.heap.size, 3, none⟩ = some (.int .u64 (lim A 3)) ∧ w'.cell? ⟨w.heap.size + 1, 0, none⟩ = some (.int .u64 (lim B 0)) ∧ w'.cell? ⟨w.heap.size + 1, 1, none⟩ = some (.int .u64 (lim B 1)) ∧ w'.cell? ⟨w.heap.size + 1, 2, none⟩ = some (.int .u64 (lim B 2)) ∧ w'.cell? ⟨w.heap.size + 1, 3, none⟩ = some (.int .u64 (lim B 3)) ∧ w'.cell? ⟨w.heap.size + 1 + 1, 0, none⟩ = some (.int .u64 (lim C 0)) ∧ w'.cell? ⟨w.heap.size + 1 + 1, 1, none⟩ = some (.int .u64 (lim C 1)) ∧ w'.cell? ⟨w.heap.size + 1 + 1, 2, none⟩ = some (.int .u64 (lim C 2)) ∧ w'.cell? ⟨w.heap.size + 1 + 1, 3, none⟩ = some (.int .u64 (lim C 3))) (simp (maxDischargeDepth := 16) [go_sem, *, World.cell?_alloc_some, World.cell?_setCell_far]) (first | (go_at_call 29; (with_reducible refine (FA.out _).mono ?_); rintro e w2 ⟨ad1, n1, c1, rfl, hB1, hl1, hb2⟩; (have hs2 := hb2.size); (try simp only [World.size_alloc, World.size_setCell, World.size_drew, size_drewN] at hs2); (have hc2_0 : ∀ o, w2.cell? ⟨w.heap.size, o, none⟩ = _ := fun o => hb2.cell (p := ⟨w.heap.size, o, none⟩) (by ((try simp only [World.size_alloc, World.size_setCell, World.size_drew, size_drewN]); omega))); (have hf2_0 : ∀ o, w2.frozen? ⟨w.heap.size, o, none⟩ = _ := fun o => hb2.frozen (p := ⟨w.heap.size, o, none⟩) (by ((try simp only [World.size_alloc, World.size_setCell, World.size_drew, size_drewN]); omega))); (have z2_0 : w.heap.size < w2.heap.size := (by omega)); (have hc2_1 : ∀ o, w2.cell? ⟨w.heap.size + 1, o, none⟩ = _ := fun o => hb2.cell (p := ⟨w.heap.size + 1, o, none⟩) (by ((try simp only [World.size_alloc, World.size_setCell, World.size_drew, size_drewN]); omega))); (have hf2_1 : ∀ o, w2.frozen? ⟨w.heap.size + 1, o, none⟩ = _ := fun o => hb2.frozen (p := ⟨w.heap.size + 1, o, none⟩) (by ((try simp only [World.size_alloc, World.size_setCell, World.size_drew, size_drewN]); omega))); (have z2_1 : w.heap.size + 1 < w2.heap.size := (by omega)); (have hc2_2 : ∀ o, w2.cell? ⟨w.heap.size + 1 + 1, o, none⟩ = _ := fun o => hb2.cell (p := ⟨w.heap.size + 1 + 1, o, none⟩) (by ((try simp only [World.size_alloc, World.size_setCell, World.size_drew, size_drewN]); omega))); (have hf2_2 : ∀ o, w2.frozen? ⟨w.heap.size + 1 + 1, o, none⟩ = _ := fun o => hb2.frozen (p := ⟨w.heap.size + 1 + 1, o, none⟩) (by ((try simp only [World.size_alloc, World.size_setCell, World.size_drew, size_drewN]); omega))); (have z2_2 : w.heap.size + 1 + 1 < w2.heap.size := (by omega)); (have hc2_3 : ∀ o, w2.cell? ⟨w.heap.size + 1 + 1 + 1, o, none⟩ = _ := fun o => hb2.cell (p := ⟨w.heap.size + 1 + 1 + 1, o, none⟩) (by ((try simp only [World.size_alloc, World.size_setCell, World.size_drew, size_drewN]); omega))); (have hf2_3 : ∀ o, w2.frozen? ⟨w.heap.size + 1 + 1 + 1, o, none⟩ = _ := fun o => hb2.frozen (p := ⟨w.heap.size + 1 + 1 + 1, o, none⟩) (by ((try simp only [World.size_alloc, World.size_setCell, World.size_drew, size_drewN]); omega))); (have z2_3 : w.heap.size + 1 + 1 + 1 < w2.heap.size := (by omega))) | (go_at_call 29; (with_reducible refine (FB.out _).mono ?_); rintro e w3 ⟨ad2, n2, c2, rfl, hB2, hl2, hb3⟩; (have hs3 := hb3.size); (try simp only [World.size_alloc, World.size_setCell, World.size_drew, size_drewN] at hs3); (have hc3_0 : ∀ o, w3.cell? ⟨w.heap.size, o, none⟩ = _ := fun o => hb3.cell (p := ⟨w.heap.size, o, none⟩) (by ((try simp only [World.size_alloc, World.size_setCell, World.size_drew, size_drewN]); omega))); (have hf3_0 : ∀ o, w3.frozen? ⟨w.heap.size, o, none⟩ = _ := fun o => hb3.frozen (p := ⟨w.heap.size, o, none⟩) (by ((try simp only [World.size_alloc, World.size_setCell, World.size_drew, size_drewN]); omega))); (have z3_0 : w.heap.size < w3.heap.size := (by omega)); (have hc3_1 : ∀ o, w3.cell? ⟨w.heap.size + 1, o, none⟩ = _ := fun o => hb3.cell (p := ⟨w.heap.size + 1, o, none⟩) (by ((try simp only [World.size_alloc, World.size_setCell, World.size_drew, size_drewN]); omega))); (have hf3_1 : ∀ o, w3.frozen? ⟨w.heap.size + 1, o, none⟩ = _ := fun o => hb3.frozen (p := ⟨w.heap.size + 1, o, none⟩) (by ((try simp only [World.size_alloc, World.size_setCell, World.size_drew, size_drewN]); omega))); (have z3_1 : w.heap.size + 1 < w3.heap.size := (by omega)); (have hc3_2 : ∀ o, w3.cell? ⟨w.heap.size + 1 + 1, o, none⟩ = _ := fun o => hb3.cell (p := ⟨w.heap.size + 1 + 1, o, none⟩) (by ((try simp only [World.size_alloc, World.size_setCell, World.size_drew, size_drewN]); omega))); (have hf3_2 : ∀ o, w3.frozen? ⟨w.heap.size + 1 + 1, o, none⟩ = _ := fun o => hb3.frozen (p := ⟨w.heap.size + 1 + 1, o, none⟩) (by ((try simp only [World.size_alloc, World.size_setCell, World.size_drew, size_drewN]); omega))); (have z3_2 : w.heap.size + 1 + 1 < w3.heap.size := (by omega)); (have hc3_3 : ∀ o, w3.cell? ⟨w.heap.size + 1 + 1 + 1, o, none⟩ = _ := fun o => hb3.cell (p := ⟨w.heap.size + 1 + 1 + 1, o, none⟩) (by ((try simp only [World.size_alloc, World.size_setCell, World.size_drew, size_drewN]); omega))); (have hf3_3 : ∀ o, w3.frozen? ⟨w.heap.size + 1 + 1 + 1, o, none⟩ = _ := fun o => hb3.frozen (p := ⟨w.heap.size + 1 + 1 + 1, o, none⟩) (by ((try simp only [World.size_alloc, World.size_setCell, World.size_drew, size_drewN]); omega))); (have z3_3 : w.heap.size + 1 + 1 + 1 < w3.heap.size := (by omega)); have hB1b := hide (hB1.out.below hb3 (by simp))) | (go_at_call 28; (with_reducible refine (rmul_c ad1 n1 c1 ad2 n2 c2 _ hB1b hB2 (by omega) (by omega)).mono ?_); rintro e w4 ⟨ad3, n3, c3, rfl, hB3, hl3, hb4⟩; (have hs4 := hb4.size); (try simp only [World.size_alloc, World.size_setCell, World.size_drew, size_drewN] at hs4); (have hc4_0 : ∀ o, w4.cell? ⟨w.heap.size, o, none⟩ = _ := fun o => hb4.cell (p := ⟨w.heap.size, o, none⟩) (by ((try simp only [World.size_alloc, World.size_setCell, World.size_drew, size_drewN]); omega))); (have hf4_0 : ∀ o, w4.frozen? ⟨w.heap.size, o, none⟩ = _ := fun o => hb4.frozen (p := ⟨w.heap.size, o, none⟩) (by ((try simp only [World.size_alloc, World.size_setCell, World.size_drew, size_drewN]); omega))); (have z4_0 : w.heap.size < w4.heap.size := (by omega)); (have hc4_1 : ∀ o, w4.cell? ⟨w.heap.size + 1, o, none⟩ = _ := fun o => hb4.cell (p := ⟨w.heap.size + 1, o, none⟩) (by ((try simp only [World.size_alloc, World.size_setCell, World.size_drew, size_drewN]); omega))); (have hf4_1 : ∀ o, w4.frozen? ⟨w.heap.size + 1, o, none⟩ = _ := fun o => hb4.frozen (p := ⟨w.heap.size + 1, o, none⟩) (by ((try simp only [World.size_alloc, World.size_setCell, World.size_drew, size_drewN]); omega))); (have z4_1 : w.heap.size + 1 < w4.heap.size := (by omega)); (have hc4_2 : ∀ o, w4.cell? ⟨w.heap.size + 1 + 1, o, none⟩ = _ := fun o => hb4.cell (p := ⟨w.heap.size + 1 + 1, o, none⟩) (by ((try simp only [World.size_alloc, World.size_setCell, World.size_drew, size_drewN]); omega))); (have hf4_2 : ∀ o, w4.frozen? ⟨w.heap.size + 1 + 1, o, none⟩ = _ := fun o => hb4.frozen (p := ⟨w.heap.size + 1 + 1, o, none⟩) (by ((try simp only [World.size_alloc, World.size_setCell, World.size_drew, size_drewN]); omega))); (have z4_2 : w.heap.size + 1 + 1 < w4.heap.size := (by omega)); (have hc4_3 : ∀ o, w4.cell? ⟨w.heap.size + 1 + 1 + 1, o, none⟩ = _ := fun o => hb4.cell (p := ⟨w.heap.size + 1 + 1 + 1, o, none⟩) (by ((try simp only [World.size_alloc, World.size_setCell, World.size_drew, size_drewN]); omega))); (have hf4_3 : ∀ o, w4.frozen? ⟨w.heap.size + 1 + 1 + 1, o, none⟩ = _ := fun o => hb4.frozen (p := ⟨w.heap.size + 1 + 1 + 1, o, none⟩) (by ((try simp only [World.size_alloc, World.size_setCell, World.size_drew, size_drewN]); omega))); (have z4_3 : w.heap.size + 1 + 1 + 1 < w4.heap.size := (by omega))) | (go_at_call 29; (with_reducible refine (FC.out _).mono ?_); rintro e w5 ⟨ad4, n4, c4, rfl, hB4, hl4, hb5⟩; (have hs5 := hb5.size); (try simp only [World.size_alloc, World.size_setCell, World.size_drew, size_drewN] at hs5); (have hc5_0 : ∀ o, w5.cell? ⟨w.heap.size, o, none⟩ = _ := fun o => hb5.cell (p := ⟨w.heap.size, o, none⟩) (by ((try simp only [World.size_alloc, World.size_setCell, World.size_drew, size_drewN]); omega))); (have hf5_0 : ∀ o, w5.frozen? ⟨w.heap.size, o, none⟩ = _ := fun o => hb5.frozen (p := ⟨w.heap.size, o, none⟩) (by ((try simp only [World.size_alloc, World.size_setCell, World.size_drew, size_drewN]); omega))); (have z5_0 : w.heap.size < w5.heap.size := (by omega)); (have hc5_1 : ∀ o, w5.cell? ⟨w.heap.size + 1, o, none⟩ = _ := fun o => hb5.cell (p := ⟨w.heap.size + 1, o, none⟩) (by ((try simp only [World.size_alloc, World.size_setCell, World.size_drew, size_drewN]); omega))); (have hf5_1 : ∀ o, w5.frozen? ⟨w.heap.size + 1, o, none⟩ = _ := fun o => hb5.frozen (p := ⟨w.heap.size + 1, o, none⟩) (by ((try simp only [World.size_alloc, World.size_setCell, World.size_drew, size_drewN]); omega))); (have z5_1 : w.heap.size + 1 < w5.heap.size := (by omega)); (have hc5_2 : ∀ o, w5.cell? ⟨w.heap.size + 1 + 1, o, none⟩ = _ := fun o => hb5.cell (p := ⟨w.heap.size + 1 + 1, o, none⟩) (by ((try simp only [World.size_alloc, World.size_setCell, World.size_drew, size_drewN]); omega))); (have hf5_2 : ∀ o, w5.frozen? ⟨w.heap.size + 1 + 1, o, none⟩ = _ := fun o => hb5.frozen (p := ⟨w.heap.size + 1 + 1, o, none⟩) (by ((try simp only [World.size_alloc, World.size_setCell, World.size_drew, size_drewN]); omega))); (have z5_2 : w.heap.size + 1 + 1 < w5.heap.size := (by omega)); (have hc5_3 : ∀ o, w5.cell? ⟨w.heap.size + 1 + 1 + 1, o, none⟩ = _ := fun o => hb5.cell (p := ⟨w.heap.size + 1 + 1 + 1, o, none⟩) (by ((try simp only [World.size_alloc, World.size_setCell, World.size_drew, size_drewN]); omega))); (have hf5_3 : ∀ o, w5.frozen? ⟨w.heap.size + 1 + 1 + 1, o, none⟩ = _ := fun o => hb5.frozen (p := ⟨w.heap.size + 1 + 1 + 1, o, none⟩) (by ((try simp only [World.size_alloc, World.size_setCell, World.size_drew, size_drewN]); omega))); (have z5_3 : w.heap.size + 1 + 1 + 1 < w5.heap.size := (by omega)); have hB3b := hide (hB3.out.below hb5 (by simp))) | (go_at_call 34; (with_reducible refine (rdiv_c ad3 n3 c3 ad4 n4 c4 _ hB3b hB4 hC0 (by omega) (by omega)).mono ?_); rintro e w6 ⟨ad5, n5, c5, ad6, n6, c6, rfl, hB5, hB6, hl5, hl6, hb6⟩; (have hs6 := hb6.size); (try simp only [World.size_alloc, World.size_setCell, World.size_drew, size_drewN] at hs6); (have hc6_0 : ∀ o, w6.cell? ⟨w.heap.size, o, none⟩ = _ := fun o => hb6.cell (p := ⟨w.heap.size, o, none⟩) (by ((try simp only [World.size_alloc, World.size_setCell, World.size_drew, size_drewN]); omega))); (have hf6_0 : ∀ o, w6.frozen? ⟨w.heap.size, o, none⟩ = _ := fun o => hb6.frozen (p := ⟨w.heap.size, o, none⟩) (by ((try simp only [World.size_alloc, World.size_setCell, World.size_drew, size_drewN]); omega))); (have z6_0 : w.heap.size < w6.heap.size := (by omega)); (have hc6_1 : ∀ o, w6.cell? ⟨w.heap.size + 1, o, none⟩ = _ := fun o => hb6.cell (p := ⟨w.heap.size + 1, o, none⟩) (by ((try simp only [World.size_alloc, World.size_setCell, World.size_drew, size_drewN]); omega))); (have hf6_1 : ∀ o, w6.frozen? ⟨w.heap.size + 1, o, none⟩ = _ := fun o => hb6.frozen (p := ⟨w.heap.size + 1, o, none⟩) (by ((try simp only [World.size_alloc, World.size_setCell, World.size_drew, size_drewN]); omega))); (have z6_1 : w.heap.size + 1 < w6.heap.size := (by omega)); (have hc6_2 : ∀ o, w6.cell? ⟨w.heap.size + 1 + 1, o, none⟩ = _ := fun o => hb6.cell (p := ⟨w.heap.size + 1 + 1, o, none⟩) (by ((try simp only [World.size_alloc, World.size_setCell, World.size_drew, size_drewN]); omega))); (have hf6_2 : ∀ o, w6.frozen? ⟨w.heap.size + 1 + 1, o, none⟩ = _ := fun o => hb6.frozen (p := ⟨w.heap.size + 1 + 1, o, none⟩) (by ((try simp only [World.size_alloc, World.size_setCell, World.size_drew, size_drewN]); omega))); (have z6_2 : w.heap.size + 1 + 1 < w6.heap.size := (by omega)); (have hc6_3 : ∀ o, w6.cell? ⟨w.heap.size + 1 + 1 + 1, o, none⟩ = _ := fun o => hb6.cell (p := ⟨w.heap.size + 1 + 1 + 1, o, none⟩) (by ((try simp only [World.size_alloc, World.size_setCell, World.size_drew, size_drewN]); omega))); (have hf6_3 : ∀ o, w6.frozen? ⟨w.heap.size + 1 + 1 + 1, o, none⟩ = _ := fun o => hb6.frozen (p := ⟨w.heap.size + 1 + 1 + 1, o, none⟩) (by ((try simp only [World.size_alloc, World.size_setCell, World.size_drew, size_drewN]); omega))); (have z6_3 : w.heap.size + 1 + 1 + 1 < w6.heap.size := (by omega))))
    go_wp2_with fail
    refine (checked_c hB5 (by omega)).mono ?_
    rintro e w7 ⟨rfl, hb7⟩
    have hs7 := hb7.size
    try simp only [World.size_alloc, World.size_setCell, World.size_drew, size_drewN] at hs7
    have hc7 : ∀ o, w7.cell? ⟨w.heap.size + 1 + 1 + 1, o, none⟩ = _ := fun o => hb7.cell (p := ⟨w.heap.size + 1 + 1 + 1, o, none⟩) (by ((try simp only [World.size_alloc, World.size_setCell, World.size_drew, size_drewN]); omega))
    have hf7 : ∀ o, w7.frozen? ⟨w.heap.size + 1 + 1 + 1, o, none⟩ = _ := fun o => hb7.frozen (p := ⟨w.heap.size + 1 + 1 + 1, o, none⟩) (by ((try simp only [World.size_alloc, World.size_setCell, World.size_drew, size_drewN]); omega))
    have z7 : w.heap.size + 1 + 1 + 1 < w7.heap.size := by omega
    go_wp2
    refine cutW (fun W => Box W (w.heap.size + 1 + 1 + 1) (lim (chkV (A * B / C)) 0) (lim (chkV (A * B / C)) 1) (lim (chkV (A * B / C)) 2) (lim (chkV (A * B / C)) 3) ∧ Below w.heap.size w W) ?_ ?_
    · refine ⟨?_, (by (repeat' (first | (with_reducible exact Below.refl _ _) | (with_reducible assumption) | (with_reducible refine Below.alloc ?_ ?_ _) | (with_reducible refine Below.drew ?_) | (with_reducible refine below_drewN ?_ _) | (with_reducible refine Below.setCell ?_ ?_ _) | (with_reducible refine below_step (by with_reducible assumption) ?_ ?_) | (first | (with_reducible exact Nat.le_refl _) | (with_reducible assumption) | omega | (simp only [World.size_alloc, World.size_setCell, World.size_drew, size_drewN]; omega) | (simp; omega) | (simp; done)))))⟩ <;> (constructor <;> (first | (simp only [World.size_alloc, World.size_setCell, World.size_drew, size_drewN]; omega) | (simp (maxDischargeDepth := 16) [go_sem, *, World.cell?_alloc_some, World.cell?_setCell_far]; done)))
    rintro W ⟨bx0, hbW⟩
    obtain ⟨rc00, rc01, rc02, rc03, rf00, rf01, rf02, rf03, rlt0⟩ := bx0
    refine bodyPost_ret ?_ rfl ⟨rfl, hbW⟩
    simp [results, Try.results17, go_sem, rc00, rc01, rc02, rc03]
end Go.Proofs.Ytjgodkpeapeflaa
