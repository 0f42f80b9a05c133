/- The saturating operations against the reference, walked. -/
import Derived.WalkKit
import Derived.KernelRfl
import Derived.RowKit3
import Derived.Deep.LoopGhost
import Derived.Deep.QuietTactic
import Derived.BigQuiet
import Derived.WideLaws
import Derived.Laws.Rows
import Derived.Below
import Derived.Deep.Draws
import Derived.Outline
import Derived.LoopN
import Derived.Handy
import Derived.Laws.Externs
import Derived.Laws.BitsAllLaws
import Derived.Laws.BitsLemmas
import Derived.Deep.DeepCutAuto
import Derived.Deep.CutBlock
import Derived.Deep.RegionHeld3
import Derived.Test.YtphnmolndhnnpaaW3
namespace Go.Proofs.Ytphnmolndhnnpaa
open Go.RowKit
set_option linter.unusedVariables false
set_option linter.unusedSimpArgs false
set_option maxHeartbeats 16000000 in
theorem sat_c {A B : Nat} (hA : A < M256) (hB : B < M256) (w : World) :
    Calls Try.prog 27 #[.agg #[.int .u64 (lim A 0), .int .u64 (lim A 1), .int .u64 (lim A 2), .int .u64 (lim A 3)], .agg #[.int .u64 (lim B 0), .int .u64 (lim B 1), .int .u64 (lim B 2), .int .u64 (lim B 3)]] w fun e w' => e = .returned (.bool true) ∧ Below w.heap.size w w' := by
  have HA := hide hA
  have HB := hide hB
  have CA := hide (satadd_c (isU_lim hA) (isU_lim hB))
  have CS := hide (satsub_c (isU_lim hA) (isU_lim hB))
  have CM := hide (satmul_c (isU_lim hA) (isU_lim hB))
  clear hA hB
  obtain ⟨m0, m1, m2, m3⟩ := lim_max
  have l0 := lim_zero 0
  have l1 := lim_zero 1
  have l2 := lim_zero 2
  have l3 := lim_zero 3
  have TA : ((addE A B != 0) = false ∧ satV A B = addV A B) ∨ ((addE A B != 0) = true ∧ satV A B = M256 - 1) := by
    by_cases h : A + B < M256
    · exact .inl ⟨by rw [addE, if_pos h]; rfl, by rw [satV, addV, if_pos h, if_pos h]⟩
    · exact .inr ⟨by rw [addE, if_neg h]; rfl, by rw [satV, if_neg h]⟩
  have TM : ((mulE A B != 0) = false ∧ satM A B = mulV A B) ∨ ((mulE A B != 0) = true ∧ satM A B = M256 - 1) := by
    by_cases h : A * B < M256
    · exact .inl ⟨by rw [mulE, if_pos h]; rfl, by rw [satM, mulV, if_pos h, if_pos h]⟩
    · exact .inr ⟨by rw [mulE, if_neg h]; rfl, by rw [satM, if_neg h]⟩
  have TS : (subE A B != 0) = false ∨ ((subE A B != 0) = true ∧ subV A B = 0) := by
    by_cases h : A < B
    · exact .inr ⟨by rw [subE, if_pos h]; rfl, by rw [subV, if_pos h]⟩
    · exact .inl (by rw [subE, if_neg h]; rfl)
  rcases TA with ⟨t1, t2⟩ | ⟨t1, t2⟩ <;> rcases TS with t3 | ⟨t3, t4⟩ <;> rcases TM with ⟨t5, t6⟩ | ⟨t5, t6⟩
  · go_enter Try.func27, Try.ntmps27
    go_wp2_with fail
    refine (add256_c HA.out HB.out _).mono ?_
    rintro e w1 ⟨rfl, hb1⟩
    have hs1 := hb1.size
    try simp only [World.size_alloc, World.size_setCell, World.size_drew, size_drewN] at hs1
    have hc1_0 : ∀ o, w1.cell? ⟨w.heap.size, o, none⟩ = _ := fun o => hb1.cell (p := ⟨w.heap.size, o, none⟩) (by ((try simp only [World.size_alloc, World.size_setCell, World.size_drew, size_drewN]); omega))
    have hf1_0 : ∀ o, w1.frozen? ⟨w.heap.size, o, none⟩ = _ := fun o => hb1.frozen (p := ⟨w.heap.size, o, none⟩) (by ((try simp only [World.size_alloc, World.size_setCell, World.size_drew, size_drewN]); omega))
    have z1_0 : w.heap.size < w1.heap.size := (by omega)
    have hc1_1 : ∀ o, w1.cell? ⟨w.heap.size + 1, o, none⟩ = _ := fun o => hb1.cell (p := ⟨w.heap.size + 1, o, none⟩) (by ((try simp only [World.size_alloc, World.size_setCell, World.size_drew, size_drewN]); omega))
    have hf1_1 : ∀ o, w1.frozen? ⟨w.heap.size + 1, o, none⟩ = _ := fun o => hb1.frozen (p := ⟨w.heap.size + 1, o, none⟩) (by ((try simp only [World.size_alloc, World.size_setCell, World.size_drew, size_drewN]); omega))
    have z1_1 : w.heap.size + 1 < w1.heap.size := (by omega)
    go_wp2_with fail
    refine (sub256_c HA.out HB.out _).mono ?_
    rintro e w2 ⟨rfl, hb2⟩
    have hs2 := hb2.size
    try simp only [World.size_alloc, World.size_setCell, World.size_drew, size_drewN] at hs2
    have hc2_0 : ∀ o, w2.cell? ⟨w.heap.size, o, none⟩ = _ := fun o => hb2.cell (p := ⟨w.heap.size, o, none⟩) (by ((try simp only [World.size_alloc, World.size_setCell, World.size_drew, size_drewN]); omega))
    have hf2_0 : ∀ o, w2.frozen? ⟨w.heap.size, o, none⟩ = _ := fun o => hb2.frozen (p := ⟨w.heap.size, o, none⟩) (by ((try simp only [World.size_alloc, World.size_setCell, World.size_drew, size_drewN]); omega))
    have z2_0 : w.heap.size < w2.heap.size := (by omega)
    have hc2_1 : ∀ o, w2.cell? ⟨w.heap.size + 1, o, none⟩ = _ := fun o => hb2.cell (p := ⟨w.heap.size + 1, o, none⟩) (by ((try simp only [World.size_alloc, World.size_setCell, World.size_drew, size_drewN]); omega))
    have hf2_1 : ∀ o, w2.frozen? ⟨w.heap.size + 1, o, none⟩ = _ := fun o => hb2.frozen (p := ⟨w.heap.size + 1, o, none⟩) (by ((try simp only [World.size_alloc, World.size_setCell, World.size_drew, size_drewN]); omega))
    have z2_1 : w.heap.size + 1 < w2.heap.size := (by omega)
    have hc2_2 : ∀ o, w2.cell? ⟨w1.heap.size, o, none⟩ = _ := fun o => hb2.cell (p := ⟨w1.heap.size, o, none⟩) (by ((try simp only [World.size_alloc, World.size_setCell, World.size_drew, size_drewN]); omega))
    have hf2_2 : ∀ o, w2.frozen? ⟨w1.heap.size, o, none⟩ = _ := fun o => hb2.frozen (p := ⟨w1.heap.size, o, none⟩) (by ((try simp only [World.size_alloc, World.size_setCell, World.size_drew, size_drewN]); omega))
    have z2_2 : w1.heap.size < w2.heap.size := (by omega)
    go_wp2_with fail
    refine (mul256_c HA.out HB.out _).mono ?_
    rintro e w3 ⟨rfl, hb3⟩
    have hs3 := hb3.size
    try simp only [World.size_alloc, World.size_setCell, World.size_drew, size_drewN] at hs3
    have hc3_0 : ∀ o, w3.cell? ⟨w.heap.size, o, none⟩ = _ := fun o => hb3.cell (p := ⟨w.heap.size, o, none⟩) (by ((try simp only [World.size_alloc, World.size_setCell, World.size_drew, size_drewN]); omega))
    have hf3_0 : ∀ o, w3.frozen? ⟨w.heap.size, o, none⟩ = _ := fun o => hb3.frozen (p := ⟨w.heap.size, o, none⟩) (by ((try simp only [World.size_alloc, World.size_setCell, World.size_drew, size_drewN]); omega))
    have z3_0 : w.heap.size < w3.heap.size := (by omega)
    have hc3_1 : ∀ o, w3.cell? ⟨w.heap.size + 1, o, none⟩ = _ := fun o => hb3.cell (p := ⟨w.heap.size + 1, o, none⟩) (by ((try simp only [World.size_alloc, World.size_setCell, World.size_drew, size_drewN]); omega))
    have hf3_1 : ∀ o, w3.frozen? ⟨w.heap.size + 1, o, none⟩ = _ := fun o => hb3.frozen (p := ⟨w.heap.size + 1, o, none⟩) (by ((try simp only [World.size_alloc, World.size_setCell, World.size_drew, size_drewN]); omega))
    have z3_1 : w.heap.size + 1 < w3.heap.size := (by omega)
    have hc3_2 : ∀ o, w3.cell? ⟨w1.heap.size, o, none⟩ = _ := fun o => hb3.cell (p := ⟨w1.heap.size, o, none⟩) (by ((try simp only [World.size_alloc, World.size_setCell, World.size_drew, size_drewN]); omega))
    have hf3_2 : ∀ o, w3.frozen? ⟨w1.heap.size, o, none⟩ = _ := fun o => hb3.frozen (p := ⟨w1.heap.size, o, none⟩) (by ((try simp only [World.size_alloc, World.size_setCell, World.size_drew, size_drewN]); omega))
    have z3_2 : w1.heap.size < w3.heap.size := (by omega)
    have hc3_3 : ∀ o, w3.cell? ⟨w2.heap.size, o, none⟩ = _ := fun o => hb3.cell (p := ⟨w2.heap.size, o, none⟩) (by ((try simp only [World.size_alloc, World.size_setCell, World.size_drew, size_drewN]); omega))
    have hf3_3 : ∀ o, w3.frozen? ⟨w2.heap.size, o, none⟩ = _ := fun o => hb3.frozen (p := ⟨w2.heap.size, o, none⟩) (by ((try simp only [World.size_alloc, World.size_setCell, World.size_drew, size_drewN]); omega))
    have z3_3 : w2.heap.size < w3.heap.size := (by omega)
    have ne_0_1 : ¬ (w.heap.size = w.heap.size + 1) := (by omega)
    have ne_0_2 : ¬ (w.heap.size = w1.heap.size) := (by omega)
    have ne_0_3 : ¬ (w.heap.size = w2.heap.size) := (by omega)
    have ne_0_4 : ¬ (w.heap.size = w3.heap.size) := (by omega)
    have ne_1_0 : ¬ (w.heap.size + 1 = w.heap.size) := (by omega)
    have ne_1_2 : ¬ (w.heap.size + 1 = w1.heap.size) := (by omega)
    have ne_1_3 : ¬ (w.heap.size + 1 = w2.heap.size) := (by omega)
    have ne_1_4 : ¬ (w.heap.size + 1 = w3.heap.size) := (by omega)
    have ne_2_0 : ¬ (w1.heap.size = w.heap.size) := (by omega)
    have ne_2_1 : ¬ (w1.heap.size = w.heap.size + 1) := (by omega)
    have ne_2_3 : ¬ (w1.heap.size = w2.heap.size) := (by omega)
    have ne_2_4 : ¬ (w1.heap.size = w3.heap.size) := (by omega)
    have ne_3_0 : ¬ (w2.heap.size = w.heap.size) := (by omega)
    have ne_3_1 : ¬ (w2.heap.size = w.heap.size + 1) := (by omega)
    have ne_3_2 : ¬ (w2.heap.size = w1.heap.size) := (by omega)
    have ne_3_4 : ¬ (w2.heap.size = w3.heap.size) := (by omega)
    have ne_4_0 : ¬ (w3.heap.size = w.heap.size) := (by omega)
    have ne_4_1 : ¬ (w3.heap.size = w.heap.size + 1) := (by omega)
    have ne_4_2 : ¬ (w3.heap.size = w1.heap.size) := (by omega)
    have ne_4_3 : ¬ (w3.heap.size = w2.heap.size) := (by omega)
    go_wp2_with fail
    go_region_held3 (fun w' => w'.cell? ⟨w.heap.size, 0, none⟩ = some (.int .u64 (lim A 0)) ∧ w'.cell? ⟨w.heap.size, 1, none⟩ = some (.int .u64 (lim A 1)) ∧ w'.cell? ⟨w.heap.size, 2, none⟩ = some (.int .u64 (lim A 2)) ∧ w'.cell? ⟨w.heap.size, 3, none⟩ = some (.int .u64 (lim A 3)) ∧ w'.cell? ⟨w.heap.size + 1, 0, none⟩ = some (.int .u64 (lim B 0)) ∧ w'.cell? ⟨w.heap.size + 1, 1, none⟩ = some (.int .u64 (lim B 1)) ∧ w'.cell? ⟨w.heap.size + 1, 2, none⟩ = some (.int .u64 (lim B 2)) ∧ w'.cell? ⟨w.heap.size + 1, 3, none⟩ = some (.int .u64 (lim B 3)) ∧ w'.cell? ⟨w1.heap.size, 0, none⟩ = some (.int .u64 (lim (addV A B) 0)) ∧ w'.cell? ⟨w1.heap.size, 1, none⟩ = some (.int .u64 (lim (addV A B) 1)) ∧ w'.cell? ⟨w1.heap.size, 2, none⟩ = some (.int .u64 (lim (addV A B) 2)) ∧ w'.cell? ⟨w1.heap.size, 3, none⟩ = some (.int .u64 (lim (addV A B) 3)) ∧ w'.cell? ⟨w2.heap.size, 0, none⟩ = some (.int .u64 (lim (subV A B) 0)) ∧ w'.cell? ⟨w2.heap.size, 1, none⟩ = some (.int .u64 (lim (subV A B) 1)) ∧ w'.cell? ⟨w2.heap.size, 2, none⟩ = some (.int .u64 (lim (subV A B) 2)) ∧ w'.cell? ⟨w2.heap.size, 3, none⟩ = some (.int .u64 (lim (subV A B) 3)) ∧ w'.cell? ⟨w3.heap.size, 0, none⟩ = some (.int .u64 (lim (mulV A B) 0)) ∧ w'.cell? ⟨w3.heap.size, 1, none⟩ = some (.int .u64 (lim (mulV A B) 1)) ∧ w'.cell? ⟨w3.heap.size, 2, none⟩ = some (.int .u64 (lim (mulV A B) 2)) ∧ w'.cell? ⟨w3.heap.size, 3, none⟩ = some (.int .u64 (lim (mulV A B) 3))) (simp (maxDischargeDepth := 16) [go_sem, *, World.cell?_alloc_some, World.cell?_setCell_far])
      (first | (go_at_call 41; (with_reducible refine (CA.out _).mono ?_); rintro e w4 ⟨rfl, hb4⟩; (have hs4 := hb4.size); (try simp only [World.size_alloc, World.size_setCell, World.size_drew, size_drewN] at hs4); (have hc4_0 : ∀ o, w4.cell? ⟨w.heap.size, o, none⟩ = _ := fun o => hb4.cell (p := ⟨w.heap.size, o, none⟩) (by ((try simp only [World.size_alloc, World.size_setCell, World.size_drew, size_drewN]); omega))); (have hf4_0 : ∀ o, w4.frozen? ⟨w.heap.size, o, none⟩ = _ := fun o => hb4.frozen (p := ⟨w.heap.size, o, none⟩) (by ((try simp only [World.size_alloc, World.size_setCell, World.size_drew, size_drewN]); omega))); (have z4_0 : w.heap.size < w4.heap.size := (by omega)); (have hc4_1 : ∀ o, w4.cell? ⟨w.heap.size + 1, o, none⟩ = _ := fun o => hb4.cell (p := ⟨w.heap.size + 1, o, none⟩) (by ((try simp only [World.size_alloc, World.size_setCell, World.size_drew, size_drewN]); omega))); (have hf4_1 : ∀ o, w4.frozen? ⟨w.heap.size + 1, o, none⟩ = _ := fun o => hb4.frozen (p := ⟨w.heap.size + 1, o, none⟩) (by ((try simp only [World.size_alloc, World.size_setCell, World.size_drew, size_drewN]); omega))); (have z4_1 : w.heap.size + 1 < w4.heap.size := (by omega)); (have hc4_2 : ∀ o, w4.cell? ⟨w1.heap.size, o, none⟩ = _ := fun o => hb4.cell (p := ⟨w1.heap.size, o, none⟩) (by ((try simp only [World.size_alloc, World.size_setCell, World.size_drew, size_drewN]); omega))); (have hf4_2 : ∀ o, w4.frozen? ⟨w1.heap.size, o, none⟩ = _ := fun o => hb4.frozen (p := ⟨w1.heap.size, o, none⟩) (by ((try simp only [World.size_alloc, World.size_setCell, World.size_drew, size_drewN]); omega))); (have z4_2 : w1.heap.size < w4.heap.size := (by omega)); (have hc4_3 : ∀ o, w4.cell? ⟨w2.heap.size, o, none⟩ = _ := fun o => hb4.cell (p := ⟨w2.heap.size, o, none⟩) (by ((try simp only [World.size_alloc, World.size_setCell, World.size_drew, size_drewN]); omega))); (have hf4_3 : ∀ o, w4.frozen? ⟨w2.heap.size, o, none⟩ = _ := fun o => hb4.frozen (p := ⟨w2.heap.size, o, none⟩) (by ((try simp only [World.size_alloc, World.size_setCell, World.size_drew, size_drewN]); omega))); (have z4_3 : w2.heap.size < w4.heap.size := (by omega)); (have hc4_4 : ∀ o, w4.cell? ⟨w3.heap.size, o, none⟩ = _ := fun o => hb4.cell (p := ⟨w3.heap.size, o, none⟩) (by ((try simp only [World.size_alloc, World.size_setCell, World.size_drew, size_drewN]); omega))); (have hf4_4 : ∀ o, w4.frozen? ⟨w3.heap.size, o, none⟩ = _ := fun o => hb4.frozen (p := ⟨w3.heap.size, o, none⟩) (by ((try simp only [World.size_alloc, World.size_setCell, World.size_drew, size_drewN]); omega))); (have z4_4 : w3.heap.size < w4.heap.size := (by omega))) | (go_at_call 28; (with_reducible refine (CS.out _).mono ?_); rintro e w5 ⟨rfl, hb5⟩; (have hs5 := hb5.size); (try simp only [World.size_alloc, World.size_setCell, World.size_drew, size_drewN] at hs5); (have hc5_0 : ∀ o, w5.cell? ⟨w.heap.size, o, none⟩ = _ := fun o => hb5.cell (p := ⟨w.heap.size, o, none⟩) (by ((try simp only [World.size_alloc, World.size_setCell, World.size_drew, size_drewN]); omega))); (have hf5_0 : ∀ o, w5.frozen? ⟨w.heap.size, o, none⟩ = _ := fun o => hb5.frozen (p := ⟨w.heap.size, o, none⟩) (by ((try simp only [World.size_alloc, World.size_setCell, World.size_drew, size_drewN]); omega))); (have z5_0 : w.heap.size < w5.heap.size := (by omega)); (have hc5_1 : ∀ o, w5.cell? ⟨w.heap.size + 1, o, none⟩ = _ := fun o => hb5.cell (p := ⟨w.heap.size + 1, o, none⟩) (by ((try simp only [World.size_alloc, World.size_setCell, World.size_drew, size_drewN]); omega))); (have hf5_1 : ∀ o, w5.frozen? ⟨w.heap.size + 1, o, none⟩ = _ := fun o => hb5.frozen (p := ⟨w.heap.size + 1, o, none⟩) (by ((try simp only [World.size_alloc, World.size_setCell, World.size_drew, size_drewN]); omega))); (have z5_1 : w.heap.size + 1 < w5.heap.size := (by omega)); (have hc5_2 : ∀ o, w5.cell? ⟨w1.heap.size, o, none⟩ = _ := fun o => hb5.cell (p := ⟨w1.heap.size, o, none⟩) (by ((try simp only [World.size_alloc, World.size_setCell, World.size_drew, size_drewN]); omega))); (have hf5_2 : ∀ o, w5.frozen? ⟨w1.heap.size, o, none⟩ = _ := fun o => hb5.frozen (p := ⟨w1.heap.size, o, none⟩) (by ((try simp only [World.size_alloc, World.size_setCell, World.size_drew, size_drewN]); omega))); (have z5_2 : w1.heap.size < w5.heap.size := (by omega)); (have hc5_3 : ∀ o, w5.cell? ⟨w2.heap.size, o, none⟩ = _ := fun o => hb5.cell (p := ⟨w2.heap.size, o, none⟩) (by ((try simp only [World.size_alloc, World.size_setCell, World.size_drew, size_drewN]); omega))); (have hf5_3 : ∀ o, w5.frozen? ⟨w2.heap.size, o, none⟩ = _ := fun o => hb5.frozen (p := ⟨w2.heap.size, o, none⟩) (by ((try simp only [World.size_alloc, World.size_setCell, World.size_drew, size_drewN]); omega))); (have z5_3 : w2.heap.size < w5.heap.size := (by omega)); (have hc5_4 : ∀ o, w5.cell? ⟨w3.heap.size, o, none⟩ = _ := fun o => hb5.cell (p := ⟨w3.heap.size, o, none⟩) (by ((try simp only [World.size_alloc, World.size_setCell, World.size_drew, size_drewN]); omega))); (have hf5_4 : ∀ o, w5.frozen? ⟨w3.heap.size, o, none⟩ = _ := fun o => hb5.frozen (p := ⟨w3.heap.size, o, none⟩) (by ((try simp only [World.size_alloc, World.size_setCell, World.size_drew, size_drewN]); omega))); (have z5_4 : w3.heap.size < w5.heap.size := (by omega))) | (go_at_call 42; (with_reducible refine (CM.out _).mono ?_); rintro e w6 ⟨rfl, hb6⟩; (have hs6 := hb6.size); (try simp only [World.size_alloc, World.size_setCell, World.size_drew, size_drewN] at hs6); (have hc6_0 : ∀ o, w6.cell? ⟨w.heap.size, o, none⟩ = _ := fun o => hb6.cell (p := ⟨w.heap.size, o, none⟩) (by ((try simp only [World.size_alloc, World.size_setCell, World.size_drew, size_drewN]); omega))); (have hf6_0 : ∀ o, w6.frozen? ⟨w.heap.size, o, none⟩ = _ := fun o => hb6.frozen (p := ⟨w.heap.size, o, none⟩) (by ((try simp only [World.size_alloc, World.size_setCell, World.size_drew, size_drewN]); omega))); (have z6_0 : w.heap.size < w6.heap.size := (by omega)); (have hc6_1 : ∀ o, w6.cell? ⟨w.heap.size + 1, o, none⟩ = _ := fun o => hb6.cell (p := ⟨w.heap.size + 1, o, none⟩) (by ((try simp only [World.size_alloc, World.size_setCell, World.size_drew, size_drewN]); omega))); (have hf6_1 : ∀ o, w6.frozen? ⟨w.heap.size + 1, o, none⟩ = _ := fun o => hb6.frozen (p := ⟨w.heap.size + 1, o, none⟩) (by ((try simp only [World.size_alloc, World.size_setCell, World.size_drew, size_drewN]); omega))); (have z6_1 : w.heap.size + 1 < w6.heap.size := (by omega)); (have hc6_2 : ∀ o, w6.cell? ⟨w1.heap.size, o, none⟩ = _ := fun o => hb6.cell (p := ⟨w1.heap.size, o, none⟩) (by ((try simp only [World.size_alloc, World.size_setCell, World.size_drew, size_drewN]); omega))); (have hf6_2 : ∀ o, w6.frozen? ⟨w1.heap.size, o, none⟩ = _ := fun o => hb6.frozen (p := ⟨w1.heap.size, o, none⟩) (by ((try simp only [World.size_alloc, World.size_setCell, World.size_drew, size_drewN]); omega))); (have z6_2 : w1.heap.size < w6.heap.size := (by omega)); (have hc6_3 : ∀ o, w6.cell? ⟨w2.heap.size, o, none⟩ = _ := fun o => hb6.cell (p := ⟨w2.heap.size, o, none⟩) (by ((try simp only [World.size_alloc, World.size_setCell, World.size_drew, size_drewN]); omega))); (have hf6_3 : ∀ o, w6.frozen? ⟨w2.heap.size, o, none⟩ = _ := fun o => hb6.frozen (p := ⟨w2.heap.size, o, none⟩) (by ((try simp only [World.size_alloc, World.size_setCell, World.size_drew, size_drewN]); omega))); (have z6_3 : w2.heap.size < w6.heap.size := (by omega)); (have hc6_4 : ∀ o, w6.cell? ⟨w3.heap.size, o, none⟩ = _ := fun o => hb6.cell (p := ⟨w3.heap.size, o, none⟩) (by ((try simp only [World.size_alloc, World.size_setCell, World.size_drew, size_drewN]); omega))); (have hf6_4 : ∀ o, w6.frozen? ⟨w3.heap.size, o, none⟩ = _ := fun o => hb6.frozen (p := ⟨w3.heap.size, o, none⟩) (by ((try simp only [World.size_alloc, World.size_setCell, World.size_drew, size_drewN]); omega))); (have z6_4 : w3.heap.size < w6.heap.size := (by omega))))
    go_wp2
    go_ret
    exact ⟨rfl, (by (repeat' (first | (with_reducible exact Below.refl _ _) | (with_reducible assumption) | (with_reducible refine Below.alloc ?_ ?_ _) | (with_reducible refine Below.drew ?_) | (with_reducible refine below_drewN ?_ _) | (with_reducible refine Below.setCell ?_ ?_ _) | (with_reducible refine below_step (by with_reducible assumption) ?_ ?_) | (first | (with_reducible exact Nat.le_refl _) | (with_reducible assumption) | omega | (simp only [World.size_alloc, World.size_setCell, World.size_drew, size_drewN]; omega) | (simp; omega) | (simp; done)))))⟩
  · go_enter Try.func27, Try.ntmps27
    go_wp2_with fail
    refine (add256_c HA.out HB.out _).mono ?_
    rintro e w1 ⟨rfl, hb1⟩
    have hs1 := hb1.size
    try simp only [World.size_alloc, World.size_setCell, World.size_drew, size_drewN] at hs1
    have hc1_0 : ∀ o, w1.cell? ⟨w.heap.size, o, none⟩ = _ := fun o => hb1.cell (p := ⟨w.heap.size, o, none⟩) (by ((try simp only [World.size_alloc, World.size_setCell, World.size_drew, size_drewN]); omega))
    have hf1_0 : ∀ o, w1.frozen? ⟨w.heap.size, o, none⟩ = _ := fun o => hb1.frozen (p := ⟨w.heap.size, o, none⟩) (by ((try simp only [World.size_alloc, World.size_setCell, World.size_drew, size_drewN]); omega))
    have z1_0 : w.heap.size < w1.heap.size := (by omega)
    have hc1_1 : ∀ o, w1.cell? ⟨w.heap.size + 1, o, none⟩ = _ := fun o => hb1.cell (p := ⟨w.heap.size + 1, o, none⟩) (by ((try simp only [World.size_alloc, World.size_setCell, World.size_drew, size_drewN]); omega))
    have hf1_1 : ∀ o, w1.frozen? ⟨w.heap.size + 1, o, none⟩ = _ := fun o => hb1.frozen (p := ⟨w.heap.size + 1, o, none⟩) (by ((try simp only [World.size_alloc, World.size_setCell, World.size_drew, size_drewN]); omega))
    have z1_1 : w.heap.size + 1 < w1.heap.size := (by omega)
    go_wp2_with fail
    refine (sub256_c HA.out HB.out _).mono ?_
    rintro e w2 ⟨rfl, hb2⟩
    have hs2 := hb2.size
    try simp only [World.size_alloc, World.size_setCell, World.size_drew, size_drewN] at hs2
    have hc2_0 : ∀ o, w2.cell? ⟨w.heap.size, o, none⟩ = _ := fun o => hb2.cell (p := ⟨w.heap.size, o, none⟩) (by ((try simp only [World.size_alloc, World.size_setCell, World.size_drew, size_drewN]); omega))
    have hf2_0 : ∀ o, w2.frozen? ⟨w.heap.size, o, none⟩ = _ := fun o => hb2.frozen (p := ⟨w.heap.size, o, none⟩) (by ((try simp only [World.size_alloc, World.size_setCell, World.size_drew, size_drewN]); omega))
    have z2_0 : w.heap.size < w2.heap.size := (by omega)
    have hc2_1 : ∀ o, w2.cell? ⟨w.heap.size + 1, o, none⟩ = _ := fun o => hb2.cell (p := ⟨w.heap.size + 1, o, none⟩) (by ((try simp only [World.size_alloc, World.size_setCell, World.size_drew, size_drewN]); omega))
    have hf2_1 : ∀ o, w2.frozen? ⟨w.heap.size + 1, o, none⟩ = _ := fun o => hb2.frozen (p := ⟨w.heap.size + 1, o, none⟩) (by ((try simp only [World.size_alloc, World.size_setCell, World.size_drew, size_drewN]); omega))
    have z2_1 : w.heap.size + 1 < w2.heap.size := (by omega)
    have hc2_2 : ∀ o, w2.cell? ⟨w1.heap.size, o, none⟩ = _ := fun o => hb2.cell (p := ⟨w1.heap.size, o, none⟩) (by ((try simp only [World.size_alloc, World.size_setCell, World.size_drew, size_drewN]); omega))
    have hf2_2 : ∀ o, w2.frozen? ⟨w1.heap.size, o, none⟩ = _ := fun o => hb2.frozen (p := ⟨w1.heap.size, o, none⟩) (by ((try simp only [World.size_alloc, World.size_setCell, World.size_drew, size_drewN]); omega))
    have z2_2 : w1.heap.size < w2.heap.size := (by omega)
    go_wp2_with fail
    refine (mul256_c HA.out HB.out _).mono ?_
    rintro e w3 ⟨rfl, hb3⟩
    have hs3 := hb3.size
    try simp only [World.size_alloc, World.size_setCell, World.size_drew, size_drewN] at hs3
    have hc3_0 : ∀ o, w3.cell? ⟨w.heap.size, o, none⟩ = _ := fun o => hb3.cell (p := ⟨w.heap.size, o, none⟩) (by ((try simp only [World.size_alloc, World.size_setCell, World.size_drew, size_drewN]); omega))
    have hf3_0 : ∀ o, w3.frozen? ⟨w.heap.size, o, none⟩ = _ := fun o => hb3.frozen (p := ⟨w.heap.size, o, none⟩) (by ((try simp only [World.size_alloc, World.size_setCell, World.size_drew, size_drewN]); omega))
    have z3_0 : w.heap.size < w3.heap.size := (by omega)
    have hc3_1 : ∀ o, w3.cell? ⟨w.heap.size + 1, o, none⟩ = _ := fun o => hb3.cell (p := ⟨w.heap.size + 1, o, none⟩) (by ((try simp only [World.size_alloc, World.size_setCell, World.size_drew, size_drewN]); omega))
    have hf3_1 : ∀ o, w3.frozen? ⟨w.heap.size + 1, o, none⟩ = _ := fun o => hb3.frozen (p := ⟨w.heap.size + 1, o, none⟩) (by ((try simp only [World.size_alloc, World.size_setCell, World.size_drew, size_drewN]); omega))
    have z3_1 : w.heap.size + 1 < w3.heap.size := (by omega)
    have hc3_2 : ∀ o, w3.cell? ⟨w1.heap.size, o, none⟩ = _ := fun o => hb3.cell (p := ⟨w1.heap.size, o, none⟩) (by ((try simp only [World.size_alloc, World.size_setCell, World.size_drew, size_drewN]); omega))
    have hf3_2 : ∀ o, w3.frozen? ⟨w1.heap.size, o, none⟩ = _ := fun o => hb3.frozen (p := ⟨w1.heap.size, o, none⟩) (by ((try simp only [World.size_alloc, World.size_setCell, World.size_drew, size_drewN]); omega))
    have z3_2 : w1.heap.size < w3.heap.size := (by omega)
    have hc3_3 : ∀ o, w3.cell? ⟨w2.heap.size, o, none⟩ = _ := fun o => hb3.cell (p := ⟨w2.heap.size, o, none⟩) (by ((try simp only [World.size_alloc, World.size_setCell, World.size_drew, size_drewN]); omega))
    have hf3_3 : ∀ o, w3.frozen? ⟨w2.heap.size, o, none⟩ = _ := fun o => hb3.frozen (p := ⟨w2.heap.size, o, none⟩) (by ((try simp only [World.size_alloc, World.size_setCell, World.size_drew, size_drewN]); omega))
    have z3_3 : w2.heap.size < w3.heap.size := (by omega)
    have ne_0_1 : ¬ (w.heap.size = w.heap.size + 1) := (by omega)
    have ne_0_2 : ¬ (w.heap.size = w1.heap.size) := (by omega)
    have ne_0_3 : ¬ (w.heap.size = w2.heap.size) := (by omega)
    have ne_0_4 : ¬ (w.heap.size = w3.heap.size) := (by omega)
    have ne_1_0 : ¬ (w.heap.size + 1 = w.heap.size) := (by omega)
    have ne_1_2 : ¬ (w.heap.size + 1 = w1.heap.size) := (by omega)
    have ne_1_3 : ¬ (w.heap.size + 1 = w2.heap.size) := (by omega)
    have ne_1_4 : ¬ (w.heap.size + 1 = w3.heap.size) := (by omega)
    have ne_2_0 : ¬ (w1.heap.size = w.heap.size) := (by omega)
    have ne_2_1 : ¬ (w1.heap.size = w.heap.size + 1) := (by omega)
    have ne_2_3 : ¬ (w1.heap.size = w2.heap.size) := (by omega)
    have ne_2_4 : ¬ (w1.heap.size = w3.heap.size) := (by omega)
    have ne_3_0 : ¬ (w2.heap.size = w.heap.size) := (by omega)
    have ne_3_1 : ¬ (w2.heap.size = w.heap.size + 1) := (by omega)
    have ne_3_2 : ¬ (w2.heap.size = w1.heap.size) := (by omega)
    have ne_3_4 : ¬ (w2.heap.size = w3.heap.size) := (by omega)
    have ne_4_0 : ¬ (w3.heap.size = w.heap.size) := (by omega)
    have ne_4_1 : ¬ (w3.heap.size = w.heap.size + 1) := (by omega)
    have ne_4_2 : ¬ (w3.heap.size = w1.heap.size) := (by omega)
    have ne_4_3 : ¬ (w3.heap.size = w2.heap.size) := (by omega)
    go_wp2_with fail
    refine (max256_c _).mono ?_
    rintro e w4 ⟨rfl, hb4⟩
    have hs4 := hb4.size
    try simp only [World.size_alloc, World.size_setCell, World.size_drew, size_drewN] at hs4
    have hc4_0 : ∀ o, w4.cell? ⟨w.heap.size, o, none⟩ = _ := fun o => hb4.cell (p := ⟨w.heap.size, o, none⟩) (by ((try simp only [World.size_alloc, World.size_setCell, World.size_drew, size_drewN]); omega))
    have hf4_0 : ∀ o, w4.frozen? ⟨w.heap.size, o, none⟩ = _ := fun o => hb4.frozen (p := ⟨w.heap.size, o, none⟩) (by ((try simp only [World.size_alloc, World.size_setCell, World.size_drew, size_drewN]); omega))
    have z4_0 : w.heap.size < w4.heap.size := (by omega)
    have hc4_1 : ∀ o, w4.cell? ⟨w.heap.size + 1, o, none⟩ = _ := fun o => hb4.cell (p := ⟨w.heap.size + 1, o, none⟩) (by ((try simp only [World.size_alloc, World.size_setCell, World.size_drew, size_drewN]); omega))
    have hf4_1 : ∀ o, w4.frozen? ⟨w.heap.size + 1, o, none⟩ = _ := fun o => hb4.frozen (p := ⟨w.heap.size + 1, o, none⟩) (by ((try simp only [World.size_alloc, World.size_setCell, World.size_drew, size_drewN]); omega))
    have z4_1 : w.heap.size + 1 < w4.heap.size := (by omega)
    have hc4_2 : ∀ o, w4.cell? ⟨w1.heap.size, o, none⟩ = _ := fun o => hb4.cell (p := ⟨w1.heap.size, o, none⟩) (by ((try simp only [World.size_alloc, World.size_setCell, World.size_drew, size_drewN]); omega))
    have hf4_2 : ∀ o, w4.frozen? ⟨w1.heap.size, o, none⟩ = _ := fun o => hb4.frozen (p := ⟨w1.heap.size, o, none⟩) (by ((try simp only [World.size_alloc, World.size_setCell, World.size_drew, size_drewN]); omega))
    have z4_2 : w1.heap.size < w4.heap.size := (by omega)
    have hc4_3 : ∀ o, w4.cell? ⟨w2.heap.size, o, none⟩ = _ := fun o => hb4.cell (p := ⟨w2.heap.size, o, none⟩) (by ((try simp only [World.size_alloc, World.size_setCell, World.size_drew, size_drewN]); omega))
    have hf4_3 : ∀ o, w4.frozen? ⟨w2.heap.size, o, none⟩ = _ := fun o => hb4.frozen (p := ⟨w2.heap.size, o, none⟩) (by ((try simp only [World.size_alloc, World.size_setCell, World.size_drew, size_drewN]); omega))
    have z4_3 : w2.heap.size < w4.heap.size := (by omega)
    have hc4_4 : ∀ o, w4.cell? ⟨w3.heap.size, o, none⟩ = _ := fun o => hb4.cell (p := ⟨w3.heap.size, o, none⟩) (by ((try simp only [World.size_alloc, World.size_setCell, World.size_drew, size_drewN]); omega))
    have hf4_4 : ∀ o, w4.frozen? ⟨w3.heap.size, o, none⟩ = _ := fun o => hb4.frozen (p := ⟨w3.heap.size, o, none⟩) (by ((try simp only [World.size_alloc, World.size_setCell, World.size_drew, size_drewN]); omega))
    have z4_4 : w3.heap.size < w4.heap.size := (by omega)
    go_wp2_with fail
    go_region_held3 (fun w' => w'.cell? ⟨w.heap.size, 0, none⟩ = some (.int .u64 (lim A 0)) ∧ w'.cell? ⟨w.heap.size, 1, none⟩ = some (.int .u64 (lim A 1)) ∧ w'.cell? ⟨w.heap.size, 2, none⟩ = some (.int .u64 (lim A 2)) ∧ w'.cell? ⟨w.heap.size, 3, none⟩ = some (.int .u64 (lim A 3)) ∧ w'.cell? ⟨w.heap.size + 1, 0, none⟩ = some (.int .u64 (lim B 0)) ∧ w'.cell? ⟨w.heap.size + 1, 1, none⟩ = some (.int .u64 (lim B 1)) ∧ w'.cell? ⟨w.heap.size + 1, 2, none⟩ = some (.int .u64 (lim B 2)) ∧ w'.cell? ⟨w.heap.size + 1, 3, none⟩ = some (.int .u64 (lim B 3)) ∧ w'.cell? ⟨w1.heap.size, 0, none⟩ = some (.int .u64 (lim (addV A B) 0)) ∧ w'.cell? ⟨w1.heap.size, 1, none⟩ = some (.int .u64 (lim (addV A B) 1)) ∧ w'.cell? ⟨w1.heap.size, 2, none⟩ = some (.int .u64 (lim (addV A B) 2)) ∧ w'.cell? ⟨w1.heap.size, 3, none⟩ = some (.int .u64 (lim (addV A B) 3)) ∧ w'.cell? ⟨w2.heap.size, 0, none⟩ = some (.int .u64 (lim (subV A B) 0)) ∧ w'.cell? ⟨w2.heap.size, 1, none⟩ = some (.int .u64 (lim (subV A B) 1)) ∧ w'.cell? ⟨w2.heap.size, 2, none⟩ = some (.int .u64 (lim (subV A B) 2)) ∧ w'.cell? ⟨w2.heap.size, 3, none⟩ = some (.int .u64 (lim (subV A B) 3)) ∧ w'.cell? ⟨w3.heap.size, 0, none⟩ = some (.int .u64 (18446744073709551615)) ∧ w'.cell? ⟨w3.heap.size, 1, none⟩ = some (.int .u64 (18446744073709551615)) ∧ w'.cell? ⟨w3.heap.size, 2, none⟩ = some (.int .u64 (18446744073709551615)) ∧ w'.cell? ⟨w3.heap.size, 3, none⟩ = some (.int .u64 (18446744073709551615))) (simp (maxDischargeDepth := 16) [go_sem, *, World.cell?_alloc_some, World.cell?_setCell_far])
      (first | (go_at_call 41; (with_reducible refine (CA.out _).mono ?_); rintro e w5 ⟨rfl, hb5⟩; (have hs5 := hb5.size); (try simp only [World.size_alloc, World.size_setCell, World.size_drew, size_drewN] at hs5); (have hc5_0 : ∀ o, w5.cell? ⟨w.heap.size, o, none⟩ = _ := fun o => hb5.cell (p := ⟨w.heap.size, o, none⟩) (by ((try simp only [World.size_alloc, World.size_setCell, World.size_drew, size_drewN]); omega))); (have hf5_0 : ∀ o, w5.frozen? ⟨w.heap.size, o, none⟩ = _ := fun o => hb5.frozen (p := ⟨w.heap.size, o, none⟩) (by ((try simp only [World.size_alloc, World.size_setCell, World.size_drew, size_drewN]); omega))); (have z5_0 : w.heap.size < w5.heap.size := (by omega)); (have hc5_1 : ∀ o, w5.cell? ⟨w.heap.size + 1, o, none⟩ = _ := fun o => hb5.cell (p := ⟨w.heap.size + 1, o, none⟩) (by ((try simp only [World.size_alloc, World.size_setCell, World.size_drew, size_drewN]); omega))); (have hf5_1 : ∀ o, w5.frozen? ⟨w.heap.size + 1, o, none⟩ = _ := fun o => hb5.frozen (p := ⟨w.heap.size + 1, o, none⟩) (by ((try simp only [World.size_alloc, World.size_setCell, World.size_drew, size_drewN]); omega))); (have z5_1 : w.heap.size + 1 < w5.heap.size := (by omega)); (have hc5_2 : ∀ o, w5.cell? ⟨w1.heap.size, o, none⟩ = _ := fun o => hb5.cell (p := ⟨w1.heap.size, o, none⟩) (by ((try simp only [World.size_alloc, World.size_setCell, World.size_drew, size_drewN]); omega))); (have hf5_2 : ∀ o, w5.frozen? ⟨w1.heap.size, o, none⟩ = _ := fun o => hb5.frozen (p := ⟨w1.heap.size, o, none⟩) (by ((try simp only [World.size_alloc, World.size_setCell, World.size_drew, size_drewN]); omega))); (have z5_2 : w1.heap.size < w5.heap.size := (by omega)); (have hc5_3 : ∀ o, w5.cell? ⟨w2.heap.size, o, none⟩ = _ := fun o => hb5.cell (p := ⟨w2.heap.size, o, none⟩) (by ((try simp only [World.size_alloc, World.size_setCell, World.size_drew, size_drewN]); omega))); (have hf5_3 : ∀ o, w5.frozen? ⟨w2.heap.size, o, none⟩ = _ := fun o => hb5.frozen (p := ⟨w2.heap.size, o, none⟩) (by ((try simp only [World.size_alloc, World.size_setCell, World.size_drew, size_drewN]); omega))); (have z5_3 : w2.heap.size < w5.heap.size := (by omega)); (have hc5_4 : ∀ o, w5.cell? ⟨w3.heap.size, o, none⟩ = _ := fun o => hb5.cell (p := ⟨w3.heap.size, o, none⟩) (by ((try simp only [World.size_alloc, World.size_setCell, World.size_drew, size_drewN]); omega))); (have hf5_4 : ∀ o, w5.frozen? ⟨w3.heap.size, o, none⟩ = _ := fun o => hb5.frozen (p := ⟨w3.heap.size, o, none⟩) (by ((try simp only [World.size_alloc, World.size_setCell, World.size_drew, size_drewN]); omega))); (have z5_4 : w3.heap.size < w5.heap.size := (by omega))) | (go_at_call 28; (with_reducible refine (CS.out _).mono ?_); rintro e w6 ⟨rfl, hb6⟩; (have hs6 := hb6.size); (try simp only [World.size_alloc, World.size_setCell, World.size_drew, size_drewN] at hs6); (have hc6_0 : ∀ o, w6.cell? ⟨w.heap.size, o, none⟩ = _ := fun o => hb6.cell (p := ⟨w.heap.size, o, none⟩) (by ((try simp only [World.size_alloc, World.size_setCell, World.size_drew, size_drewN]); omega))); (have hf6_0 : ∀ o, w6.frozen? ⟨w.heap.size, o, none⟩ = _ := fun o => hb6.frozen (p := ⟨w.heap.size, o, none⟩) (by ((try simp only [World.size_alloc, World.size_setCell, World.size_drew, size_drewN]); omega))); (have z6_0 : w.heap.size < w6.heap.size := (by omega)); (have hc6_1 : ∀ o, w6.cell? ⟨w.heap.size + 1, o, none⟩ = _ := fun o => hb6.cell (p := ⟨w.heap.size + 1, o, none⟩) (by ((try simp only [World.size_alloc, World.size_setCell, World.size_drew, size_drewN]); omega))); (have hf6_1 : ∀ o, w6.frozen? ⟨w.heap.size + 1, o, none⟩ = _ := fun o => hb6.frozen (p := ⟨w.heap.size + 1, o, none⟩) (by ((try simp only [World.size_alloc, World.size_setCell, World.size_drew, size_drewN]); omega))); (have z6_1 : w.heap.size + 1 < w6.heap.size := (by omega)); (have hc6_2 : ∀ o, w6.cell? ⟨w1.heap.size, o, none⟩ = _ := fun o => hb6.cell (p := ⟨w1.heap.size, o, none⟩) (by ((try simp only [World.size_alloc, World.size_setCell, World.size_drew, size_drewN]); omega))); (have hf6_2 : ∀ o, w6.frozen? ⟨w1.heap.size, o, none⟩ = _ := fun o => hb6.frozen (p := ⟨w1.heap.size, o, none⟩) (by ((try simp only [World.size_alloc, World.size_setCell, World.size_drew, size_drewN]); omega))); (have z6_2 : w1.heap.size < w6.heap.size := (by omega)); (have hc6_3 : ∀ o, w6.cell? ⟨w2.heap.size, o, none⟩ = _ := fun o => hb6.cell (p := ⟨w2.heap.size, o, none⟩) (by ((try simp only [World.size_alloc, World.size_setCell, World.size_drew, size_drewN]); omega))); (have hf6_3 : ∀ o, w6.frozen? ⟨w2.heap.size, o, none⟩ = _ := fun o => hb6.frozen (p := ⟨w2.heap.size, o, none⟩) (by ((try simp only [World.size_alloc, World.size_setCell, World.size_drew, size_drewN]); omega))); (have z6_3 : w2.heap.size < w6.heap.size := (by omega)); (have hc6_4 : ∀ o, w6.cell? ⟨w3.heap.size, o, none⟩ = _ := fun o => hb6.cell (p := ⟨w3.heap.size, o, none⟩) (by ((try simp only [World.size_alloc, World.size_setCell, World.size_drew, size_drewN]); omega))); (have hf6_4 : ∀ o, w6.frozen? ⟨w3.heap.size, o, none⟩ = _ := fun o => hb6.frozen (p := ⟨w3.heap.size, o, none⟩) (by ((try simp only [World.size_alloc, World.size_setCell, World.size_drew, size_drewN]); omega))); (have z6_4 : w3.heap.size < w6.heap.size := (by omega))) | (go_at_call 42; (with_reducible refine (CM.out _).mono ?_); rintro e w7 ⟨rfl, hb7⟩; (have hs7 := hb7.size); (try simp only [World.size_alloc, World.size_setCell, World.size_drew, size_drewN] at hs7); (have hc7_0 : ∀ o, w7.cell? ⟨w.heap.size, o, none⟩ = _ := fun o => hb7.cell (p := ⟨w.heap.size, o, none⟩) (by ((try simp only [World.size_alloc, World.size_setCell, World.size_drew, size_drewN]); omega))); (have hf7_0 : ∀ o, w7.frozen? ⟨w.heap.size, o, none⟩ = _ := fun o => hb7.frozen (p := ⟨w.heap.size, o, none⟩) (by ((try simp only [World.size_alloc, World.size_setCell, World.size_drew, size_drewN]); omega))); (have z7_0 : w.heap.size < w7.heap.size := (by omega)); (have hc7_1 : ∀ o, w7.cell? ⟨w.heap.size + 1, o, none⟩ = _ := fun o => hb7.cell (p := ⟨w.heap.size + 1, o, none⟩) (by ((try simp only [World.size_alloc, World.size_setCell, World.size_drew, size_drewN]); omega))); (have hf7_1 : ∀ o, w7.frozen? ⟨w.heap.size + 1, o, none⟩ = _ := fun o => hb7.frozen (p := ⟨w.heap.size + 1, o, none⟩) (by ((try simp only [World.size_alloc, World.size_setCell, World.size_drew, size_drewN]); omega))); (have z7_1 : w.heap.size + 1 < w7.heap.size := (by omega)); (have hc7_2 : ∀ o, w7.cell? ⟨w1.heap.size, o, none⟩ = _ := fun o => hb7.cell (p := ⟨w1.heap.size, o, none⟩) (by ((try simp only [World.size_alloc, World.size_setCell, World.size_drew, size_drewN]); omega))); (have hf7_2 : ∀ o, w7.frozen? ⟨w1.heap.size, o, none⟩ = _ := fun o => hb7.frozen (p := ⟨w1.heap.size, o, none⟩) (by ((try simp only [World.size_alloc, World.size_setCell, World.size_drew, size_drewN]); omega))); (have z7_2 : w1.heap.size < w7.heap.size := (by omega)); (have hc7_3 : ∀ o, w7.cell? ⟨w2.heap.size, o, none⟩ = _ := fun o => hb7.cell (p := ⟨w2.heap.size, o, none⟩) (by ((try simp only [World.size_alloc, World.size_setCell, World.size_drew, size_drewN]); omega))); (have hf7_3 : ∀ o, w7.frozen? ⟨w2.heap.size, o, none⟩ = _ := fun o => hb7.frozen (p := ⟨w2.heap.size, o, none⟩) (by ((try simp only [World.size_alloc, World.size_setCell, World.size_drew, size_drewN]); omega))); (have z7_3 : w2.heap.size < w7.heap.size := (by omega)); (have hc7_4 : ∀ o, w7.cell? ⟨w3.heap.size, o, none⟩ = _ := fun o => hb7.cell (p := ⟨w3.heap.size, o, none⟩) (by ((try simp only [World.size_alloc, World.size_setCell, World.size_drew, size_drewN]); omega))); (have hf7_4 : ∀ o, w7.frozen? ⟨w3.heap.size, o, none⟩ = _ := fun o => hb7.frozen (p := ⟨w3.heap.size, o, none⟩) (by ((try simp only [World.size_alloc, World.size_setCell, World.size_drew, size_drewN]); omega))); (have z7_4 : w3.heap.size < w7.heap.size := (by omega))))
    go_wp2
    go_ret
    exact ⟨rfl, (by (repeat' (first | (with_reducible exact Below.refl _ _) | (with_reducible assumption) | (with_reducible refine Below.alloc ?_ ?_ _) | (with_reducible refine Below.drew ?_) | (with_reducible refine below_drewN ?_ _) | (with_reducible refine Below.setCell ?_ ?_ _) | (with_reducible refine below_step (by with_reducible assumption) ?_ ?_) | (first | (with_reducible exact Nat.le_refl _) | (with_reducible assumption) | omega | (simp only [World.size_alloc, World.size_setCell, World.size_drew, size_drewN]; omega) | (simp; omega) | (simp; done)))))⟩
  · go_enter Try.func27, Try.ntmps27
    go_wp2_with fail
    refine (add256_c HA.out HB.out _).mono ?_
    rintro e w1 ⟨rfl, hb1⟩
    have hs1 := hb1.size
    try simp only [World.size_alloc, World.size_setCell, World.size_drew, size_drewN] at hs1
    have hc1_0 : ∀ o, w1.cell? ⟨w.heap.size, o, none⟩ = _ := fun o => hb1.cell (p := ⟨w.heap.size, o, none⟩) (by ((try simp only [World.size_alloc, World.size_setCell, World.size_drew, size_drewN]); omega))
    have hf1_0 : ∀ o, w1.frozen? ⟨w.heap.size, o, none⟩ = _ := fun o => hb1.frozen (p := ⟨w.heap.size, o, none⟩) (by ((try simp only [World.size_alloc, World.size_setCell, World.size_drew, size_drewN]); omega))
    have z1_0 : w.heap.size < w1.heap.size := (by omega)
    have hc1_1 : ∀ o, w1.cell? ⟨w.heap.size + 1, o, none⟩ = _ := fun o => hb1.cell (p := ⟨w.heap.size + 1, o, none⟩) (by ((try simp only [World.size_alloc, World.size_setCell, World.size_drew, size_drewN]); omega))
    have hf1_1 : ∀ o, w1.frozen? ⟨w.heap.size + 1, o, none⟩ = _ := fun o => hb1.frozen (p := ⟨w.heap.size + 1, o, none⟩) (by ((try simp only [World.size_alloc, World.size_setCell, World.size_drew, size_drewN]); omega))
    have z1_1 : w.heap.size + 1 < w1.heap.size := (by omega)
    go_wp2_with fail
    refine (sub256_c HA.out HB.out _).mono ?_
    rintro e w2 ⟨rfl, hb2⟩
    have hs2 := hb2.size
    try simp only [World.size_alloc, World.size_setCell, World.size_drew, size_drewN] at hs2
    have hc2_0 : ∀ o, w2.cell? ⟨w.heap.size, o, none⟩ = _ := fun o => hb2.cell (p := ⟨w.heap.size, o, none⟩) (by ((try simp only [World.size_alloc, World.size_setCell, World.size_drew, size_drewN]); omega))
    have hf2_0 : ∀ o, w2.frozen? ⟨w.heap.size, o, none⟩ = _ := fun o => hb2.frozen (p := ⟨w.heap.size, o, none⟩) (by ((try simp only [World.size_alloc, World.size_setCell, World.size_drew, size_drewN]); omega))
    have z2_0 : w.heap.size < w2.heap.size := (by omega)
    have hc2_1 : ∀ o, w2.cell? ⟨w.heap.size + 1, o, none⟩ = _ := fun o => hb2.cell (p := ⟨w.heap.size + 1, o, none⟩) (by ((try simp only [World.size_alloc, World.size_setCell, World.size_drew, size_drewN]); omega))
    have hf2_1 : ∀ o, w2.frozen? ⟨w.heap.size + 1, o, none⟩ = _ := fun o => hb2.frozen (p := ⟨w.heap.size + 1, o, none⟩) (by ((try simp only [World.size_alloc, World.size_setCell, World.size_drew, size_drewN]); omega))
    have z2_1 : w.heap.size + 1 < w2.heap.size := (by omega)
    have hc2_2 : ∀ o, w2.cell? ⟨w1.heap.size, o, none⟩ = _ := fun o => hb2.cell (p := ⟨w1.heap.size, o, none⟩) (by ((try simp only [World.size_alloc, World.size_setCell, World.size_drew, size_drewN]); omega))
    have hf2_2 : ∀ o, w2.frozen? ⟨w1.heap.size, o, none⟩ = _ := fun o => hb2.frozen (p := ⟨w1.heap.size, o, none⟩) (by ((try simp only [World.size_alloc, World.size_setCell, World.size_drew, size_drewN]); omega))
    have z2_2 : w1.heap.size < w2.heap.size := (by omega)
    go_wp2_with fail
    refine (mul256_c HA.out HB.out _).mono ?_
    rintro e w3 ⟨rfl, hb3⟩
    have hs3 := hb3.size
    try simp only [World.size_alloc, World.size_setCell, World.size_drew, size_drewN] at hs3
    have hc3_0 : ∀ o, w3.cell? ⟨w.heap.size, o, none⟩ = _ := fun o => hb3.cell (p := ⟨w.heap.size, o, none⟩) (by ((try simp only [World.size_alloc, World.size_setCell, World.size_drew, size_drewN]); omega))
    have hf3_0 : ∀ o, w3.frozen? ⟨w.heap.size, o, none⟩ = _ := fun o => hb3.frozen (p := ⟨w.heap.size, o, none⟩) (by ((try simp only [World.size_alloc, World.size_setCell, World.size_drew, size_drewN]); omega))
    have z3_0 : w.heap.size < w3.heap.size := (by omega)
    have hc3_1 : ∀ o, w3.cell? ⟨w.heap.size + 1, o, none⟩ = _ := fun o => hb3.cell (p := ⟨w.heap.size + 1, o, none⟩) (by ((try simp only [World.size_alloc, World.size_setCell, World.size_drew, size_drewN]); omega))
    have hf3_1 : ∀ o, w3.frozen? ⟨w.heap.size + 1, o, none⟩ = _ := fun o => hb3.frozen (p := ⟨w.heap.size + 1, o, none⟩) (by ((try simp only [World.size_alloc, World.size_setCell, World.size_drew, size_drewN]); omega))
    have z3_1 : w.heap.size + 1 < w3.heap.size := (by omega)
    have hc3_2 : ∀ o, w3.cell? ⟨w1.heap.size, o, none⟩ = _ := fun o => hb3.cell (p := ⟨w1.heap.size, o, none⟩) (by ((try simp only [World.size_alloc, World.size_setCell, World.size_drew, size_drewN]); omega))
    have hf3_2 : ∀ o, w3.frozen? ⟨w1.heap.size, o, none⟩ = _ := fun o => hb3.frozen (p := ⟨w1.heap.size, o, none⟩) (by ((try simp only [World.size_alloc, World.size_setCell, World.size_drew, size_drewN]); omega))
    have z3_2 : w1.heap.size < w3.heap.size := (by omega)
    have hc3_3 : ∀ o, w3.cell? ⟨w2.heap.size, o, none⟩ = _ := fun o => hb3.cell (p := ⟨w2.heap.size, o, none⟩) (by ((try simp only [World.size_alloc, World.size_setCell, World.size_drew, size_drewN]); omega))
    have hf3_3 : ∀ o, w3.frozen? ⟨w2.heap.size, o, none⟩ = _ := fun o => hb3.frozen (p := ⟨w2.heap.size, o, none⟩) (by ((try simp only [World.size_alloc, World.size_setCell, World.size_drew, size_drewN]); omega))
    have z3_3 : w2.heap.size < w3.heap.size := (by omega)
    have ne_0_1 : ¬ (w.heap.size = w.heap.size + 1) := (by omega)
    have ne_0_2 : ¬ (w.heap.size = w1.heap.size) := (by omega)
    have ne_0_3 : ¬ (w.heap.size = w2.heap.size) := (by omega)
    have ne_0_4 : ¬ (w.heap.size = w3.heap.size) := (by omega)
    have ne_1_0 : ¬ (w.heap.size + 1 = w.heap.size) := (by omega)
    have ne_1_2 : ¬ (w.heap.size + 1 = w1.heap.size) := (by omega)
    have ne_1_3 : ¬ (w.heap.size + 1 = w2.heap.size) := (by omega)
    have ne_1_4 : ¬ (w.heap.size + 1 = w3.heap.size) := (by omega)
    have ne_2_0 : ¬ (w1.heap.size = w.heap.size) := (by omega)
    have ne_2_1 : ¬ (w1.heap.size = w.heap.size + 1) := (by omega)
    have ne_2_3 : ¬ (w1.heap.size = w2.heap.size) := (by omega)
    have ne_2_4 : ¬ (w1.heap.size = w3.heap.size) := (by omega)
    have ne_3_0 : ¬ (w2.heap.size = w.heap.size) := (by omega)
    have ne_3_1 : ¬ (w2.heap.size = w.heap.size + 1) := (by omega)
    have ne_3_2 : ¬ (w2.heap.size = w1.heap.size) := (by omega)
    have ne_3_4 : ¬ (w2.heap.size = w3.heap.size) := (by omega)
    have ne_4_0 : ¬ (w3.heap.size = w.heap.size) := (by omega)
    have ne_4_1 : ¬ (w3.heap.size = w.heap.size + 1) := (by omega)
    have ne_4_2 : ¬ (w3.heap.size = w1.heap.size) := (by omega)
    have ne_4_3 : ¬ (w3.heap.size = w2.heap.size) := (by omega)
    go_wp2_with fail
    go_region_held3 (fun w' => w'.cell? ⟨w.heap.size, 0, none⟩ = some (.int .u64 (lim A 0)) ∧ w'.cell? ⟨w.heap.size, 1, none⟩ = some (.int .u64 (lim A 1)) ∧ w'.cell? ⟨w.heap.size, 2, none⟩ = some (.int .u64 (lim A 2)) ∧ w'.cell? ⟨w.heap.size, 3, none⟩ = some (.int .u64 (lim A 3)) ∧ w'.cell? ⟨w.heap.size + 1, 0, none⟩ = some (.int .u64 (lim B 0)) ∧ w'.cell? ⟨w.heap.size + 1, 1, none⟩ = some (.int .u64 (lim B 1)) ∧ w'.cell? ⟨w.heap.size + 1, 2, none⟩ = some (.int .u64 (lim B 2)) ∧ w'.cell? ⟨w.heap.size + 1, 3, none⟩ = some (.int .u64 (lim B 3)) ∧ w'.cell? ⟨w1.heap.size, 0, none⟩ = some (.int .u64 (lim (addV A B) 0)) ∧ w'.cell? ⟨w1.heap.size, 1, none⟩ = some (.int .u64 (lim (addV A B) 1)) ∧ w'.cell? ⟨w1.heap.size, 2, none⟩ = some (.int .u64 (lim (addV A B) 2)) ∧ w'.cell? ⟨w1.heap.size, 3, none⟩ = some (.int .u64 (lim (addV A B) 3)) ∧ w'.cell? ⟨w2.heap.size, 0, none⟩ = some (.int .u64 (0)) ∧ w'.cell? ⟨w2.heap.size, 1, none⟩ = some (.int .u64 (0)) ∧ w'.cell? ⟨w2.heap.size, 2, none⟩ = some (.int .u64 (0)) ∧ w'.cell? ⟨w2.heap.size, 3, none⟩ = some (.int .u64 (0)) ∧ w'.cell? ⟨w3.heap.size, 0, none⟩ = some (.int .u64 (lim (mulV A B) 0)) ∧ w'.cell? ⟨w3.heap.size, 1, none⟩ = some (.int .u64 (lim (mulV A B) 1)) ∧ w'.cell? ⟨w3.heap.size, 2, none⟩ = some (.int .u64 (lim (mulV A B) 2)) ∧ w'.cell? ⟨w3.heap.size, 3, none⟩ = some (.int .u64 (lim (mulV A B) 3))) (simp (maxDischargeDepth := 16) [go_sem, *, World.cell?_alloc_some, World.cell?_setCell_far])
      (first | (go_at_call 41; (with_reducible refine (CA.out _).mono ?_); rintro e w4 ⟨rfl, hb4⟩; (have hs4 := hb4.size); (try simp only [World.size_alloc, World.size_setCell, World.size_drew, size_drewN] at hs4); (have hc4_0 : ∀ o, w4.cell? ⟨w.heap.size, o, none⟩ = _ := fun o => hb4.cell (p := ⟨w.heap.size, o, none⟩) (by ((try simp only [World.size_alloc, World.size_setCell, World.size_drew, size_drewN]); omega))); (have hf4_0 : ∀ o, w4.frozen? ⟨w.heap.size, o, none⟩ = _ := fun o => hb4.frozen (p := ⟨w.heap.size, o, none⟩) (by ((try simp only [World.size_alloc, World.size_setCell, World.size_drew, size_drewN]); omega))); (have z4_0 : w.heap.size < w4.heap.size := (by omega)); (have hc4_1 : ∀ o, w4.cell? ⟨w.heap.size + 1, o, none⟩ = _ := fun o => hb4.cell (p := ⟨w.heap.size + 1, o, none⟩) (by ((try simp only [World.size_alloc, World.size_setCell, World.size_drew, size_drewN]); omega))); (have hf4_1 : ∀ o, w4.frozen? ⟨w.heap.size + 1, o, none⟩ = _ := fun o => hb4.frozen (p := ⟨w.heap.size + 1, o, none⟩) (by ((try simp only [World.size_alloc, World.size_setCell, World.size_drew, size_drewN]); omega))); (have z4_1 : w.heap.size + 1 < w4.heap.size := (by omega)); (have hc4_2 : ∀ o, w4.cell? ⟨w1.heap.size, o, none⟩ = _ := fun o => hb4.cell (p := ⟨w1.heap.size, o, none⟩) (by ((try simp only [World.size_alloc, World.size_setCell, World.size_drew, size_drewN]); omega))); (have hf4_2 : ∀ o, w4.frozen? ⟨w1.heap.size, o, none⟩ = _ := fun o => hb4.frozen (p := ⟨w1.heap.size, o, none⟩) (by ((try simp only [World.size_alloc, World.size_setCell, World.size_drew, size_drewN]); omega))); (have z4_2 : w1.heap.size < w4.heap.size := (by omega)); (have hc4_3 : ∀ o, w4.cell? ⟨w2.heap.size, o, none⟩ = _ := fun o => hb4.cell (p := ⟨w2.heap.size, o, none⟩) (by ((try simp only [World.size_alloc, World.size_setCell, World.size_drew, size_drewN]); omega))); (have hf4_3 : ∀ o, w4.frozen? ⟨w2.heap.size, o, none⟩ = _ := fun o => hb4.frozen (p := ⟨w2.heap.size, o, none⟩) (by ((try simp only [World.size_alloc, World.size_setCell, World.size_drew, size_drewN]); omega))); (have z4_3 : w2.heap.size < w4.heap.size := (by omega)); (have hc4_4 : ∀ o, w4.cell? ⟨w3.heap.size, o, none⟩ = _ := fun o => hb4.cell (p := ⟨w3.heap.size, o, none⟩) (by ((try simp only [World.size_alloc, World.size_setCell, World.size_drew, size_drewN]); omega))); (have hf4_4 : ∀ o, w4.frozen? ⟨w3.heap.size, o, none⟩ = _ := fun o => hb4.frozen (p := ⟨w3.heap.size, o, none⟩) (by ((try simp only [World.size_alloc, World.size_setCell, World.size_drew, size_drewN]); omega))); (have z4_4 : w3.heap.size < w4.heap.size := (by omega))) | (go_at_call 28; (with_reducible refine (CS.out _).mono ?_); rintro e w5 ⟨rfl, hb5⟩; (have hs5 := hb5.size); (try simp only [World.size_alloc, World.size_setCell, World.size_drew, size_drewN] at hs5); (have hc5_0 : ∀ o, w5.cell? ⟨w.heap.size, o, none⟩ = _ := fun o => hb5.cell (p := ⟨w.heap.size, o, none⟩) (by ((try simp only [World.size_alloc, World.size_setCell, World.size_drew, size_drewN]); omega))); (have hf5_0 : ∀ o, w5.frozen? ⟨w.heap.size, o, none⟩ = _ := fun o => hb5.frozen (p := ⟨w.heap.size, o, none⟩) (by ((try simp only [World.size_alloc, World.size_setCell, World.size_drew, size_drewN]); omega))); (have z5_0 : w.heap.size < w5.heap.size := (by omega)); (have hc5_1 : ∀ o, w5.cell? ⟨w.heap.size + 1, o, none⟩ = _ := fun o => hb5.cell (p := ⟨w.heap.size + 1, o, none⟩) (by ((try simp only [World.size_alloc, World.size_setCell, World.size_drew, size_drewN]); omega))); (have hf5_1 : ∀ o, w5.frozen? ⟨w.heap.size + 1, o, none⟩ = _ := fun o => hb5.frozen (p := ⟨w.heap.size + 1, o, none⟩) (by ((try simp only [World.size_alloc, World.size_setCell, World.size_drew, size_drewN]); omega))); (have z5_1 : w.heap.size + 1 < w5.heap.size := (by omega)); (have hc5_2 : ∀ o, w5.cell? ⟨w1.heap.size, o, none⟩ = _ := fun o => hb5.cell (p := ⟨w1.heap.size, o, none⟩) (by ((try simp only [World.size_alloc, World.size_setCell, World.size_drew, size_drewN]); omega))); (have hf5_2 : ∀ o, w5.frozen? ⟨w1.heap.size, o, none⟩ = _ := fun o => hb5.frozen (p := ⟨w1.heap.size, o, none⟩) (by ((try simp only [World.size_alloc, World.size_setCell, World.size_drew, size_drewN]); omega))); (have z5_2 : w1.heap.size < w5.heap.size := (by omega)); (have hc5_3 : ∀ o, w5.cell? ⟨w2.heap.size, o, none⟩ = _ := fun o => hb5.cell (p := ⟨w2.heap.size, o, none⟩) (by ((try simp only [World.size_alloc, World.size_setCell, World.size_drew, size_drewN]); omega))); (have hf5_3 : ∀ o, w5.frozen? ⟨w2.heap.size, o, none⟩ = _ := fun o => hb5.frozen (p := ⟨w2.heap.size, o, none⟩) (by ((try simp only [World.size_alloc, World.size_setCell, World.size_drew, size_drewN]); omega))); (have z5_3 : w2.heap.size < w5.heap.size := (by omega)); (have hc5_4 : ∀ o, w5.cell? ⟨w3.heap.size, o, none⟩ = _ := fun o => hb5.cell (p := ⟨w3.heap.size, o, none⟩) (by ((try simp only [World.size_alloc, World.size_setCell, World.size_drew, size_drewN]); omega))); (have hf5_4 : ∀ o, w5.frozen? ⟨w3.heap.size, o, none⟩ = _ := fun o => hb5.frozen (p := ⟨w3.heap.size, o, none⟩) (by ((try simp only [World.size_alloc, World.size_setCell, World.size_drew, size_drewN]); omega))); (have z5_4 : w3.heap.size < w5.heap.size := (by omega))) | (go_at_call 42; (with_reducible refine (CM.out _).mono ?_); rintro e w6 ⟨rfl, hb6⟩; (have hs6 := hb6.size); (try simp only [World.size_alloc, World.size_setCell, World.size_drew, size_drewN] at hs6); (have hc6_0 : ∀ o, w6.cell? ⟨w.heap.size, o, none⟩ = _ := fun o => hb6.cell (p := ⟨w.heap.size, o, none⟩) (by ((try simp only [World.size_alloc, World.size_setCell, World.size_drew, size_drewN]); omega))); (have hf6_0 : ∀ o, w6.frozen? ⟨w.heap.size, o, none⟩ = _ := fun o => hb6.frozen (p := ⟨w.heap.size, o, none⟩) (by ((try simp only [World.size_alloc, World.size_setCell, World.size_drew, size_drewN]); omega))); (have z6_0 : w.heap.size < w6.heap.size := (by omega)); (have hc6_1 : ∀ o, w6.cell? ⟨w.heap.size + 1, o, none⟩ = _ := fun o => hb6.cell (p := ⟨w.heap.size + 1, o, none⟩) (by ((try simp only [World.size_alloc, World.size_setCell, World.size_drew, size_drewN]); omega))); (have hf6_1 : ∀ o, w6.frozen? ⟨w.heap.size + 1, o, none⟩ = _ := fun o => hb6.frozen (p := ⟨w.heap.size + 1, o, none⟩) (by ((try simp only [World.size_alloc, World.size_setCell, World.size_drew, size_drewN]); omega))); (have z6_1 : w.heap.size + 1 < w6.heap.size := (by omega)); (have hc6_2 : ∀ o, w6.cell? ⟨w1.heap.size, o, none⟩ = _ := fun o => hb6.cell (p := ⟨w1.heap.size, o, none⟩) (by ((try simp only [World.size_alloc, World.size_setCell, World.size_drew, size_drewN]); omega))); (have hf6_2 : ∀ o, w6.frozen? ⟨w1.heap.size, o, none⟩ = _ := fun o => hb6.frozen (p := ⟨w1.heap.size, o, none⟩) (by ((try simp only [World.size_alloc, World.size_setCell, World.size_drew, size_drewN]); omega))); (have z6_2 : w1.heap.size < w6.heap.size := (by omega)); (have hc6_3 : ∀ o, w6.cell? ⟨w2.heap.size, o, none⟩ = _ := fun o => hb6.cell (p := ⟨w2.heap.size, o, none⟩) (by ((try simp only [World.size_alloc, World.size_setCell, World.size_drew, size_drewN]); omega))); (have hf6_3 : ∀ o, w6.frozen? ⟨w2.heap.size, o, none⟩ = _ := fun o => hb6.frozen (p := ⟨w2.heap.size, o, none⟩) (by ((try simp only [World.size_alloc, World.size_setCell, World.size_drew, size_drewN]); omega))); (have z6_3 : w2.heap.size < w6.heap.size := (by omega)); (have hc6_4 : ∀ o, w6.cell? ⟨w3.heap.size, o, none⟩ = _ := fun o => hb6.cell (p := ⟨w3.heap.size, o, none⟩) (by ((try simp only [World.size_alloc, World.size_setCell, World.size_drew, size_drewN]); omega))); (have hf6_4 : ∀ o, w6.frozen? ⟨w3.heap.size, o, none⟩ = _ := fun o => hb6.frozen (p := ⟨w3.heap.size, o, none⟩) (by ((try simp only [World.size_alloc, World.size_setCell, World.size_drew, size_drewN]); omega))); (have z6_4 : w3.heap.size < w6.heap.size := (by omega))))
    go_wp2
    go_ret
    exact ⟨rfl, (by (repeat' (first | (with_reducible exact Below.refl _ _) | (with_reducible assumption) | (with_reducible refine Below.alloc ?_ ?_ _) | (with_reducible refine Below.drew ?_) | (with_reducible refine below_drewN ?_ _) | (with_reducible refine Below.setCell ?_ ?_ _) | (with_reducible refine below_step (by with_reducible assumption) ?_ ?_) | (first | (with_reducible exact Nat.le_refl _) | (with_reducible assumption) | omega | (simp only [World.size_alloc, World.size_setCell, World.size_drew, size_drewN]; omega) | (simp; omega) | (simp; done)))))⟩
  · go_enter Try.func27, Try.ntmps27
    go_wp2_with fail
    refine (add256_c HA.out HB.out _).mono ?_
    rintro e w1 ⟨rfl, hb1⟩
    have hs1 := hb1.size
    try simp only [World.size_alloc, World.size_setCell, World.size_drew, size_drewN] at hs1
    have hc1_0 : ∀ o, w1.cell? ⟨w.heap.size, o, none⟩ = _ := fun o => hb1.cell (p := ⟨w.heap.size, o, none⟩) (by ((try simp only [World.size_alloc, World.size_setCell, World.size_drew, size_drewN]); omega))
    have hf1_0 : ∀ o, w1.frozen? ⟨w.heap.size, o, none⟩ = _ := fun o => hb1.frozen (p := ⟨w.heap.size, o, none⟩) (by ((try simp only [World.size_alloc, World.size_setCell, World.size_drew, size_drewN]); omega))
    have z1_0 : w.heap.size < w1.heap.size := (by omega)
    have hc1_1 : ∀ o, w1.cell? ⟨w.heap.size + 1, o, none⟩ = _ := fun o => hb1.cell (p := ⟨w.heap.size + 1, o, none⟩) (by ((try simp only [World.size_alloc, World.size_setCell, World.size_drew, size_drewN]); omega))
    have hf1_1 : ∀ o, w1.frozen? ⟨w.heap.size + 1, o, none⟩ = _ := fun o => hb1.frozen (p := ⟨w.heap.size + 1, o, none⟩) (by ((try simp only [World.size_alloc, World.size_setCell, World.size_drew, size_drewN]); omega))
    have z1_1 : w.heap.size + 1 < w1.heap.size := (by omega)
    go_wp2_with fail
    refine (sub256_c HA.out HB.out _).mono ?_
    rintro e w2 ⟨rfl, hb2⟩
    have hs2 := hb2.size
    try simp only [World.size_alloc, World.size_setCell, World.size_drew, size_drewN] at hs2
    have hc2_0 : ∀ o, w2.cell? ⟨w.heap.size, o, none⟩ = _ := fun o => hb2.cell (p := ⟨w.heap.size, o, none⟩) (by ((try simp only [World.size_alloc, World.size_setCell, World.size_drew, size_drewN]); omega))
    have hf2_0 : ∀ o, w2.frozen? ⟨w.heap.size, o, none⟩ = _ := fun o => hb2.frozen (p := ⟨w.heap.size, o, none⟩) (by ((try simp only [World.size_alloc, World.size_setCell, World.size_drew, size_drewN]); omega))
    have z2_0 : w.heap.size < w2.heap.size := (by omega)
    have hc2_1 : ∀ o, w2.cell? ⟨w.heap.size + 1, o, none⟩ = _ := fun o => hb2.cell (p := ⟨w.heap.size + 1, o, none⟩) (by ((try simp only [World.size_alloc, World.size_setCell, World.size_drew, size_drewN]); omega))
    have hf2_1 : ∀ o, w2.frozen? ⟨w.heap.size + 1, o, none⟩ = _ := fun o => hb2.frozen (p := ⟨w.heap.size + 1, o, none⟩) (by ((try simp only [World.size_alloc, World.size_setCell, World.size_drew, size_drewN]); omega))
    have z2_1 : w.heap.size + 1 < w2.heap.size := (by omega)
    have hc2_2 : ∀ o, w2.cell? ⟨w1.heap.size, o, none⟩ = _ := fun o => hb2.cell (p := ⟨w1.heap.size, o, none⟩) (by ((try simp only [World.size_alloc, World.size_setCell, World.size_drew, size_drewN]); omega))
    have hf2_2 : ∀ o, w2.frozen? ⟨w1.heap.size, o, none⟩ = _ := fun o => hb2.frozen (p := ⟨w1.heap.size, o, none⟩) (by ((try simp only [World.size_alloc, World.size_setCell, World.size_drew, size_drewN]); omega))
    have z2_2 : w1.heap.size < w2.heap.size := (by omega)
    go_wp2_with fail
    refine (mul256_c HA.out HB.out _).mono ?_
    rintro e w3 ⟨rfl, hb3⟩
    have hs3 := hb3.size
    try simp only [World.size_alloc, World.size_setCell, World.size_drew, size_drewN] at hs3
    have hc3_0 : ∀ o, w3.cell? ⟨w.heap.size, o, none⟩ = _ := fun o => hb3.cell (p := ⟨w.heap.size, o, none⟩) (by ((try simp only [World.size_alloc, World.size_setCell, World.size_drew, size_drewN]); omega))
    have hf3_0 : ∀ o, w3.frozen? ⟨w.heap.size, o, none⟩ = _ := fun o => hb3.frozen (p := ⟨w.heap.size, o, none⟩) (by ((try simp only [World.size_alloc, World.size_setCell, World.size_drew, size_drewN]); omega))
    have z3_0 : w.heap.size < w3.heap.size := (by omega)
    have hc3_1 : ∀ o, w3.cell? ⟨w.heap.size + 1, o, none⟩ = _ := fun o => hb3.cell (p := ⟨w.heap.size + 1, o, none⟩) (by ((try simp only [World.size_alloc, World.size_setCell, World.size_drew, size_drewN]); omega))
    have hf3_1 : ∀ o, w3.frozen? ⟨w.heap.size + 1, o, none⟩ = _ := fun o => hb3.frozen (p := ⟨w.heap.size + 1, o, none⟩) (by ((try simp only [World.size_alloc, World.size_setCell, World.size_drew, size_drewN]); omega))
    have z3_1 : w.heap.size + 1 < w3.heap.size := (by omega)
    have hc3_2 : ∀ o, w3.cell? ⟨w1.heap.size, o, none⟩ = _ := fun o => hb3.cell (p := ⟨w1.heap.size, o, none⟩) (by ((try simp only [World.size_alloc, World.size_setCell, World.size_drew, size_drewN]); omega))
    have hf3_2 : ∀ o, w3.frozen? ⟨w1.heap.size, o, none⟩ = _ := fun o => hb3.frozen (p := ⟨w1.heap.size, o, none⟩) (by ((try simp only [World.size_alloc, World.size_setCell, World.size_drew, size_drewN]); omega))
    have z3_2 : w1.heap.size < w3.heap.size := (by omega)
    have hc3_3 : ∀ o, w3.cell? ⟨w2.heap.size, o, none⟩ = _ := fun o => hb3.cell (p := ⟨w2.heap.size, o, none⟩) (by ((try simp only [World.size_alloc, World.size_setCell, World.size_drew, size_drewN]); omega))
    have hf3_3 : ∀ o, w3.frozen? ⟨w2.heap.size, o, none⟩ = _ := fun o => hb3.frozen (p := ⟨w2.heap.size, o, none⟩) (by ((try simp only [World.size_alloc, World.size_setCell, World.size_drew, size_drewN]); omega))
    have z3_3 : w2.heap.size < w3.heap.size := (by omega)
    have ne_0_1 : ¬ (w.heap.size = w.heap.size + 1) := (by omega)
    have ne_0_2 : ¬ (w.heap.size = w1.heap.size) := (by omega)
    have ne_0_3 : ¬ (w.heap.size = w2.heap.size) := (by omega)
    have ne_0_4 : ¬ (w.heap.size = w3.heap.size) := (by omega)
    have ne_1_0 : ¬ (w.heap.size + 1 = w.heap.size) := (by omega)
    have ne_1_2 : ¬ (w.heap.size + 1 = w1.heap.size) := (by omega)
    have ne_1_3 : ¬ (w.heap.size + 1 = w2.heap.size) := (by omega)
    have ne_1_4 : ¬ (w.heap.size + 1 = w3.heap.size) := (by omega)
    have ne_2_0 : ¬ (w1.heap.size = w.heap.size) := (by omega)
    have ne_2_1 : ¬ (w1.heap.size = w.heap.size + 1) := (by omega)
    have ne_2_3 : ¬ (w1.heap.size = w2.heap.size) := (by omega)
    have ne_2_4 : ¬ (w1.heap.size = w3.heap.size) := (by omega)
    have ne_3_0 : ¬ (w2.heap.size = w.heap.size) := (by omega)
    have ne_3_1 : ¬ (w2.heap.size = w.heap.size + 1) := (by omega)
    have ne_3_2 : ¬ (w2.heap.size = w1.heap.size) := (by omega)
    have ne_3_4 : ¬ (w2.heap.size = w3.heap.size) := (by omega)
    have ne_4_0 : ¬ (w3.heap.size = w.heap.size) := (by omega)
    have ne_4_1 : ¬ (w3.heap.size = w.heap.size + 1) := (by omega)
    have ne_4_2 : ¬ (w3.heap.size = w1.heap.size) := (by omega)
    have ne_4_3 : ¬ (w3.heap.size = w2.heap.size) := (by omega)
    go_wp2_with fail
    refine (max256_c _).mono ?_
    rintro e w4 ⟨rfl, hb4⟩
    have hs4 := hb4.size
    try simp only [World.size_alloc, World.size_setCell, World.size_drew, size_drewN] at hs4
    have hc4_0 : ∀ o, w4.cell? ⟨w.heap.size, o, none⟩ = _ := fun o => hb4.cell (p := ⟨w.heap.size, o, none⟩) (by ((try simp only [World.size_alloc, World.size_setCell, World.size_drew, size_drewN]); omega))
    have hf4_0 : ∀ o, w4.frozen? ⟨w.heap.size, o, none⟩ = _ := fun o => hb4.frozen (p := ⟨w.heap.size, o, none⟩) (by ((try simp only [World.size_alloc, World.size_setCell, World.size_drew, size_drewN]); omega))
    have z4_0 : w.heap.size < w4.heap.size := (by omega)
    have hc4_1 : ∀ o, w4.cell? ⟨w.heap.size + 1, o, none⟩ = _ := fun o => hb4.cell (p := ⟨w.heap.size + 1, o, none⟩) (by ((try simp only [World.size_alloc, World.size_setCell, World.size_drew, size_drewN]); omega))
    have hf4_1 : ∀ o, w4.frozen? ⟨w.heap.size + 1, o, none⟩ = _ := fun o => hb4.frozen (p := ⟨w.heap.size + 1, o, none⟩) (by ((try simp only [World.size_alloc, World.size_setCell, World.size_drew, size_drewN]); omega))
    have z4_1 : w.heap.size + 1 < w4.heap.size := (by omega)
    have hc4_2 : ∀ o, w4.cell? ⟨w1.heap.size, o, none⟩ = _ := fun o => hb4.cell (p := ⟨w1.heap.size, o, none⟩) (by ((try simp only [World.size_alloc, World.size_setCell, World.size_drew, size_drewN]); omega))
    have hf4_2 : ∀ o, w4.frozen? ⟨w1.heap.size, o, none⟩ = _ := fun o => hb4.frozen (p := ⟨w1.heap.size, o, none⟩) (by ((try simp only [World.size_alloc, World.size_setCell, World.size_drew, size_drewN]); omega))
    have z4_2 : w1.heap.size < w4.heap.size := (by omega)
    have hc4_3 : ∀ o, w4.cell? ⟨w2.heap.size, o, none⟩ = _ := fun o => hb4.cell (p := ⟨w2.heap.size, o, none⟩) (by ((try simp only [World.size_alloc, World.size_setCell, World.size_drew, size_drewN]); omega))
    have hf4_3 : ∀ o, w4.frozen? ⟨w2.heap.size, o, none⟩ = _ := fun o => hb4.frozen (p := ⟨w2.heap.size, o, none⟩) (by ((try simp only [World.size_alloc, World.size_setCell, World.size_drew, size_drewN]); omega))
    have z4_3 : w2.heap.size < w4.heap.size := (by omega)
    have hc4_4 : ∀ o, w4.cell? ⟨w3.heap.size, o, none⟩ = _ := fun o => hb4.cell (p := ⟨w3.heap.size, o, none⟩) (by ((try simp only [World.size_alloc, World.size_setCell, World.size_drew, size_drewN]); omega))
    have hf4_4 : ∀ o, w4.frozen? ⟨w3.heap.size, o, none⟩ = _ := fun o => hb4.frozen (p := ⟨w3.heap.size, o, none⟩) (by ((try simp only [World.size_alloc, World.size_setCell, World.size_drew, size_drewN]); omega))
    have z4_4 : w3.heap.size < w4.heap.size := (by omega)
    go_wp2_with fail
    go_region_held3 (fun w' => w'.cell? ⟨w.heap.size, 0, none⟩ = some (.int .u64 (lim A 0)) ∧ w'.cell? ⟨w.heap.size, 1, none⟩ = some (.int .u64 (lim A 1)) ∧ w'.cell? ⟨w.heap.size, 2, none⟩ = some (.int .u64 (lim A 2)) ∧ w'.cell? ⟨w.heap.size, 3, none⟩ = some (.int .u64 (lim A 3)) ∧ w'.cell? ⟨w.heap.size + 1, 0, none⟩ = some (.int .u64 (lim B 0)) ∧ w'.cell? ⟨w.heap.size + 1, 1, none⟩ = some (.int .u64 (lim B 1)) ∧ w'.cell? ⟨w.heap.size + 1, 2, none⟩ = some (.int .u64 (lim B 2)) ∧ w'.cell? ⟨w.heap.size + 1, 3, none⟩ = some (.int .u64 (lim B 3)) ∧ w'.cell? ⟨w1.heap.size, 0, none⟩ = some (.int .u64 (lim (addV A B) 0)) ∧ w'.cell? ⟨w1.heap.size, 1, none⟩ = some (.int .u64 (lim (addV A B) 1)) ∧ w'.cell? ⟨w1.heap.size, 2, none⟩ = some (.int .u64 (lim (addV A B) 2)) ∧ w'.cell? ⟨w1.heap.size, 3, none⟩ = some (.int .u64 (lim (addV A B) 3)) ∧ w'.cell? ⟨w2.heap.size, 0, none⟩ = some (.int .u64 (0)) ∧ w'.cell? ⟨w2.heap.size, 1, none⟩ = some (.int .u64 (0)) ∧ w'.cell? ⟨w2.heap.size, 2, none⟩ = some (.int .u64 (0)) ∧ w'.cell? ⟨w2.heap.size, 3, none⟩ = some (.int .u64 (0)) ∧ w'.cell? ⟨w3.heap.size, 0, none⟩ = some (.int .u64 (18446744073709551615)) ∧ w'.cell? ⟨w3.heap.size, 1, none⟩ = some (.int .u64 (18446744073709551615)) ∧ w'.cell? ⟨w3.heap.size, 2, none⟩ = some (.int .u64 (18446744073709551615)) ∧ w'.cell? ⟨w3.heap.size, 3, none⟩ = some (.int .u64 (18446744073709551615))) (simp (maxDischargeDepth := 16) [go_sem, *, World.cell?_alloc_some, World.cell?_setCell_far])
      (first | (go_at_call 41; (with_reducible refine (CA.out _).mono ?_); rintro e w5 ⟨rfl, hb5⟩; (have hs5 := hb5.size); (try simp only [World.size_alloc, World.size_setCell, World.size_drew, size_drewN] at hs5); (have hc5_0 : ∀ o, w5.cell? ⟨w.heap.size, o, none⟩ = _ := fun o => hb5.cell (p := ⟨w.heap.size, o, none⟩) (by ((try simp only [World.size_alloc, World.size_setCell, World.size_drew, size_drewN]); omega))); (have hf5_0 : ∀ o, w5.frozen? ⟨w.heap.size, o, none⟩ = _ := fun o => hb5.frozen (p := ⟨w.heap.size, o, none⟩) (by ((try simp only [World.size_alloc, World.size_setCell, World.size_drew, size_drewN]); omega))); (have z5_0 : w.heap.size < w5.heap.size := (by omega)); (have hc5_1 : ∀ o, w5.cell? ⟨w.heap.size + 1, o, none⟩ = _ := fun o => hb5.cell (p := ⟨w.heap.size + 1, o, none⟩) (by ((try simp only [World.size_alloc, World.size_setCell, World.size_drew, size_drewN]); omega))); (have hf5_1 : ∀ o, w5.frozen? ⟨w.heap.size + 1, o, none⟩ = _ := fun o => hb5.frozen (p := ⟨w.heap.size + 1, o, none⟩) (by ((try simp only [World.size_alloc, World.size_setCell, World.size_drew, size_drewN]); omega))); (have z5_1 : w.heap.size + 1 < w5.heap.size := (by omega)); (have hc5_2 : ∀ o, w5.cell? ⟨w1.heap.size, o, none⟩ = _ := fun o => hb5.cell (p := ⟨w1.heap.size, o, none⟩) (by ((try simp only [World.size_alloc, World.size_setCell, World.size_drew, size_drewN]); omega))); (have hf5_2 : ∀ o, w5.frozen? ⟨w1.heap.size, o, none⟩ = _ := fun o => hb5.frozen (p := ⟨w1.heap.size, o, none⟩) (by ((try simp only [World.size_alloc, World.size_setCell, World.size_drew, size_drewN]); omega))); (have z5_2 : w1.heap.size < w5.heap.size := (by omega)); (have hc5_3 : ∀ o, w5.cell? ⟨w2.heap.size, o, none⟩ = _ := fun o => hb5.cell (p := ⟨w2.heap.size, o, none⟩) (by ((try simp only [World.size_alloc, World.size_setCell, World.size_drew, size_drewN]); omega))); (have hf5_3 : ∀ o, w5.frozen? ⟨w2.heap.size, o, none⟩ = _ := fun o => hb5.frozen (p := ⟨w2.heap.size, o, none⟩) (by ((try simp only [World.size_alloc, World.size_setCell, World.size_drew, size_drewN]); omega))); (have z5_3 : w2.heap.size < w5.heap.size := (by omega)); (have hc5_4 : ∀ o, w5.cell? ⟨w3.heap.size, o, none⟩ = _ := fun o => hb5.cell (p := ⟨w3.heap.size, o, none⟩) (by ((try simp only [World.size_alloc, World.size_setCell, World.size_drew, size_drewN]); omega))); (have hf5_4 : ∀ o, w5.frozen? ⟨w3.heap.size, o, none⟩ = _ := fun o => hb5.frozen (p := ⟨w3.heap.size, o, none⟩) (by ((try simp only [World.size_alloc, World.size_setCell, World.size_drew, size_drewN]); omega))); (have z5_4 : w3.heap.size < w5.heap.size := (by omega))) | (go_at_call 28; (with_reducible refine (CS.out _).mono ?_); rintro e w6 ⟨rfl, hb6⟩; (have hs6 := hb6.size); (try simp only [World.size_alloc, World.size_setCell, World.size_drew, size_drewN] at hs6); (have hc6_0 : ∀ o, w6.cell? ⟨w.heap.size, o, none⟩ = _ := fun o => hb6.cell (p := ⟨w.heap.size, o, none⟩) (by ((try simp only [World.size_alloc, World.size_setCell, World.size_drew, size_drewN]); omega))); (have hf6_0 : ∀ o, w6.frozen? ⟨w.heap.size, o, none⟩ = _ := fun o => hb6.frozen (p := ⟨w.heap.size, o, none⟩) (by ((try simp only [World.size_alloc, World.size_setCell, World.size_drew, size_drewN]); omega))); (have z6_0 : w.heap.size < w6.heap.size := (by omega)); (have hc6_1 : ∀ o, w6.cell? ⟨w.heap.size + 1, o, none⟩ = _ := fun o => hb6.cell (p := ⟨w.heap.size + 1, o, none⟩) (by ((try simp only [World.size_alloc, World.size_setCell, World.size_drew, size_drewN]); omega))); (have hf6_1 : ∀ o, w6.frozen? ⟨w.heap.size + 1, o, none⟩ = _ := fun o => hb6.frozen (p := ⟨w.heap.size + 1, o, none⟩) (by ((try simp only [World.size_alloc, World.size_setCell, World.size_drew, size_drewN]); omega))); (have z6_1 : w.heap.size + 1 < w6.heap.size := (by omega)); (have hc6_2 : ∀ o, w6.cell? ⟨w1.heap.size, o, none⟩ = _ := fun o => hb6.cell (p := ⟨w1.heap.size, o, none⟩) (by ((try simp only [World.size_alloc, World.size_setCell, World.size_drew, size_drewN]); omega))); (have hf6_2 : ∀ o, w6.frozen? ⟨w1.heap.size, o, none⟩ = _ := fun o => hb6.frozen (p := ⟨w1.heap.size, o, none⟩) (by ((try simp only [World.size_alloc, World.size_setCell, World.size_drew, size_drewN]); omega))); (have z6_2 : w1.heap.size < w6.heap.size := (by omega)); (have hc6_3 : ∀ o, w6.cell? ⟨w2.heap.size, o, none⟩ = _ := fun o => hb6.cell (p := ⟨w2.heap.size, o, none⟩) (by ((try simp only [World.size_alloc, World.size_setCell, World.size_drew, size_drewN]); omega))); (have hf6_3 : ∀ o, w6.frozen? ⟨w2.heap.size, o, none⟩ = _ := fun o => hb6.frozen (p := ⟨w2.heap.size, o, none⟩) (by ((try simp only [World.size_alloc, World.size_setCell, World.size_drew, size_drewN]); omega))); (have z6_3 : w2.heap.size < w6.heap.size := (by omega)); (have hc6_4 : ∀ o, w6.cell? ⟨w3.heap.size, o, none⟩ = _ := fun o => hb6.cell (p := ⟨w3.heap.size, o, none⟩) (by ((try simp only [World.size_alloc, World.size_setCell, World.size_drew, size_drewN]); omega))); (have hf6_4 : ∀ o, w6.frozen? ⟨w3.heap.size, o, none⟩ = _ := fun o => hb6.frozen (p := ⟨w3.heap.size, o, none⟩) (by ((try simp only [World.size_alloc, World.size_setCell, World.size_drew, size_drewN]); omega))); (have z6_4 : w3.heap.size < w6.heap.size := (by omega))) | (go_at_call 42; (with_reducible refine (CM.out _).mono ?_); rintro e w7 ⟨rfl, hb7⟩; (have hs7 := hb7.size); (try simp only [World.size_alloc, World.size_setCell, World.size_drew, size_drewN] at hs7); (have hc7_0 : ∀ o, w7.cell? ⟨w.heap.size, o, none⟩ = _ := fun o => hb7.cell (p := ⟨w.heap.size, o, none⟩) (by ((try simp only [World.size_alloc, World.size_setCell, World.size_drew, size_drewN]); omega))); (have hf7_0 : ∀ o, w7.frozen? ⟨w.heap.size, o, none⟩ = _ := fun o => hb7.frozen (p := ⟨w.heap.size, o, none⟩) (by ((try simp only [World.size_alloc, World.size_setCell, World.size_drew, size_drewN]); omega))); (have z7_0 : w.heap.size < w7.heap.size := (by omega)); (have hc7_1 : ∀ o, w7.cell? ⟨w.heap.size + 1, o, none⟩ = _ := fun o => hb7.cell (p := ⟨w.heap.size + 1, o, none⟩) (by ((try simp only [World.size_alloc, World.size_setCell, World.size_drew, size_drewN]); omega))); (have hf7_1 : ∀ o, w7.frozen? ⟨w.heap.size + 1, o, none⟩ = _ := fun o => hb7.frozen (p := ⟨w.heap.size + 1, o, none⟩) (by ((try simp only [World.size_alloc, World.size_setCell, World.size_drew, size_drewN]); omega))); (have z7_1 : w.heap.size + 1 < w7.heap.size := (by omega)); (have hc7_2 : ∀ o, w7.cell? ⟨w1.heap.size, o, none⟩ = _ := fun o => hb7.cell (p := ⟨w1.heap.size, o, none⟩) (by ((try simp only [World.size_alloc, World.size_setCell, World.size_drew, size_drewN]); omega))); (have hf7_2 : ∀ o, w7.frozen? ⟨w1.heap.size, o, none⟩ = _ := fun o => hb7.frozen (p := ⟨w1.heap.size, o, none⟩) (by ((try simp only [World.size_alloc, World.size_setCell, World.size_drew, size_drewN]); omega))); (have z7_2 : w1.heap.size < w7.heap.size := (by omega)); (have hc7_3 : ∀ o, w7.cell? ⟨w2.heap.size, o, none⟩ = _ := fun o => hb7.cell (p := ⟨w2.heap.size, o, none⟩) (by ((try simp only [World.size_alloc, World.size_setCell, World.size_drew, size_drewN]); omega))); (have hf7_3 : ∀ o, w7.frozen? ⟨w2.heap.size, o, none⟩ = _ := fun o => hb7.frozen (p := ⟨w2.heap.size, o, none⟩) (by ((try simp only [World.size_alloc, World.size_setCell, World.size_drew, size_drewN]); omega))); (have z7_3 : w2.heap.size < w7.heap.size := (by omega)); (have hc7_4 : ∀ o, w7.cell? ⟨w3.heap.size, o, none⟩ = _ := fun o => hb7.cell (p := ⟨w3.heap.size, o, none⟩) (by ((try simp only [World.size_alloc, World.size_setCell, World.size_drew, size_drewN]); omega))); (have hf7_4 : ∀ o, w7.frozen? ⟨w3.heap.size, o, none⟩ = _ := fun o => hb7.frozen (p := ⟨w3.heap.size, o, none⟩) (by ((try simp only [World.size_alloc, World.size_setCell, World.size_drew, size_drewN]); omega))); (have z7_4 : w3.heap.size < w7.heap.size := (by omega))))
    go_wp2
    go_ret
    exact ⟨rfl, (by (repeat' (first | (with_reducible exact Below.refl _ _) | (with_reducible assumption) | (with_reducible refine Below.alloc ?_ ?_ _) | (with_reducible refine Below.drew ?_) | (with_reducible refine below_drewN ?_ _) | (with_reducible refine Below.setCell ?_ ?_ _) | (with_reducible refine below_step (by with_reducible assumption) ?_ ?_) | (first | (with_reducible exact Nat.le_refl _) | (with_reducible assumption) | omega | (simp only [World.size_alloc, World.size_setCell, World.size_drew, size_drewN]; omega) | (simp; omega) | (simp; done)))))⟩
  · go_enter Try.func27, Try.ntmps27
    go_wp2_with fail
    refine (add256_c HA.out HB.out _).mono ?_
    rintro e w1 ⟨rfl, hb1⟩
    have hs1 := hb1.size
    try simp only [World.size_alloc, World.size_setCell, World.size_drew, size_drewN] at hs1
    have hc1_0 : ∀ o, w1.cell? ⟨w.heap.size, o, none⟩ = _ := fun o => hb1.cell (p := ⟨w.heap.size, o, none⟩) (by ((try simp only [World.size_alloc, World.size_setCell, World.size_drew, size_drewN]); omega))
    have hf1_0 : ∀ o, w1.frozen? ⟨w.heap.size, o, none⟩ = _ := fun o => hb1.frozen (p := ⟨w.heap.size, o, none⟩) (by ((try simp only [World.size_alloc, World.size_setCell, World.size_drew, size_drewN]); omega))
    have z1_0 : w.heap.size < w1.heap.size := (by omega)
    have hc1_1 : ∀ o, w1.cell? ⟨w.heap.size + 1, o, none⟩ = _ := fun o => hb1.cell (p := ⟨w.heap.size + 1, o, none⟩) (by ((try simp only [World.size_alloc, World.size_setCell, World.size_drew, size_drewN]); omega))
    have hf1_1 : ∀ o, w1.frozen? ⟨w.heap.size + 1, o, none⟩ = _ := fun o => hb1.frozen (p := ⟨w.heap.size + 1, o, none⟩) (by ((try simp only [World.size_alloc, World.size_setCell, World.size_drew, size_drewN]); omega))
    have z1_1 : w.heap.size + 1 < w1.heap.size := (by omega)
    go_wp2_with fail
    refine (sub256_c HA.out HB.out _).mono ?_
    rintro e w2 ⟨rfl, hb2⟩
    have hs2 := hb2.size
    try simp only [World.size_alloc, World.size_setCell, World.size_drew, size_drewN] at hs2
    have hc2_0 : ∀ o, w2.cell? ⟨w.heap.size, o, none⟩ = _ := fun o => hb2.cell (p := ⟨w.heap.size, o, none⟩) (by ((try simp only [World.size_alloc, World.size_setCell, World.size_drew, size_drewN]); omega))
    have hf2_0 : ∀ o, w2.frozen? ⟨w.heap.size, o, none⟩ = _ := fun o => hb2.frozen (p := ⟨w.heap.size, o, none⟩) (by ((try simp only [World.size_alloc, World.size_setCell, World.size_drew, size_drewN]); omega))
    have z2_0 : w.heap.size < w2.heap.size := (by omega)
    have hc2_1 : ∀ o, w2.cell? ⟨w.heap.size + 1, o, none⟩ = _ := fun o => hb2.cell (p := ⟨w.heap.size + 1, o, none⟩) (by ((try simp only [World.size_alloc, World.size_setCell, World.size_drew, size_drewN]); omega))
    have hf2_1 : ∀ o, w2.frozen? ⟨w.heap.size + 1, o, none⟩ = _ := fun o => hb2.frozen (p := ⟨w.heap.size + 1, o, none⟩) (by ((try simp only [World.size_alloc, World.size_setCell, World.size_drew, size_drewN]); omega))
    have z2_1 : w.heap.size + 1 < w2.heap.size := (by omega)
    have hc2_2 : ∀ o, w2.cell? ⟨w1.heap.size, o, none⟩ = _ := fun o => hb2.cell (p := ⟨w1.heap.size, o, none⟩) (by ((try simp only [World.size_alloc, World.size_setCell, World.size_drew, size_drewN]); omega))
    have hf2_2 : ∀ o, w2.frozen? ⟨w1.heap.size, o, none⟩ = _ := fun o => hb2.frozen (p := ⟨w1.heap.size, o, none⟩) (by ((try simp only [World.size_alloc, World.size_setCell, World.size_drew, size_drewN]); omega))
    have z2_2 : w1.heap.size < w2.heap.size := (by omega)
    go_wp2_with fail
    refine (mul256_c HA.out HB.out _).mono ?_
    rintro e w3 ⟨rfl, hb3⟩
    have hs3 := hb3.size
    try simp only [World.size_alloc, World.size_setCell, World.size_drew, size_drewN] at hs3
    have hc3_0 : ∀ o, w3.cell? ⟨w.heap.size, o, none⟩ = _ := fun o => hb3.cell (p := ⟨w.heap.size, o, none⟩) (by ((try simp only [World.size_alloc, World.size_setCell, World.size_drew, size_drewN]); omega))
    have hf3_0 : ∀ o, w3.frozen? ⟨w.heap.size, o, none⟩ = _ := fun o => hb3.frozen (p := ⟨w.heap.size, o, none⟩) (by ((try simp only [World.size_alloc, World.size_setCell, World.size_drew, size_drewN]); omega))
    have z3_0 : w.heap.size < w3.heap.size := (by omega)
    have hc3_1 : ∀ o, w3.cell? ⟨w.heap.size + 1, o, none⟩ = _ := fun o => hb3.cell (p := ⟨w.heap.size + 1, o, none⟩) (by ((try simp only [World.size_alloc, World.size_setCell, World.size_drew, size_drewN]); omega))
    have hf3_1 : ∀ o, w3.frozen? ⟨w.heap.size + 1, o, none⟩ = _ := fun o => hb3.frozen (p := ⟨w.heap.size + 1, o, none⟩) (by ((try simp only [World.size_alloc, World.size_setCell, World.size_drew, size_drewN]); omega))
    have z3_1 : w.heap.size + 1 < w3.heap.size := (by omega)
    have hc3_2 : ∀ o, w3.cell? ⟨w1.heap.size, o, none⟩ = _ := fun o => hb3.cell (p := ⟨w1.heap.size, o, none⟩) (by ((try simp only [World.size_alloc, World.size_setCell, World.size_drew, size_drewN]); omega))
    have hf3_2 : ∀ o, w3.frozen? ⟨w1.heap.size, o, none⟩ = _ := fun o => hb3.frozen (p := ⟨w1.heap.size, o, none⟩) (by ((try simp only [World.size_alloc, World.size_setCell, World.size_drew, size_drewN]); omega))
    have z3_2 : w1.heap.size < w3.heap.size := (by omega)
    have hc3_3 : ∀ o, w3.cell? ⟨w2.heap.size, o, none⟩ = _ := fun o => hb3.cell (p := ⟨w2.heap.size, o, none⟩) (by ((try simp only [World.size_alloc, World.size_setCell, World.size_drew, size_drewN]); omega))
    have hf3_3 : ∀ o, w3.frozen? ⟨w2.heap.size, o, none⟩ = _ := fun o => hb3.frozen (p := ⟨w2.heap.size, o, none⟩) (by ((try simp only [World.size_alloc, World.size_setCell, World.size_drew, size_drewN]); omega))
    have z3_3 : w2.heap.size < w3.heap.size := (by omega)
    have ne_0_1 : ¬ (w.heap.size = w.heap.size + 1) := (by omega)
    have ne_0_2 : ¬ (w.heap.size = w1.heap.size) := (by omega)
    have ne_0_3 : ¬ (w.heap.size = w2.heap.size) := (by omega)
    have ne_0_4 : ¬ (w.heap.size = w3.heap.size) := (by omega)
    have ne_1_0 : ¬ (w.heap.size + 1 = w.heap.size) := (by omega)
    have ne_1_2 : ¬ (w.heap.size + 1 = w1.heap.size) := (by omega)
    have ne_1_3 : ¬ (w.heap.size + 1 = w2.heap.size) := (by omega)
    have ne_1_4 : ¬ (w.heap.size + 1 = w3.heap.size) := (by omega)
    have ne_2_0 : ¬ (w1.heap.size = w.heap.size) := (by omega)
    have ne_2_1 : ¬ (w1.heap.size = w.heap.size + 1) := (by omega)
    have ne_2_3 : ¬ (w1.heap.size = w2.heap.size) := (by omega)
    have ne_2_4 : ¬ (w1.heap.size = w3.heap.size) := (by omega)
    have ne_3_0 : ¬ (w2.heap.size = w.heap.size) := (by omega)
    have ne_3_1 : ¬ (w2.heap.size = w.heap.size + 1) := (by omega)
    have ne_3_2 : ¬ (w2.heap.size = w1.heap.size) := (by omega)
    have ne_3_4 : ¬ (w2.heap.size = w3.heap.size) := (by omega)
    have ne_4_0 : ¬ (w3.heap.size = w.heap.size) := (by omega)
    have ne_4_1 : ¬ (w3.heap.size = w.heap.size + 1) := (by omega)
    have ne_4_2 : ¬ (w3.heap.size = w1.heap.size) := (by omega)
    have ne_4_3 : ¬ (w3.heap.size = w2.heap.size) := (by omega)
    go_wp2_with fail
    refine (max256_c _).mono ?_
    rintro e w4 ⟨rfl, hb4⟩
    have hs4 := hb4.size
    try simp only [World.size_alloc, World.size_setCell, World.size_drew, size_drewN] at hs4
    have hc4_0 : ∀ o, w4.cell? ⟨w.heap.size, o, none⟩ = _ := fun o => hb4.cell (p := ⟨w.heap.size, o, none⟩) (by ((try simp only [World.size_alloc, World.size_setCell, World.size_drew, size_drewN]); omega))
    have hf4_0 : ∀ o, w4.frozen? ⟨w.heap.size, o, none⟩ = _ := fun o => hb4.frozen (p := ⟨w.heap.size, o, none⟩) (by ((try simp only [World.size_alloc, World.size_setCell, World.size_drew, size_drewN]); omega))
    have z4_0 : w.heap.size < w4.heap.size := (by omega)
    have hc4_1 : ∀ o, w4.cell? ⟨w.heap.size + 1, o, none⟩ = _ := fun o => hb4.cell (p := ⟨w.heap.size + 1, o, none⟩) (by ((try simp only [World.size_alloc, World.size_setCell, World.size_drew, size_drewN]); omega))
    have hf4_1 : ∀ o, w4.frozen? ⟨w.heap.size + 1, o, none⟩ = _ := fun o => hb4.frozen (p := ⟨w.heap.size + 1, o, none⟩) (by ((try simp only [World.size_alloc, World.size_setCell, World.size_drew, size_drewN]); omega))
    have z4_1 : w.heap.size + 1 < w4.heap.size := (by omega)
    have hc4_2 : ∀ o, w4.cell? ⟨w1.heap.size, o, none⟩ = _ := fun o => hb4.cell (p := ⟨w1.heap.size, o, none⟩) (by ((try simp only [World.size_alloc, World.size_setCell, World.size_drew, size_drewN]); omega))
    have hf4_2 : ∀ o, w4.frozen? ⟨w1.heap.size, o, none⟩ = _ := fun o => hb4.frozen (p := ⟨w1.heap.size, o, none⟩) (by ((try simp only [World.size_alloc, World.size_setCell, World.size_drew, size_drewN]); omega))
    have z4_2 : w1.heap.size < w4.heap.size := (by omega)
    have hc4_3 : ∀ o, w4.cell? ⟨w2.heap.size, o, none⟩ = _ := fun o => hb4.cell (p := ⟨w2.heap.size, o, none⟩) (by ((try simp only [World.size_alloc, World.size_setCell, World.size_drew, size_drewN]); omega))
    have hf4_3 : ∀ o, w4.frozen? ⟨w2.heap.size, o, none⟩ = _ := fun o => hb4.frozen (p := ⟨w2.heap.size, o, none⟩) (by ((try simp only [World.size_alloc, World.size_setCell, World.size_drew, size_drewN]); omega))
    have z4_3 : w2.heap.size < w4.heap.size := (by omega)
    have hc4_4 : ∀ o, w4.cell? ⟨w3.heap.size, o, none⟩ = _ := fun o => hb4.cell (p := ⟨w3.heap.size, o, none⟩) (by ((try simp only [World.size_alloc, World.size_setCell, World.size_drew, size_drewN]); omega))
    have hf4_4 : ∀ o, w4.frozen? ⟨w3.heap.size, o, none⟩ = _ := fun o => hb4.frozen (p := ⟨w3.heap.size, o, none⟩) (by ((try simp only [World.size_alloc, World.size_setCell, World.size_drew, size_drewN]); omega))
    have z4_4 : w3.heap.size < w4.heap.size := (by omega)
    go_wp2_with fail
    go_region_held3 (fun w' => w'.cell? ⟨w.heap.size, 0, none⟩ = some (.int .u64 (lim A 0)) ∧ w'.cell? ⟨w.heap.size, 1, none⟩ = some (.int .u64 (lim A 1)) ∧ w'.cell? ⟨w.heap.size, 2, none⟩ = some (.int .u64 (lim A 2)) ∧ w'.cell? ⟨w.heap.size, 3, none⟩ = some (.int .u64 (lim A 3)) ∧ w'.cell? ⟨w.heap.size + 1, 0, none⟩ = some (.int .u64 (lim B 0)) ∧ w'.cell? ⟨w.heap.size + 1, 1, none⟩ = some (.int .u64 (lim B 1)) ∧ w'.cell? ⟨w.heap.size + 1, 2, none⟩ = some (.int .u64 (lim B 2)) ∧ w'.cell? ⟨w.heap.size + 1, 3, none⟩ = some (.int .u64 (lim B 3)) ∧ w'.cell? ⟨w1.heap.size, 0, none⟩ = some (.int .u64 (18446744073709551615)) ∧ w'.cell? ⟨w1.heap.size, 1, none⟩ = some (.int .u64 (18446744073709551615)) ∧ w'.cell? ⟨w1.heap.size, 2, none⟩ = some (.int .u64 (18446744073709551615)) ∧ w'.cell? ⟨w1.heap.size, 3, none⟩ = some (.int .u64 (18446744073709551615)) ∧ w'.cell? ⟨w2.heap.size, 0, none⟩ = some (.int .u64 (lim (subV A B) 0)) ∧ w'.cell? ⟨w2.heap.size, 1, none⟩ = some (.int .u64 (lim (subV A B) 1)) ∧ w'.cell? ⟨w2.heap.size, 2, none⟩ = some (.int .u64 (lim (subV A B) 2)) ∧ w'.cell? ⟨w2.heap.size, 3, none⟩ = some (.int .u64 (lim (subV A B) 3)) ∧ w'.cell? ⟨w3.heap.size, 0, none⟩ = some (.int .u64 (lim (mulV A B) 0)) ∧ w'.cell? ⟨w3.heap.size, 1, none⟩ = some (.int .u64 (lim (mulV A B) 1)) ∧ w'.cell? ⟨w3.heap.size, 2, none⟩ = some (.int .u64 (lim (mulV A B) 2)) ∧ w'.cell? ⟨w3.heap.size, 3, none⟩ = some (.int .u64 (lim (mulV A B) 3))) (simp (maxDischargeDepth := 16) [go_sem, *, World.cell?_alloc_some, World.cell?_setCell_far])
      (first | (go_at_call 41; (with_reducible refine (CA.out _).mono ?_); rintro e w5 ⟨rfl, hb5⟩; (have hs5 := hb5.size); (try simp only [World.size_alloc, World.size_setCell, World.size_drew, size_drewN] at hs5); (have hc5_0 : ∀ o, w5.cell? ⟨w.heap.size, o, none⟩ = _ := fun o => hb5.cell (p := ⟨w.heap.size, o, none⟩) (by ((try simp only [World.size_alloc, World.size_setCell, World.size_drew, size_drewN]); omega))); (have hf5_0 : ∀ o, w5.frozen? ⟨w.heap.size, o, none⟩ = _ := fun o => hb5.frozen (p := ⟨w.heap.size, o, none⟩) (by ((try simp only [World.size_alloc, World.size_setCell, World.size_drew, size_drewN]); omega))); (have z5_0 : w.heap.size < w5.heap.size := (by omega)); (have hc5_1 : ∀ o, w5.cell? ⟨w.heap.size + 1, o, none⟩ = _ := fun o => hb5.cell (p := ⟨w.heap.size + 1, o, none⟩) (by ((try simp only [World.size_alloc, World.size_setCell, World.size_drew, size_drewN]); omega))); (have hf5_1 : ∀ o, w5.frozen? ⟨w.heap.size + 1, o, none⟩ = _ := fun o => hb5.frozen (p := ⟨w.heap.size + 1, o, none⟩) (by ((try simp only [World.size_alloc, World.size_setCell, World.size_drew, size_drewN]); omega))); (have z5_1 : w.heap.size + 1 < w5.heap.size := (by omega)); (have hc5_2 : ∀ o, w5.cell? ⟨w1.heap.size, o, none⟩ = _ := fun o => hb5.cell (p := ⟨w1.heap.size, o, none⟩) (by ((try simp only [World.size_alloc, World.size_setCell, World.size_drew, size_drewN]); omega))); (have hf5_2 : ∀ o, w5.frozen? ⟨w1.heap.size, o, none⟩ = _ := fun o => hb5.frozen (p := ⟨w1.heap.size, o, none⟩) (by ((try simp only [World.size_alloc, World.size_setCell, World.size_drew, size_drewN]); omega))); (have z5_2 : w1.heap.size < w5.heap.size := (by omega)); (have hc5_3 : ∀ o, w5.cell? ⟨w2.heap.size, o, none⟩ = _ := fun o => hb5.cell (p := ⟨w2.heap.size, o, none⟩) (by ((try simp only [World.size_alloc, World.size_setCell, World.size_drew, size_drewN]); omega))); (have hf5_3 : ∀ o, w5.frozen? ⟨w2.heap.size, o, none⟩ = _ := fun o => hb5.frozen (p := ⟨w2.heap.size, o, none⟩) (by ((try simp only [World.size_alloc, World.size_setCell, World.size_drew, size_drewN]); omega))); (have z5_3 : w2.heap.size < w5.heap.size := (by omega)); (have hc5_4 : ∀ o, w5.cell? ⟨w3.heap.size, o, none⟩ = _ := fun o => hb5.cell (p := ⟨w3.heap.size, o, none⟩) (by ((try simp only [World.size_alloc, World.size_setCell, World.size_drew, size_drewN]); omega))); (have hf5_4 : ∀ o, w5.frozen? ⟨w3.heap.size, o, none⟩ = _ := fun o => hb5.frozen (p := ⟨w3.heap.size, o, none⟩) (by ((try simp only [World.size_alloc, World.size_setCell, World.size_drew, size_drewN]); omega))); (have z5_4 : w3.heap.size < w5.heap.size := (by omega))) | (go_at_call 28; (with_reducible refine (CS.out _).mono ?_); rintro e w6 ⟨rfl, hb6⟩; (have hs6 := hb6.size); (try simp only [World.size_alloc, World.size_setCell, World.size_drew, size_drewN] at hs6); (have hc6_0 : ∀ o, w6.cell? ⟨w.heap.size, o, none⟩ = _ := fun o => hb6.cell (p := ⟨w.heap.size, o, none⟩) (by ((try simp only [World.size_alloc, World.size_setCell, World.size_drew, size_drewN]); omega))); (have hf6_0 : ∀ o, w6.frozen? ⟨w.heap.size, o, none⟩ = _ := fun o => hb6.frozen (p := ⟨w.heap.size, o, none⟩) (by ((try simp only [World.size_alloc, World.size_setCell, World.size_drew, size_drewN]); omega))); (have z6_0 : w.heap.size < w6.heap.size := (by omega)); (have hc6_1 : ∀ o, w6.cell? ⟨w.heap.size + 1, o, none⟩ = _ := fun o => hb6.cell (p := ⟨w.heap.size + 1, o, none⟩) (by ((try simp only [World.size_alloc, World.size_setCell, World.size_drew, size_drewN]); omega))); (have hf6_1 : ∀ o, w6.frozen? ⟨w.heap.size + 1, o, none⟩ = _ := fun o => hb6.frozen (p := ⟨w.heap.size + 1, o, none⟩) (by ((try simp only [World.size_alloc, World.size_setCell, World.size_drew, size_drewN]); omega))); (have z6_1 : w.heap.size + 1 < w6.heap.size := (by omega)); (have hc6_2 : ∀ o, w6.cell? ⟨w1.heap.size, o, none⟩ = _ := fun o => hb6.cell (p := ⟨w1.heap.size, o, none⟩) (by ((try simp only [World.size_alloc, World.size_setCell, World.size_drew, size_drewN]); omega))); (have hf6_2 : ∀ o, w6.frozen? ⟨w1.heap.size, o, none⟩ = _ := fun o => hb6.frozen (p := ⟨w1.heap.size, o, none⟩) (by ((try simp only [World.size_alloc, World.size_setCell, World.size_drew, size_drewN]); omega))); (have z6_2 : w1.heap.size < w6.heap.size := (by omega)); (have hc6_3 : ∀ o, w6.cell? ⟨w2.heap.size, o, none⟩ = _ := fun o => hb6.cell (p := ⟨w2.heap.size, o, none⟩) (by ((try simp only [World.size_alloc, World.size_setCell, World.size_drew, size_drewN]); omega))); (have hf6_3 : ∀ o, w6.frozen? ⟨w2.heap.size, o, none⟩ = _ := fun o => hb6.frozen (p := ⟨w2.heap.size, o, none⟩) (by ((try simp only [World.size_alloc, World.size_setCell, World.size_drew, size_drewN]); omega))); (have z6_3 : w2.heap.size < w6.heap.size := (by omega)); (have hc6_4 : ∀ o, w6.cell? ⟨w3.heap.size, o, none⟩ = _ := fun o => hb6.cell (p := ⟨w3.heap.size, o, none⟩) (by ((try simp only [World.size_alloc, World.size_setCell, World.size_drew, size_drewN]); omega))); (have hf6_4 : ∀ o, w6.frozen? ⟨w3.heap.size, o, none⟩ = _ := fun o => hb6.frozen (p := ⟨w3.heap.size, o, none⟩) (by ((try simp only [World.size_alloc, World.size_setCell, World.size_drew, size_drewN]); omega))); (have z6_4 : w3.heap.size < w6.heap.size := (by omega))) | (go_at_call 42; (with_reducible refine (CM.out _).mono ?_); rintro e w7 ⟨rfl, hb7⟩; (have hs7 := hb7.size); (try simp only [World.size_alloc, World.size_setCell, World.size_drew, size_drewN] at hs7); (have hc7_0 : ∀ o, w7.cell? ⟨w.heap.size, o, none⟩ = _ := fun o => hb7.cell (p := ⟨w.heap.size, o, none⟩) (by ((try simp only [World.size_alloc, World.size_setCell, World.size_drew, size_drewN]); omega))); (have hf7_0 : ∀ o, w7.frozen? ⟨w.heap.size, o, none⟩ = _ := fun o => hb7.frozen (p := ⟨w.heap.size, o, none⟩) (by ((try simp only [World.size_alloc, World.size_setCell, World.size_drew, size_drewN]); omega))); (have z7_0 : w.heap.size < w7.heap.size := (by omega)); (have hc7_1 : ∀ o, w7.cell? ⟨w.heap.size + 1, o, none⟩ = _ := fun o => hb7.cell (p := ⟨w.heap.size + 1, o, none⟩) (by ((try simp only [World.size_alloc, World.size_setCell, World.size_drew, size_drewN]); omega))); (have hf7_1 : ∀ o, w7.frozen? ⟨w.heap.size + 1, o, none⟩ = _ := fun o => hb7.frozen (p := ⟨w.heap.size + 1, o, none⟩) (by ((try simp only [World.size_alloc, World.size_setCell, World.size_drew, size_drewN]); omega))); (have z7_1 : w.heap.size + 1 < w7.heap.size := (by omega)); (have hc7_2 : ∀ o, w7.cell? ⟨w1.heap.size, o, none⟩ = _ := fun o => hb7.cell (p := ⟨w1.heap.size, o, none⟩) (by ((try simp only [World.size_alloc, World.size_setCell, World.size_drew, size_drewN]); omega))); (have hf7_2 : ∀ o, w7.frozen? ⟨w1.heap.size, o, none⟩ = _ := fun o => hb7.frozen (p := ⟨w1.heap.size, o, none⟩) (by ((try simp only [World.size_alloc, World.size_setCell, World.size_drew, size_drewN]); omega))); (have z7_2 : w1.heap.size < w7.heap.size := (by omega)); (have hc7_3 : ∀ o, w7.cell? ⟨w2.heap.size, o, none⟩ = _ := fun o => hb7.cell (p := ⟨w2.heap.size, o, none⟩) (by ((try simp only [World.size_alloc, World.size_setCell, World.size_drew, size_drewN]); omega))); (have hf7_3 : ∀ o, w7.frozen? ⟨w2.heap.size, o, none⟩ = _ := fun o => hb7.frozen (p := ⟨w2.heap.size, o, none⟩) (by ((try simp only [World.size_alloc, World.size_setCell, World.size_drew, size_drewN]); omega))); (have z7_3 : w2.heap.size < w7.heap.size := (by omega)); (have hc7_4 : ∀ o, w7.cell? ⟨w3.heap.size, o, none⟩ = _ := fun o => hb7.cell (p := ⟨w3.heap.size, o, none⟩) (by ((try simp only [World.size_alloc, World.size_setCell, World.size_drew, size_drewN]); omega))); (have hf7_4 : ∀ o, w7.frozen? ⟨w3.heap.size, o, none⟩ = _ := fun o => hb7.frozen (p := ⟨w3.heap.size, o, none⟩) (by ((try simp only [World.size_alloc, World.size_setCell, World.size_drew, size_drewN]); omega))); (have z7_4 : w3.heap.size < w7.heap.size := (by omega))))
    go_wp2
    go_ret
    exact ⟨rfl, (by (repeat' (first | (with_reducible exact Below.refl _ _) | (with_reducible assumption) | (with_reducible refine Below.alloc ?_ ?_ _) | (with_reducible refine Below.drew ?_) | (with_reducible refine below_drewN ?_ _) | (with_reducible refine Below.setCell ?_ ?_ _) | (with_reducible refine below_step (by with_reducible assumption) ?_ ?_) | (first | (with_reducible exact Nat.le_refl _) | (with_reducible assumption) | omega | (simp only [World.size_alloc, World.size_setCell, World.size_drew, size_drewN]; omega) | (simp; omega) | (simp; done)))))⟩
  · go_enter Try.func27, Try.ntmps27
    go_wp2_with fail
    refine (add256_c HA.out HB.out _).mono ?_
    rintro e w1 ⟨rfl, hb1⟩
    have hs1 := hb1.size
    try simp only [World.size_alloc, World.size_setCell, World.size_drew, size_drewN] at hs1
    have hc1_0 : ∀ o, w1.cell? ⟨w.heap.size, o, none⟩ = _ := fun o => hb1.cell (p := ⟨w.heap.size, o, none⟩) (by ((try simp only [World.size_alloc, World.size_setCell, World.size_drew, size_drewN]); omega))
    have hf1_0 : ∀ o, w1.frozen? ⟨w.heap.size, o, none⟩ = _ := fun o => hb1.frozen (p := ⟨w.heap.size, o, none⟩) (by ((try simp only [World.size_alloc, World.size_setCell, World.size_drew, size_drewN]); omega))
    have z1_0 : w.heap.size < w1.heap.size := (by omega)
    have hc1_1 : ∀ o, w1.cell? ⟨w.heap.size + 1, o, none⟩ = _ := fun o => hb1.cell (p := ⟨w.heap.size + 1, o, none⟩) (by ((try simp only [World.size_alloc, World.size_setCell, World.size_drew, size_drewN]); omega))
    have hf1_1 : ∀ o, w1.frozen? ⟨w.heap.size + 1, o, none⟩ = _ := fun o => hb1.frozen (p := ⟨w.heap.size + 1, o, none⟩) (by ((try simp only [World.size_alloc, World.size_setCell, World.size_drew, size_drewN]); omega))
    have z1_1 : w.heap.size + 1 < w1.heap.size := (by omega)
    go_wp2_with fail
    refine (sub256_c HA.out HB.out _).mono ?_
    rintro e w2 ⟨rfl, hb2⟩
    have hs2 := hb2.size
    try simp only [World.size_alloc, World.size_setCell, World.size_drew, size_drewN] at hs2
    have hc2_0 : ∀ o, w2.cell? ⟨w.heap.size, o, none⟩ = _ := fun o => hb2.cell (p := ⟨w.heap.size, o, none⟩) (by ((try simp only [World.size_alloc, World.size_setCell, World.size_drew, size_drewN]); omega))
    have hf2_0 : ∀ o, w2.frozen? ⟨w.heap.size, o, none⟩ = _ := fun o => hb2.frozen (p := ⟨w.heap.size, o, none⟩) (by ((try simp only [World.size_alloc, World.size_setCell, World.size_drew, size_drewN]); omega))
    have z2_0 : w.heap.size < w2.heap.size := (by omega)
    have hc2_1 : ∀ o, w2.cell? ⟨w.heap.size + 1, o, none⟩ = _ := fun o => hb2.cell (p := ⟨w.heap.size + 1, o, none⟩) (by ((try simp only [World.size_alloc, World.size_setCell, World.size_drew, size_drewN]); omega))
    have hf2_1 : ∀ o, w2.frozen? ⟨w.heap.size + 1, o, none⟩ = _ := fun o => hb2.frozen (p := ⟨w.heap.size + 1, o, none⟩) (by ((try simp only [World.size_alloc, World.size_setCell, World.size_drew, size_drewN]); omega))
    have z2_1 : w.heap.size + 1 < w2.heap.size := (by omega)
    have hc2_2 : ∀ o, w2.cell? ⟨w1.heap.size, o, none⟩ = _ := fun o => hb2.cell (p := ⟨w1.heap.size, o, none⟩) (by ((try simp only [World.size_alloc, World.size_setCell, World.size_drew, size_drewN]); omega))
    have hf2_2 : ∀ o, w2.frozen? ⟨w1.heap.size, o, none⟩ = _ := fun o => hb2.frozen (p := ⟨w1.heap.size, o, none⟩) (by ((try simp only [World.size_alloc, World.size_setCell, World.size_drew, size_drewN]); omega))
    have z2_2 : w1.heap.size < w2.heap.size := (by omega)
    go_wp2_with fail
    refine (mul256_c HA.out HB.out _).mono ?_
    rintro e w3 ⟨rfl, hb3⟩
    have hs3 := hb3.size
    try simp only [World.size_alloc, World.size_setCell, World.size_drew, size_drewN] at hs3
    have hc3_0 : ∀ o, w3.cell? ⟨w.heap.size, o, none⟩ = _ := fun o => hb3.cell (p := ⟨w.heap.size, o, none⟩) (by ((try simp only [World.size_alloc, World.size_setCell, World.size_drew, size_drewN]); omega))
    have hf3_0 : ∀ o, w3.frozen? ⟨w.heap.size, o, none⟩ = _ := fun o => hb3.frozen (p := ⟨w.heap.size, o, none⟩) (by ((try simp only [World.size_alloc, World.size_setCell, World.size_drew, size_drewN]); omega))
    have z3_0 : w.heap.size < w3.heap.size := (by omega)
    have hc3_1 : ∀ o, w3.cell? ⟨w.heap.size + 1, o, none⟩ = _ := fun o => hb3.cell (p := ⟨w.heap.size + 1, o, none⟩) (by ((try simp only [World.size_alloc, World.size_setCell, World.size_drew, size_drewN]); omega))
    have hf3_1 : ∀ o, w3.frozen? ⟨w.heap.size + 1, o, none⟩ = _ := fun o => hb3.frozen (p := ⟨w.heap.size + 1, o, none⟩) (by ((try simp only [World.size_alloc, World.size_setCell, World.size_drew, size_drewN]); omega))
    have z3_1 : w.heap.size + 1 < w3.heap.size := (by omega)
    have hc3_2 : ∀ o, w3.cell? ⟨w1.heap.size, o, none⟩ = _ := fun o => hb3.cell (p := ⟨w1.heap.size, o, none⟩) (by ((try simp only [World.size_alloc, World.size_setCell, World.size_drew, size_drewN]); omega))
    have hf3_2 : ∀ o, w3.frozen? ⟨w1.heap.size, o, none⟩ = _ := fun o => hb3.frozen (p := ⟨w1.heap.size, o, none⟩) (by ((try simp only [World.size_alloc, World.size_setCell, World.size_drew, size_drewN]); omega))
    have z3_2 : w1.heap.size < w3.heap.size := (by omega)
    have hc3_3 : ∀ o, w3.cell? ⟨w2.heap.size, o, none⟩ = _ := fun o => hb3.cell (p := ⟨w2.heap.size, o, none⟩) (by ((try simp only [World.size_alloc, World.size_setCell, World.size_drew, size_drewN]); omega))
    have hf3_3 : ∀ o, w3.frozen? ⟨w2.heap.size, o, none⟩ = _ := fun o => hb3.frozen (p := ⟨w2.heap.size, o, none⟩) (by ((try simp only [World.size_alloc, World.size_setCell, World.size_drew, size_drewN]); omega))
    have z3_3 : w2.heap.size < w3.heap.size := (by omega)
    have ne_0_1 : ¬ (w.heap.size = w.heap.size + 1) := (by omega)
    have ne_0_2 : ¬ (w.heap.size = w1.heap.size) := (by omega)
    have ne_0_3 : ¬ (w.heap.size = w2.heap.size) := (by omega)
    have ne_0_4 : ¬ (w.heap.size = w3.heap.size) := (by omega)
    have ne_1_0 : ¬ (w.heap.size + 1 = w.heap.size) := (by omega)
    have ne_1_2 : ¬ (w.heap.size + 1 = w1.heap.size) := (by omega)
    have ne_1_3 : ¬ (w.heap.size + 1 = w2.heap.size) := (by omega)
    have ne_1_4 : ¬ (w.heap.size + 1 = w3.heap.size) := (by omega)
    have ne_2_0 : ¬ (w1.heap.size = w.heap.size) := (by omega)
    have ne_2_1 : ¬ (w1.heap.size = w.heap.size + 1) := (by omega)
    have ne_2_3 : ¬ (w1.heap.size = w2.heap.size) := (by omega)
    have ne_2_4 : ¬ (w1.heap.size = w3.heap.size) := (by omega)
    have ne_3_0 : ¬ (w2.heap.size = w.heap.size) := (by omega)
    have ne_3_1 : ¬ (w2.heap.size = w.heap.size + 1) := (by omega)
    have ne_3_2 : ¬ (w2.heap.size = w1.heap.size) := (by omega)
    have ne_3_4 : ¬ (w2.heap.size = w3.heap.size) := (by omega)
    have ne_4_0 : ¬ (w3.heap.size = w.heap.size) := (by omega)
    have ne_4_1 : ¬ (w3.heap.size = w.heap.size + 1) := (by omega)
    have ne_4_2 : ¬ (w3.heap.size = w1.heap.size) := (by omega)
    have ne_4_3 : ¬ (w3.heap.size = w2.heap.size) := (by omega)
    go_wp2_with fail
    refine (max256_c _).mono ?_
    rintro e w4 ⟨rfl, hb4⟩
    have hs4 := hb4.size
    try simp only [World.size_alloc, World.size_setCell, World.size_drew, size_drewN] at hs4
    have hc4_0 : ∀ o, w4.cell? ⟨w.heap.size, o, none⟩ = _ := fun o => hb4.cell (p := ⟨w.heap.size, o, none⟩) (by ((try simp only [World.size_alloc, World.size_setCell, World.size_drew, size_drewN]); omega))
    have hf4_0 : ∀ o, w4.frozen? ⟨w.heap.size, o, none⟩ = _ := fun o => hb4.frozen (p := ⟨w.heap.size, o, none⟩) (by ((try simp only [World.size_alloc, World.size_setCell, World.size_drew, size_drewN]); omega))
    have z4_0 : w.heap.size < w4.heap.size := (by omega)
    have hc4_1 : ∀ o, w4.cell? ⟨w.heap.size + 1, o, none⟩ = _ := fun o => hb4.cell (p := ⟨w.heap.size + 1, o, none⟩) (by ((try simp only [World.size_alloc, World.size_setCell, World.size_drew, size_drewN]); omega))
    have hf4_1 : ∀ o, w4.frozen? ⟨w.heap.size + 1, o, none⟩ = _ := fun o => hb4.frozen (p := ⟨w.heap.size + 1, o, none⟩) (by ((try simp only [World.size_alloc, World.size_setCell, World.size_drew, size_drewN]); omega))
    have z4_1 : w.heap.size + 1 < w4.heap.size := (by omega)
    have hc4_2 : ∀ o, w4.cell? ⟨w1.heap.size, o, none⟩ = _ := fun o => hb4.cell (p := ⟨w1.heap.size, o, none⟩) (by ((try simp only [World.size_alloc, World.size_setCell, World.size_drew, size_drewN]); omega))
    have hf4_2 : ∀ o, w4.frozen? ⟨w1.heap.size, o, none⟩ = _ := fun o => hb4.frozen (p := ⟨w1.heap.size, o, none⟩) (by ((try simp only [World.size_alloc, World.size_setCell, World.size_drew, size_drewN]); omega))
    have z4_2 : w1.heap.size < w4.heap.size := (by omega)
    have hc4_3 : ∀ o, w4.cell? ⟨w2.heap.size, o, none⟩ = _ := fun o => hb4.cell (p := ⟨w2.heap.size, o, none⟩) (by ((try simp only [World.size_alloc, World.size_setCell, World.size_drew, size_drewN]); omega))
    have hf4_3 : ∀ o, w4.frozen? ⟨w2.heap.size, o, none⟩ = _ := fun o => hb4.frozen (p := ⟨w2.heap.size, o, none⟩) (by ((try simp only [World.size_alloc, World.size_setCell, World.size_drew, size_drewN]); omega))
    have z4_3 : w2.heap.size < w4.heap.size := (by omega)
    have hc4_4 : ∀ o, w4.cell? ⟨w3.heap.size, o, none⟩ = _ := fun o => hb4.cell (p := ⟨w3.heap.size, o, none⟩) (by ((try simp only [World.size_alloc, World.size_setCell, World.size_drew, size_drewN]); omega))
    have hf4_4 : ∀ o, w4.frozen? ⟨w3.heap.size, o, none⟩ = _ := fun o => hb4.frozen (p := ⟨w3.heap.size, o, none⟩) (by ((try simp only [World.size_alloc, World.size_setCell, World.size_drew, size_drewN]); omega))
    have z4_4 : w3.heap.size < w4.heap.size := (by omega)
    go_wp2_with fail
    refine (max256_c _).mono ?_
    rintro e w5 ⟨rfl, hb5⟩
    have hs5 := hb5.size
    try simp only [World.size_alloc, World.size_setCell, World.size_drew, size_drewN] at hs5
    have hc5_0 : ∀ o, w5.cell? ⟨w.heap.size, o, none⟩ = _ := fun o => hb5.cell (p := ⟨w.heap.size, o, none⟩) (by ((try simp only [World.size_alloc, World.size_setCell, World.size_drew, size_drewN]); omega))
    have hf5_0 : ∀ o, w5.frozen? ⟨w.heap.size, o, none⟩ = _ := fun o => hb5.frozen (p := ⟨w.heap.size, o, none⟩) (by ((try simp only [World.size_alloc, World.size_setCell, World.size_drew, size_drewN]); omega))
    have z5_0 : w.heap.size < w5.heap.size := (by omega)
    have hc5_1 : ∀ o, w5.cell? ⟨w.heap.size + 1, o, none⟩ = _ := fun o => hb5.cell (p := ⟨w.heap.size + 1, o, none⟩) (by ((try simp only [World.size_alloc, World.size_setCell, World.size_drew, size_drewN]); omega))
    have hf5_1 : ∀ o, w5.frozen? ⟨w.heap.size + 1, o, none⟩ = _ := fun o => hb5.frozen (p := ⟨w.heap.size + 1, o, none⟩) (by ((try simp only [World.size_alloc, World.size_setCell, World.size_drew, size_drewN]); omega))
    have z5_1 : w.heap.size + 1 < w5.heap.size := (by omega)
    have hc5_2 : ∀ o, w5.cell? ⟨w1.heap.size, o, none⟩ = _ := fun o => hb5.cell (p := ⟨w1.heap.size, o, none⟩) (by ((try simp only [World.size_alloc, World.size_setCell, World.size_drew, size_drewN]); omega))
    have hf5_2 : ∀ o, w5.frozen? ⟨w1.heap.size, o, none⟩ = _ := fun o => hb5.frozen (p := ⟨w1.heap.size, o, none⟩) (by ((try simp only [World.size_alloc, World.size_setCell, World.size_drew, size_drewN]); omega))
    have z5_2 : w1.heap.size < w5.heap.size := (by omega)
    have hc5_3 : ∀ o, w5.cell? ⟨w2.heap.size, o, none⟩ = _ := fun o => hb5.cell (p := ⟨w2.heap.size, o, none⟩) (by ((try simp only [World.size_alloc, World.size_setCell, World.size_drew, size_drewN]); omega))
    have hf5_3 : ∀ o, w5.frozen? ⟨w2.heap.size, o, none⟩ = _ := fun o => hb5.frozen (p := ⟨w2.heap.size, o, none⟩) (by ((try simp only [World.size_alloc, World.size_setCell, World.size_drew, size_drewN]); omega))
    have z5_3 : w2.heap.size < w5.heap.size := (by omega)
    have hc5_4 : ∀ o, w5.cell? ⟨w3.heap.size, o, none⟩ = _ := fun o => hb5.cell (p := ⟨w3.heap.size, o, none⟩) (by ((try simp only [World.size_alloc, World.size_setCell, World.size_drew, size_drewN]); omega))
    have hf5_4 : ∀ o, w5.frozen? ⟨w3.heap.size, o, none⟩ = _ := fun o => hb5.frozen (p := ⟨w3.heap.size, o, none⟩) (by ((try simp only [World.size_alloc, World.size_setCell, World.size_drew, size_drewN]); omega))
    have z5_4 : w3.heap.size < w5.heap.size := (by omega)
    go_wp2_with fail
    go_region_held3 (fun w' => w'.cell? ⟨w.heap.size, 0, none⟩ = some (.int .u64 (lim A 0)) ∧ w'.cell? ⟨w.heap.size, 1, none⟩ = some (.int .u64 (lim A 1)) ∧ w'.cell? ⟨w.heap.size, 2, none⟩ = some (.int .u64 (lim A 2)) ∧ w'.cell? ⟨w.heap.size, 3, none⟩ = some (.int .u64 (lim A 3)) ∧ w'.cell? ⟨w.heap.size + 1, 0, none⟩ = some (.int .u64 (lim B 0)) ∧ w'.cell? ⟨w.heap.size + 1, 1, none⟩ = some (.int .u64 (lim B 1)) ∧ w'.cell? ⟨w.heap.size + 1, 2, none⟩ = some (.int .u64 (lim B 2)) ∧ w'.cell? ⟨w.heap.size + 1, 3, none⟩ = some (.int .u64 (lim B 3)) ∧ w'.cell? ⟨w1.heap.size, 0, none⟩ = some (.int .u64 (18446744073709551615)) ∧ w'.cell? ⟨w1.heap.size, 1, none⟩ = some (.int .u64 (18446744073709551615)) ∧ w'.cell? ⟨w1.heap.size, 2, none⟩ = some (.int .u64 (18446744073709551615)) ∧ w'.cell? ⟨w1.heap.size, 3, none⟩ = some (.int .u64 (18446744073709551615)) ∧ w'.cell? ⟨w2.heap.size, 0, none⟩ = some (.int .u64 (lim (subV A B) 0)) ∧ w'.cell? ⟨w2.heap.size, 1, none⟩ = some (.int .u64 (lim (subV A B) 1)) ∧ w'.cell? ⟨w2.heap.size, 2, none⟩ = some (.int .u64 (lim (subV A B) 2)) ∧ w'.cell? ⟨w2.heap.size, 3, none⟩ = some (.int .u64 (lim (subV A B) 3)) ∧ w'.cell? ⟨w3.heap.size, 0, none⟩ = some (.int .u64 (18446744073709551615)) ∧ w'.cell? ⟨w3.heap.size, 1, none⟩ = some (.int .u64 (18446744073709551615)) ∧ w'.cell? ⟨w3.heap.size, 2, none⟩ = some (.int .u64 (18446744073709551615)) ∧ w'.cell? ⟨w3.heap.size, 3, none⟩ = some (.int .u64 (18446744073709551615))) (simp (maxDischargeDepth := 16) [go_sem, *, World.cell?_alloc_some, World.cell?_setCell_far])
      (first | (go_at_call 41; (with_reducible refine (CA.out _).mono ?_); rintro e w6 ⟨rfl, hb6⟩; (have hs6 := hb6.size); (try simp only [World.size_alloc, World.size_setCell, World.size_drew, size_drewN] at hs6); (have hc6_0 : ∀ o, w6.cell? ⟨w.heap.size, o, none⟩ = _ := fun o => hb6.cell (p := ⟨w.heap.size, o, none⟩) (by ((try simp only [World.size_alloc, World.size_setCell, World.size_drew, size_drewN]); omega))); (have hf6_0 : ∀ o, w6.frozen? ⟨w.heap.size, o, none⟩ = _ := fun o => hb6.frozen (p := ⟨w.heap.size, o, none⟩) (by ((try simp only [World.size_alloc, World.size_setCell, World.size_drew, size_drewN]); omega))); (have z6_0 : w.heap.size < w6.heap.size := (by omega)); (have hc6_1 : ∀ o, w6.cell? ⟨w.heap.size + 1, o, none⟩ = _ := fun o => hb6.cell (p := ⟨w.heap.size + 1, o, none⟩) (by ((try simp only [World.size_alloc, World.size_setCell, World.size_drew, size_drewN]); omega))); (have hf6_1 : ∀ o, w6.frozen? ⟨w.heap.size + 1, o, none⟩ = _ := fun o => hb6.frozen (p := ⟨w.heap.size + 1, o, none⟩) (by ((try simp only [World.size_alloc, World.size_setCell, World.size_drew, size_drewN]); omega))); (have z6_1 : w.heap.size + 1 < w6.heap.size := (by omega)); (have hc6_2 : ∀ o, w6.cell? ⟨w1.heap.size, o, none⟩ = _ := fun o => hb6.cell (p := ⟨w1.heap.size, o, none⟩) (by ((try simp only [World.size_alloc, World.size_setCell, World.size_drew, size_drewN]); omega))); (have hf6_2 : ∀ o, w6.frozen? ⟨w1.heap.size, o, none⟩ = _ := fun o => hb6.frozen (p := ⟨w1.heap.size, o, none⟩) (by ((try simp only [World.size_alloc, World.size_setCell, World.size_drew, size_drewN]); omega))); (have z6_2 : w1.heap.size < w6.heap.size := (by omega)); (have hc6_3 : ∀ o, w6.cell? ⟨w2.heap.size, o, none⟩ = _ := fun o => hb6.cell (p := ⟨w2.heap.size, o, none⟩) (by ((try simp only [World.size_alloc, World.size_setCell, World.size_drew, size_drewN]); omega))); (have hf6_3 : ∀ o, w6.frozen? ⟨w2.heap.size, o, none⟩ = _ := fun o => hb6.frozen (p := ⟨w2.heap.size, o, none⟩) (by ((try simp only [World.size_alloc, World.size_setCell, World.size_drew, size_drewN]); omega))); (have z6_3 : w2.heap.size < w6.heap.size := (by omega)); (have hc6_4 : ∀ o, w6.cell? ⟨w3.heap.size, o, none⟩ = _ := fun o => hb6.cell (p := ⟨w3.heap.size, o, none⟩) (by ((try simp only [World.size_alloc, World.size_setCell, World.size_drew, size_drewN]); omega))); (have hf6_4 : ∀ o, w6.frozen? ⟨w3.heap.size, o, none⟩ = _ := fun o => hb6.frozen (p := ⟨w3.heap.size, o, none⟩) (by ((try simp only [World.size_alloc, World.size_setCell, World.size_drew, size_drewN]); omega))); (have z6_4 : w3.heap.size < w6.heap.size := (by omega))) | (go_at_call 28; (with_reducible refine (CS.out _).mono ?_); rintro e w7 ⟨rfl, hb7⟩; (have hs7 := hb7.size); (try simp only [World.size_alloc, World.size_setCell, World.size_drew, size_drewN] at hs7); (have hc7_0 : ∀ o, w7.cell? ⟨w.heap.size, o, none⟩ = _ := fun o => hb7.cell (p := ⟨w.heap.size, o, none⟩) (by ((try simp only [World.size_alloc, World.size_setCell, World.size_drew, size_drewN]); omega))); (have hf7_0 : ∀ o, w7.frozen? ⟨w.heap.size, o, none⟩ = _ := fun o => hb7.frozen (p := ⟨w.heap.size, o, none⟩) (by ((try simp only [World.size_alloc, World.size_setCell, World.size_drew, size_drewN]); omega))); (have z7_0 : w.heap.size < w7.heap.size := (by omega)); (have hc7_1 : ∀ o, w7.cell? ⟨w.heap.size + 1, o, none⟩ = _ := fun o => hb7.cell (p := ⟨w.heap.size + 1, o, none⟩) (by ((try simp only [World.size_alloc, World.size_setCell, World.size_drew, size_drewN]); omega))); (have hf7_1 : ∀ o, w7.frozen? ⟨w.heap.size + 1, o, none⟩ = _ := fun o => hb7.frozen (p := ⟨w.heap.size + 1, o, none⟩) (by ((try simp only [World.size_alloc, World.size_setCell, World.size_drew, size_drewN]); omega))); (have z7_1 : w.heap.size + 1 < w7.heap.size := (by omega)); (have hc7_2 : ∀ o, w7.cell? ⟨w1.heap.size, o, none⟩ = _ := fun o => hb7.cell (p := ⟨w1.heap.size, o, none⟩) (by ((try simp only [World.size_alloc, World.size_setCell, World.size_drew, size_drewN]); omega))); (have hf7_2 : ∀ o, w7.frozen? ⟨w1.heap.size, o, none⟩ = _ := fun o => hb7.frozen (p := ⟨w1.heap.size, o, none⟩) (by ((try simp only [World.size_alloc, World.size_setCell, World.size_drew, size_drewN]); omega))); (have z7_2 : w1.heap.size < w7.heap.size := (by omega)); (have hc7_3 : ∀ o, w7.cell? ⟨w2.heap.size, o, none⟩ = _ := fun o => hb7.cell (p := ⟨w2.heap.size, o, none⟩) (by ((try simp only [World.size_alloc, World.size_setCell, World.size_drew, size_drewN]); omega))); (have hf7_3 : ∀ o, w7.frozen? ⟨w2.heap.size, o, none⟩ = _ := fun o => hb7.frozen (p := ⟨w2.heap.size, o, none⟩) (by ((try simp only [World.size_alloc, World.size_setCell, World.size_drew, size_drewN]); omega))); (have z7_3 : w2.heap.size < w7.heap.size := (by omega)); (have hc7_4 : ∀ o, w7.cell? ⟨w3.heap.size, o, none⟩ = _ := fun o => hb7.cell (p := ⟨w3.heap.size, o, none⟩) (by ((try simp only [World.size_alloc, World.size_setCell, World.size_drew, size_drewN]); omega))); (have hf7_4 : ∀ o, w7.frozen? ⟨w3.heap.size, o, none⟩ = _ := fun o => hb7.frozen (p := ⟨w3.heap.size, o, none⟩) (by ((try simp only [World.size_alloc, World.size_setCell, World.size_drew, size_drewN]); omega))); (have z7_4 : w3.heap.size < w7.heap.size := (by omega))) | (go_at_call 42; (with_reducible refine (CM.out _).mono ?_); rintro e w8 ⟨rfl, hb8⟩; (have hs8 := hb8.size); (try simp only [World.size_alloc, World.size_setCell, World.size_drew, size_drewN] at hs8); (have hc8_0 : ∀ o, w8.cell? ⟨w.heap.size, o, none⟩ = _ := fun o => hb8.cell (p := ⟨w.heap.size, o, none⟩) (by ((try simp only [World.size_alloc, World.size_setCell, World.size_drew, size_drewN]); omega))); (have hf8_0 : ∀ o, w8.frozen? ⟨w.heap.size, o, none⟩ = _ := fun o => hb8.frozen (p := ⟨w.heap.size, o, none⟩) (by ((try simp only [World.size_alloc, World.size_setCell, World.size_drew, size_drewN]); omega))); (have z8_0 : w.heap.size < w8.heap.size := (by omega)); (have hc8_1 : ∀ o, w8.cell? ⟨w.heap.size + 1, o, none⟩ = _ := fun o => hb8.cell (p := ⟨w.heap.size + 1, o, none⟩) (by ((try simp only [World.size_alloc, World.size_setCell, World.size_drew, size_drewN]); omega))); (have hf8_1 : ∀ o, w8.frozen? ⟨w.heap.size + 1, o, none⟩ = _ := fun o => hb8.frozen (p := ⟨w.heap.size + 1, o, none⟩) (by ((try simp only [World.size_alloc, World.size_setCell, World.size_drew, size_drewN]); omega))); (have z8_1 : w.heap.size + 1 < w8.heap.size := (by omega)); (have hc8_2 : ∀ o, w8.cell? ⟨w1.heap.size, o, none⟩ = _ := fun o => hb8.cell (p := ⟨w1.heap.size, o, none⟩) (by ((try simp only [World.size_alloc, World.size_setCell, World.size_drew, size_drewN]); omega))); (have hf8_2 : ∀ o, w8.frozen? ⟨w1.heap.size, o, none⟩ = _ := fun o => hb8.frozen (p := ⟨w1.heap.size, o, none⟩) (by ((try simp only [World.size_alloc, World.size_setCell, World.size_drew, size_drewN]); omega))); (have z8_2 : w1.heap.size < w8.heap.size := (by omega)); (have hc8_3 : ∀ o, w8.cell? ⟨w2.heap.size, o, none⟩ = _ := fun o => hb8.cell (p := ⟨w2.heap.size, o, none⟩) (by ((try simp only [World.size_alloc, World.size_setCell, World.size_drew, size_drewN]); omega))); (have hf8_3 : ∀ o, w8.frozen? ⟨w2.heap.size, o, none⟩ = _ := fun o => hb8.frozen (p := ⟨w2.heap.size, o, none⟩) (by ((try simp only [World.size_alloc, World.size_setCell, World.size_drew, size_drewN]); omega))); (have z8_3 : w2.heap.size < w8.heap.size := (by omega)); (have hc8_4 : ∀ o, w8.cell? ⟨w3.heap.size, o, none⟩ = _ := fun o => hb8.cell (p := ⟨w3.heap.size, o, none⟩) (by ((try simp only [World.size_alloc, World.size_setCell, World.size_drew, size_drewN]); omega))); (have hf8_4 : ∀ o, w8.frozen? ⟨w3.heap.size, o, none⟩ = _ := fun o => hb8.frozen (p := ⟨w3.heap.size, o, none⟩) (by ((try simp only [World.size_alloc, World.size_setCell, World.size_drew, size_drewN]); omega))); (have z8_4 : w3.heap.size < w8.heap.size := (by omega))))
    go_wp2
    go_ret
    exact ⟨rfl, (by (repeat' (first | (with_reducible exact Below.refl _ _) | (with_reducible assumption) | (with_reducible refine Below.alloc ?_ ?_ _) | (with_reducible refine Below.drew ?_) | (with_reducible refine below_drewN ?_ _) | (with_reducible refine Below.setCell ?_ ?_ _) | (with_reducible refine below_step (by with_reducible assumption) ?_ ?_) | (first | (with_reducible exact Nat.le_refl _) | (with_reducible assumption) | omega | (simp only [World.size_alloc, World.size_setCell, World.size_drew, size_drewN]; omega) | (simp; omega) | (simp; done)))))⟩
  · go_enter Try.func27, Try.ntmps27
    go_wp2_with fail
    refine (add256_c HA.out HB.out _).mono ?_
    rintro e w1 ⟨rfl, hb1⟩
    have hs1 := hb1.size
    try simp only [World.size_alloc, World.size_setCell, World.size_drew, size_drewN] at hs1
    have hc1_0 : ∀ o, w1.cell? ⟨w.heap.size, o, none⟩ = _ := fun o => hb1.cell (p := ⟨w.heap.size, o, none⟩) (by ((try simp only [World.size_alloc, World.size_setCell, World.size_drew, size_drewN]); omega))
    have hf1_0 : ∀ o, w1.frozen? ⟨w.heap.size, o, none⟩ = _ := fun o => hb1.frozen (p := ⟨w.heap.size, o, none⟩) (by ((try simp only [World.size_alloc, World.size_setCell, World.size_drew, size_drewN]); omega))
    have z1_0 : w.heap.size < w1.heap.size := (by omega)
    have hc1_1 : ∀ o, w1.cell? ⟨w.heap.size + 1, o, none⟩ = _ := fun o => hb1.cell (p := ⟨w.heap.size + 1, o, none⟩) (by ((try simp only [World.size_alloc, World.size_setCell, World.size_drew, size_drewN]); omega))
    have hf1_1 : ∀ o, w1.frozen? ⟨w.heap.size + 1, o, none⟩ = _ := fun o => hb1.frozen (p := ⟨w.heap.size + 1, o, none⟩) (by ((try simp only [World.size_alloc, World.size_setCell, World.size_drew, size_drewN]); omega))
    have z1_1 : w.heap.size + 1 < w1.heap.size := (by omega)
    go_wp2_with fail
    refine (sub256_c HA.out HB.out _).mono ?_
    rintro e w2 ⟨rfl, hb2⟩
    have hs2 := hb2.size
    try simp only [World.size_alloc, World.size_setCell, World.size_drew, size_drewN] at hs2
    have hc2_0 : ∀ o, w2.cell? ⟨w.heap.size, o, none⟩ = _ := fun o => hb2.cell (p := ⟨w.heap.size, o, none⟩) (by ((try simp only [World.size_alloc, World.size_setCell, World.size_drew, size_drewN]); omega))
    have hf2_0 : ∀ o, w2.frozen? ⟨w.heap.size, o, none⟩ = _ := fun o => hb2.frozen (p := ⟨w.heap.size, o, none⟩) (by ((try simp only [World.size_alloc, World.size_setCell, World.size_drew, size_drewN]); omega))
    have z2_0 : w.heap.size < w2.heap.size := (by omega)
    have hc2_1 : ∀ o, w2.cell? ⟨w.heap.size + 1, o, none⟩ = _ := fun o => hb2.cell (p := ⟨w.heap.size + 1, o, none⟩) (by ((try simp only [World.size_alloc, World.size_setCell, World.size_drew, size_drewN]); omega))
    have hf2_1 : ∀ o, w2.frozen? ⟨w.heap.size + 1, o, none⟩ = _ := fun o => hb2.frozen (p := ⟨w.heap.size + 1, o, none⟩) (by ((try simp only [World.size_alloc, World.size_setCell, World.size_drew, size_drewN]); omega))
    have z2_1 : w.heap.size + 1 < w2.heap.size := (by omega)
    have hc2_2 : ∀ o, w2.cell? ⟨w1.heap.size, o, none⟩ = _ := fun o => hb2.cell (p := ⟨w1.heap.size, o, none⟩) (by ((try simp only [World.size_alloc, World.size_setCell, World.size_drew, size_drewN]); omega))
    have hf2_2 : ∀ o, w2.frozen? ⟨w1.heap.size, o, none⟩ = _ := fun o => hb2.frozen (p := ⟨w1.heap.size, o, none⟩) (by ((try simp only [World.size_alloc, World.size_setCell, World.size_drew, size_drewN]); omega))
    have z2_2 : w1.heap.size < w2.heap.size := (by omega)
    go_wp2_with fail
    refine (mul256_c HA.out HB.out _).mono ?_
    rintro e w3 ⟨rfl, hb3⟩
    have hs3 := hb3.size
    try simp only [World.size_alloc, World.size_setCell, World.size_drew, size_drewN] at hs3
    have hc3_0 : ∀ o, w3.cell? ⟨w.heap.size, o, none⟩ = _ := fun o => hb3.cell (p := ⟨w.heap.size, o, none⟩) (by ((try simp only [World.size_alloc, World.size_setCell, World.size_drew, size_drewN]); omega))
    have hf3_0 : ∀ o, w3.frozen? ⟨w.heap.size, o, none⟩ = _ := fun o => hb3.frozen (p := ⟨w.heap.size, o, none⟩) (by ((try simp only [World.size_alloc, World.size_setCell, World.size_drew, size_drewN]); omega))
    have z3_0 : w.heap.size < w3.heap.size := (by omega)
    have hc3_1 : ∀ o, w3.cell? ⟨w.heap.size + 1, o, none⟩ = _ := fun o => hb3.cell (p := ⟨w.heap.size + 1, o, none⟩) (by ((try simp only [World.size_alloc, World.size_setCell, World.size_drew, size_drewN]); omega))
    have hf3_1 : ∀ o, w3.frozen? ⟨w.heap.size + 1, o, none⟩ = _ := fun o => hb3.frozen (p := ⟨w.heap.size + 1, o, none⟩) (by ((try simp only [World.size_alloc, World.size_setCell, World.size_drew, size_drewN]); omega))
    have z3_1 : w.heap.size + 1 < w3.heap.size := (by omega)
    have hc3_2 : ∀ o, w3.cell? ⟨w1.heap.size, o, none⟩ = _ := fun o => hb3.cell (p := ⟨w1.heap.size, o, none⟩) (by ((try simp only [World.size_alloc, World.size_setCell, World.size_drew, size_drewN]); omega))
    have hf3_2 : ∀ o, w3.frozen? ⟨w1.heap.size, o, none⟩ = _ := fun o => hb3.frozen (p := ⟨w1.heap.size, o, none⟩) (by ((try simp only [World.size_alloc, World.size_setCell, World.size_drew, size_drewN]); omega))
    have z3_2 : w1.heap.size < w3.heap.size := (by omega)
    have hc3_3 : ∀ o, w3.cell? ⟨w2.heap.size, o, none⟩ = _ := fun o => hb3.cell (p := ⟨w2.heap.size, o, none⟩) (by ((try simp only [World.size_alloc, World.size_setCell, World.size_drew, size_drewN]); omega))
    have hf3_3 : ∀ o, w3.frozen? ⟨w2.heap.size, o, none⟩ = _ := fun o => hb3.frozen (p := ⟨w2.heap.size, o, none⟩) (by ((try simp only [World.size_alloc, World.size_setCell, World.size_drew, size_drewN]); omega))
    have z3_3 : w2.heap.size < w3.heap.size := (by omega)
    have ne_0_1 : ¬ (w.heap.size = w.heap.size + 1) := (by omega)
    have ne_0_2 : ¬ (w.heap.size = w1.heap.size) := (by omega)
    have ne_0_3 : ¬ (w.heap.size = w2.heap.size) := (by omega)
    have ne_0_4 : ¬ (w.heap.size = w3.heap.size) := (by omega)
    have ne_1_0 : ¬ (w.heap.size + 1 = w.heap.size) := (by omega)
    have ne_1_2 : ¬ (w.heap.size + 1 = w1.heap.size) := (by omega)
    have ne_1_3 : ¬ (w.heap.size + 1 = w2.heap.size) := (by omega)
    have ne_1_4 : ¬ (w.heap.size + 1 = w3.heap.size) := (by omega)
    have ne_2_0 : ¬ (w1.heap.size = w.heap.size) := (by omega)
    have ne_2_1 : ¬ (w1.heap.size = w.heap.size + 1) := (by omega)
    have ne_2_3 : ¬ (w1.heap.size = w2.heap.size) := (by omega)
    have ne_2_4 : ¬ (w1.heap.size = w3.heap.size) := (by omega)
    have ne_3_0 : ¬ (w2.heap.size = w.heap.size) := (by omega)
    have ne_3_1 : ¬ (w2.heap.size = w.heap.size + 1) := (by omega)
    have ne_3_2 : ¬ (w2.heap.size = w1.heap.size) := (by omega)
    have ne_3_4 : ¬ (w2.heap.size = w3.heap.size) := (by omega)
    have ne_4_0 : ¬ (w3.heap.size = w.heap.size) := (by omega)
    have ne_4_1 : ¬ (w3.heap.size = w.heap.size + 1) := (by omega)
    have ne_4_2 : ¬ (w3.heap.size = w1.heap.size) := (by omega)
    have ne_4_3 : ¬ (w3.heap.size = w2.heap.size) := (by omega)
    go_wp2_with fail
    refine (max256_c _).mono ?_
    rintro e w4 ⟨rfl, hb4⟩
    have hs4 := hb4.size
    try simp only [World.size_alloc, World.size_setCell, World.size_drew, size_drewN] at hs4
    have hc4_0 : ∀ o, w4.cell? ⟨w.heap.size, o, none⟩ = _ := fun o => hb4.cell (p := ⟨w.heap.size, o, none⟩) (by ((try simp only [World.size_alloc, World.size_setCell, World.size_drew, size_drewN]); omega))
    have hf4_0 : ∀ o, w4.frozen? ⟨w.heap.size, o, none⟩ = _ := fun o => hb4.frozen (p := ⟨w.heap.size, o, none⟩) (by ((try simp only [World.size_alloc, World.size_setCell, World.size_drew, size_drewN]); omega))
    have z4_0 : w.heap.size < w4.heap.size := (by omega)
    have hc4_1 : ∀ o, w4.cell? ⟨w.heap.size + 1, o, none⟩ = _ := fun o => hb4.cell (p := ⟨w.heap.size + 1, o, none⟩) (by ((try simp only [World.size_alloc, World.size_setCell, World.size_drew, size_drewN]); omega))
    have hf4_1 : ∀ o, w4.frozen? ⟨w.heap.size + 1, o, none⟩ = _ := fun o => hb4.frozen (p := ⟨w.heap.size + 1, o, none⟩) (by ((try simp only [World.size_alloc, World.size_setCell, World.size_drew, size_drewN]); omega))
    have z4_1 : w.heap.size + 1 < w4.heap.size := (by omega)
    have hc4_2 : ∀ o, w4.cell? ⟨w1.heap.size, o, none⟩ = _ := fun o => hb4.cell (p := ⟨w1.heap.size, o, none⟩) (by ((try simp only [World.size_alloc, World.size_setCell, World.size_drew, size_drewN]); omega))
    have hf4_2 : ∀ o, w4.frozen? ⟨w1.heap.size, o, none⟩ = _ := fun o => hb4.frozen (p := ⟨w1.heap.size, o, none⟩) (by ((try simp only [World.size_alloc, World.size_setCell, World.size_drew, size_drewN]); omega))
    have z4_2 : w1.heap.size < w4.heap.size := (by omega)
    have hc4_3 : ∀ o, w4.cell? ⟨w2.heap.size, o, none⟩ = _ := fun o => hb4.cell (p := ⟨w2.heap.size, o, none⟩) (by ((try simp only [World.size_alloc, World.size_setCell, World.size_drew, size_drewN]); omega))
    have hf4_3 : ∀ o, w4.frozen? ⟨w2.heap.size, o, none⟩ = _ := fun o => hb4.frozen (p := ⟨w2.heap.size, o, none⟩) (by ((try simp only [World.size_alloc, World.size_setCell, World.size_drew, size_drewN]); omega))
    have z4_3 : w2.heap.size < w4.heap.size := (by omega)
    have hc4_4 : ∀ o, w4.cell? ⟨w3.heap.size, o, none⟩ = _ := fun o => hb4.cell (p := ⟨w3.heap.size, o, none⟩) (by ((try simp only [World.size_alloc, World.size_setCell, World.size_drew, size_drewN]); omega))
    have hf4_4 : ∀ o, w4.frozen? ⟨w3.heap.size, o, none⟩ = _ := fun o => hb4.frozen (p := ⟨w3.heap.size, o, none⟩) (by ((try simp only [World.size_alloc, World.size_setCell, World.size_drew, size_drewN]); omega))
    have z4_4 : w3.heap.size < w4.heap.size := (by omega)
    go_wp2_with fail
    go_region_held3 (fun w' => w'.cell? ⟨w.heap.size, 0, none⟩ = some (.int .u64 (lim A 0)) ∧ w'.cell? ⟨w.heap.size, 1, none⟩ = some (.int .u64 (lim A 1)) ∧ w'.cell? ⟨w.heap.size, 2, none⟩ = some (.int .u64 (lim A 2)) ∧ w'.cell? ⟨w.heap.size, 3, none⟩ = some (.int .u64 (lim A 3)) ∧ w'.cell? ⟨w.heap.size + 1, 0, none⟩ = some (.int .u64 (lim B 0)) ∧ w'.cell? ⟨w.heap.size + 1, 1, none⟩ = some (.int .u64 (lim B 1)) ∧ w'.cell? ⟨w.heap.size + 1, 2, none⟩ = some (.int .u64 (lim B 2)) ∧ w'.cell? ⟨w.heap.size + 1, 3, none⟩ = some (.int .u64 (lim B 3)) ∧ w'.cell? ⟨w1.heap.size, 0, none⟩ = some (.int .u64 (18446744073709551615)) ∧ w'.cell? ⟨w1.heap.size, 1, none⟩ = some (.int .u64 (18446744073709551615)) ∧ w'.cell? ⟨w1.heap.size, 2, none⟩ = some (.int .u64 (18446744073709551615)) ∧ w'.cell? ⟨w1.heap.size, 3, none⟩ = some (.int .u64 (18446744073709551615)) ∧ w'.cell? ⟨w2.heap.size, 0, none⟩ = some (.int .u64 (0)) ∧ w'.cell? ⟨w2.heap.size, 1, none⟩ = some (.int .u64 (0)) ∧ w'.cell? ⟨w2.heap.size, 2, none⟩ = some (.int .u64 (0)) ∧ w'.cell? ⟨w2.heap.size, 3, none⟩ = some (.int .u64 (0)) ∧ w'.cell? ⟨w3.heap.size, 0, none⟩ = some (.int .u64 (lim (mulV A B) 0)) ∧ w'.cell? ⟨w3.heap.size, 1, none⟩ = some (.int .u64 (lim (mulV A B) 1)) ∧ w'.cell? ⟨w3.heap.size, 2, none⟩ = some (.int .u64 (lim (mulV A B) 2)) ∧ w'.cell? ⟨w3.heap.size, 3, none⟩ = some (.int .u64 (lim (mulV A B) 3))) (simp (maxDischargeDepth := 16) [go_sem, *, World.cell?_alloc_some, World.cell?_setCell_far])
      (first | (go_at_call 41; (with_reducible refine (CA.out _).mono ?_); rintro e w5 ⟨rfl, hb5⟩; (have hs5 := hb5.size); (try simp only [World.size_alloc, World.size_setCell, World.size_drew, size_drewN] at hs5); (have hc5_0 : ∀ o, w5.cell? ⟨w.heap.size, o, none⟩ = _ := fun o => hb5.cell (p := ⟨w.heap.size, o, none⟩) (by ((try simp only [World.size_alloc, World.size_setCell, World.size_drew, size_drewN]); omega))); (have hf5_0 : ∀ o, w5.frozen? ⟨w.heap.size, o, none⟩ = _ := fun o => hb5.frozen (p := ⟨w.heap.size, o, none⟩) (by ((try simp only [World.size_alloc, World.size_setCell, World.size_drew, size_drewN]); omega))); (have z5_0 : w.heap.size < w5.heap.size := (by omega)); (have hc5_1 : ∀ o, w5.cell? ⟨w.heap.size + 1, o, none⟩ = _ := fun o => hb5.cell (p := ⟨w.heap.size + 1, o, none⟩) (by ((try simp only [World.size_alloc, World.size_setCell, World.size_drew, size_drewN]); omega))); (have hf5_1 : ∀ o, w5.frozen? ⟨w.heap.size + 1, o, none⟩ = _ := fun o => hb5.frozen (p := ⟨w.heap.size + 1, o, none⟩) (by ((try simp only [World.size_alloc, World.size_setCell, World.size_drew, size_drewN]); omega))); (have z5_1 : w.heap.size + 1 < w5.heap.size := (by omega)); (have hc5_2 : ∀ o, w5.cell? ⟨w1.heap.size, o, none⟩ = _ := fun o => hb5.cell (p := ⟨w1.heap.size, o, none⟩) (by ((try simp only [World.size_alloc, World.size_setCell, World.size_drew, size_drewN]); omega))); (have hf5_2 : ∀ o, w5.frozen? ⟨w1.heap.size, o, none⟩ = _ := fun o => hb5.frozen (p := ⟨w1.heap.size, o, none⟩) (by ((try simp only [World.size_alloc, World.size_setCell, World.size_drew, size_drewN]); omega))); (have z5_2 : w1.heap.size < w5.heap.size := (by omega)); (have hc5_3 : ∀ o, w5.cell? ⟨w2.heap.size, o, none⟩ = _ := fun o => hb5.cell (p := ⟨w2.heap.size, o, none⟩) (by ((try simp only [World.size_alloc, World.size_setCell, World.size_drew, size_drewN]); omega))); (have hf5_3 : ∀ o, w5.frozen? ⟨w2.heap.size, o, none⟩ = _ := fun o => hb5.frozen (p := ⟨w2.heap.size, o, none⟩) (by ((try simp only [World.size_alloc, World.size_setCell, World.size_drew, size_drewN]); omega))); (have z5_3 : w2.heap.size < w5.heap.size := (by omega)); (have hc5_4 : ∀ o, w5.cell? ⟨w3.heap.size, o, none⟩ = _ := fun o => hb5.cell (p := ⟨w3.heap.size, o, none⟩) (by ((try simp only [World.size_alloc, World.size_setCell, World.size_drew, size_drewN]); omega))); (have hf5_4 : ∀ o, w5.frozen? ⟨w3.heap.size, o, none⟩ = _ := fun o => hb5.frozen (p := ⟨w3.heap.size, o, none⟩) (by ((try simp only [World.size_alloc, World.size_setCell, World.size_drew, size_drewN]); omega))); (have z5_4 : w3.heap.size < w5.heap.size := (by omega))) | (go_at_call 28; (with_reducible refine (CS.out _).mono ?_); rintro e w6 ⟨rfl, hb6⟩; (have hs6 := hb6.size); (try simp only [World.size_alloc, World.size_setCell, World.size_drew, size_drewN] at hs6); (have hc6_0 : ∀ o, w6.cell? ⟨w.heap.size, o, none⟩ = _ := fun o => hb6.cell (p := ⟨w.heap.size, o, none⟩) (by ((try simp only [World.size_alloc, World.size_setCell, World.size_drew, size_drewN]); omega))); (have hf6_0 : ∀ o, w6.frozen? ⟨w.heap.size, o, none⟩ = _ := fun o => hb6.frozen (p := ⟨w.heap.size, o, none⟩) (by ((try simp only [World.size_alloc, World.size_setCell, World.size_drew, size_drewN]); omega))); (have z6_0 : w.heap.size < w6.heap.size := (by omega)); (have hc6_1 : ∀ o, w6.cell? ⟨w.heap.size + 1, o, none⟩ = _ := fun o => hb6.cell (p := ⟨w.heap.size + 1, o, none⟩) (by ((try simp only [World.size_alloc, World.size_setCell, World.size_drew, size_drewN]); omega))); (have hf6_1 : ∀ o, w6.frozen? ⟨w.heap.size + 1, o, none⟩ = _ := fun o => hb6.frozen (p := ⟨w.heap.size + 1, o, none⟩) (by ((try simp only [World.size_alloc, World.size_setCell, World.size_drew, size_drewN]); omega))); (have z6_1 : w.heap.size + 1 < w6.heap.size := (by omega)); (have hc6_2 : ∀ o, w6.cell? ⟨w1.heap.size, o, none⟩ = _ := fun o => hb6.cell (p := ⟨w1.heap.size, o, none⟩) (by ((try simp only [World.size_alloc, World.size_setCell, World.size_drew, size_drewN]); omega))); (have hf6_2 : ∀ o, w6.frozen? ⟨w1.heap.size, o, none⟩ = _ := fun o => hb6.frozen (p := ⟨w1.heap.size, o, none⟩) (by ((try simp only [World.size_alloc, World.size_setCell, World.size_drew, size_drewN]); omega))); (have z6_2 : w1.heap.size < w6.heap.size := (by omega)); (have hc6_3 : ∀ o, w6.cell? ⟨w2.heap.size, o, none⟩ = _ := fun o => hb6.cell (p := ⟨w2.heap.size, o, none⟩) (by ((try simp only [World.size_alloc, World.size_setCell, World.size_drew, size_drewN]); omega))); (have hf6_3 : ∀ o, w6.frozen? ⟨w2.heap.size, o, none⟩ = _ := fun o => hb6.frozen (p := ⟨w2.heap.size, o, none⟩) (by ((try simp only [World.size_alloc, World.size_setCell, World.size_drew, size_drewN]); omega))); (have z6_3 : w2.heap.size < w6.heap.size := (by omega)); (have hc6_4 : ∀ o, w6.cell? ⟨w3.heap.size, o, none⟩ = _ := fun o => hb6.cell (p := ⟨w3.heap.size, o, none⟩) (by ((try simp only [World.size_alloc, World.size_setCell, World.size_drew, size_drewN]); omega))); (have hf6_4 : ∀ o, w6.frozen? ⟨w3.heap.size, o, none⟩ = _ := fun o => hb6.frozen (p := ⟨w3.heap.size, o, none⟩) (by ((try simp only [World.size_alloc, World.size_setCell, World.size_drew, size_drewN]); omega))); (have z6_4 : w3.heap.size < w6.heap.size := (by omega))) | (go_at_call 42; (with_reducible refine (CM.out _).mono ?_); rintro e w7 ⟨rfl, hb7⟩; (have hs7 := hb7.size); (try simp only [World.size_alloc, World.size_setCell, World.size_drew, size_drewN] at hs7); (have hc7_0 : ∀ o, w7.cell? ⟨w.heap.size, o, none⟩ = _ := fun o => hb7.cell (p := ⟨w.heap.size, o, none⟩) (by ((try simp only [World.size_alloc, World.size_setCell, World.size_drew, size_drewN]); omega))); (have hf7_0 : ∀ o, w7.frozen? ⟨w.heap.size, o, none⟩ = _ := fun o => hb7.frozen (p := ⟨w.heap.size, o, none⟩) (by ((try simp only [World.size_alloc, World.size_setCell, World.size_drew, size_drewN]); omega))); (have z7_0 : w.heap.size < w7.heap.size := (by omega)); (have hc7_1 : ∀ o, w7.cell? ⟨w.heap.size + 1, o, none⟩ = _ := fun o => hb7.cell (p := ⟨w.heap.size + 1, o, none⟩) (by ((try simp only [World.size_alloc, World.size_setCell, World.size_drew, size_drewN]); omega))); (have hf7_1 : ∀ o, w7.frozen? ⟨w.heap.size + 1, o, none⟩ = _ := fun o => hb7.frozen (p := ⟨w.heap.size + 1, o, none⟩) (by ((try simp only [World.size_alloc, World.size_setCell, World.size_drew, size_drewN]); omega))); (have z7_1 : w.heap.size + 1 < w7.heap.size := (by omega)); (have hc7_2 : ∀ o, w7.cell? ⟨w1.heap.size, o, none⟩ = _ := fun o => hb7.cell (p := ⟨w1.heap.size, o, none⟩) (by ((try simp only [World.size_alloc, World.size_setCell, World.size_drew, size_drewN]); omega))); (have hf7_2 : ∀ o, w7.frozen? ⟨w1.heap.size, o, none⟩ = _ := fun o => hb7.frozen (p := ⟨w1.heap.size, o, none⟩) (by ((try simp only [World.size_alloc, World.size_setCell, World.size_drew, size_drewN]); omega))); (have z7_2 : w1.heap.size < w7.heap.size := (by omega)); (have hc7_3 : ∀ o, w7.cell? ⟨w2.heap.size, o, none⟩ = _ := fun o => hb7.cell (p := ⟨w2.heap.size, o, none⟩) (by ((try simp only [World.size_alloc, World.size_setCell, World.size_drew, size_drewN]); omega))); (have hf7_3 : ∀ o, w7.frozen? ⟨w2.heap.size, o, none⟩ = _ := fun o => hb7.frozen (p := ⟨w2.heap.size, o, none⟩) (by ((try simp only [World.size_alloc, World.size_setCell, World.size_drew, size_drewN]); omega))); (have z7_3 : w2.heap.size < w7.heap.size := (by omega)); (have hc7_4 : ∀ o, w7.cell? ⟨w3.heap.size, o, none⟩ = _ := fun o => hb7.cell (p := ⟨w3.heap.size, o, none⟩) (by ((try simp only [World.size_alloc, World.size_setCell, World.size_drew, size_drewN]); omega))); (have hf7_4 : ∀ o, w7.frozen? ⟨w3.heap.size, o, none⟩ = _ := fun o => hb7.frozen (p := ⟨w3.heap.size, o, none⟩) (by ((try simp only [World.size_alloc, World.size_setCell, World.size_drew, size_drewN]); omega))); (have z7_4 : w3.heap.size < w7.heap.size := (by omega))))
    go_wp2
    go_ret
    exact ⟨rfl, (by (repeat' (first | (with_reducible exact Below.refl _ _) | (with_reducible assumption) | (with_reducible refine Below.alloc ?_ ?_ _) | (with_reducible refine Below.drew ?_) | (with_reducible refine below_drewN ?_ _) | (with_reducible refine Below.setCell ?_ ?_ _) | (with_reducible refine below_step (by with_reducible assumption) ?_ ?_) | (first | (with_reducible exact Nat.le_refl _) | (with_reducible assumption) | omega | (simp only [World.size_alloc, World.size_setCell, World.size_drew, size_drewN]; omega) | (simp; omega) | (simp; done)))))⟩
  · go_enter Try.func27, Try.ntmps27
    go_wp2_with fail
    refine (add256_c HA.out HB.out _).mono ?_
    rintro e w1 ⟨rfl, hb1⟩
    have hs1 := hb1.size
    try simp only [World.size_alloc, World.size_setCell, World.size_drew, size_drewN] at hs1
    have hc1_0 : ∀ o, w1.cell? ⟨w.heap.size, o, none⟩ = _ := fun o => hb1.cell (p := ⟨w.heap.size, o, none⟩) (by ((try simp only [World.size_alloc, World.size_setCell, World.size_drew, size_drewN]); omega))
    have hf1_0 : ∀ o, w1.frozen? ⟨w.heap.size, o, none⟩ = _ := fun o => hb1.frozen (p := ⟨w.heap.size, o, none⟩) (by ((try simp only [World.size_alloc, World.size_setCell, World.size_drew, size_drewN]); omega))
    have z1_0 : w.heap.size < w1.heap.size := (by omega)
    have hc1_1 : ∀ o, w1.cell? ⟨w.heap.size + 1, o, none⟩ = _ := fun o => hb1.cell (p := ⟨w.heap.size + 1, o, none⟩) (by ((try simp only [World.size_alloc, World.size_setCell, World.size_drew, size_drewN]); omega))
    have hf1_1 : ∀ o, w1.frozen? ⟨w.heap.size + 1, o, none⟩ = _ := fun o => hb1.frozen (p := ⟨w.heap.size + 1, o, none⟩) (by ((try simp only [World.size_alloc, World.size_setCell, World.size_drew, size_drewN]); omega))
    have z1_1 : w.heap.size + 1 < w1.heap.size := (by omega)
    go_wp2_with fail
    refine (sub256_c HA.out HB.out _).mono ?_
    rintro e w2 ⟨rfl, hb2⟩
    have hs2 := hb2.size
    try simp only [World.size_alloc, World.size_setCell, World.size_drew, size_drewN] at hs2
    have hc2_0 : ∀ o, w2.cell? ⟨w.heap.size, o, none⟩ = _ := fun o => hb2.cell (p := ⟨w.heap.size, o, none⟩) (by ((try simp only [World.size_alloc, World.size_setCell, World.size_drew, size_drewN]); omega))
    have hf2_0 : ∀ o, w2.frozen? ⟨w.heap.size, o, none⟩ = _ := fun o => hb2.frozen (p := ⟨w.heap.size, o, none⟩) (by ((try simp only [World.size_alloc, World.size_setCell, World.size_drew, size_drewN]); omega))
    have z2_0 : w.heap.size < w2.heap.size := (by omega)
    have hc2_1 : ∀ o, w2.cell? ⟨w.heap.size + 1, o, none⟩ = _ := fun o => hb2.cell (p := ⟨w.heap.size + 1, o, none⟩) (by ((try simp only [World.size_alloc, World.size_setCell, World.size_drew, size_drewN]); omega))
    have hf2_1 : ∀ o, w2.frozen? ⟨w.heap.size + 1, o, none⟩ = _ := fun o => hb2.frozen (p := ⟨w.heap.size + 1, o, none⟩) (by ((try simp only [World.size_alloc, World.size_setCell, World.size_drew, size_drewN]); omega))
    have z2_1 : w.heap.size + 1 < w2.heap.size := (by omega)
    have hc2_2 : ∀ o, w2.cell? ⟨w1.heap.size, o, none⟩ = _ := fun o => hb2.cell (p := ⟨w1.heap.size, o, none⟩) (by ((try simp only [World.size_alloc, World.size_setCell, World.size_drew, size_drewN]); omega))
    have hf2_2 : ∀ o, w2.frozen? ⟨w1.heap.size, o, none⟩ = _ := fun o => hb2.frozen (p := ⟨w1.heap.size, o, none⟩) (by ((try simp only [World.size_alloc, World.size_setCell, World.size_drew, size_drewN]); omega))
    have z2_2 : w1.heap.size < w2.heap.size := (by omega)
    go_wp2_with fail
    refine (mul256_c HA.out HB.out _).mono ?_
    rintro e w3 ⟨rfl, hb3⟩
    have hs3 := hb3.size
    try simp only [World.size_alloc, World.size_setCell, World.size_drew, size_drewN] at hs3
    have hc3_0 : ∀ o, w3.cell? ⟨w.heap.size, o, none⟩ = _ := fun o => hb3.cell (p := ⟨w.heap.size, o, none⟩) (by ((try simp only [World.size_alloc, World.size_setCell, World.size_drew, size_drewN]); omega))
    have hf3_0 : ∀ o, w3.frozen? ⟨w.heap.size, o, none⟩ = _ := fun o => hb3.frozen (p := ⟨w.heap.size, o, none⟩) (by ((try simp only [World.size_alloc, World.size_setCell, World.size_drew, size_drewN]); omega))
    have z3_0 : w.heap.size < w3.heap.size := (by omega)
    have hc3_1 : ∀ o, w3.cell? ⟨w.heap.size + 1, o, none⟩ = _ := fun o => hb3.cell (p := ⟨w.heap.size + 1, o, none⟩) (by ((try simp only [World.size_alloc, World.size_setCell, World.size_drew, size_drewN]); omega))
    have hf3_1 : ∀ o, w3.frozen? ⟨w.heap.size + 1, o, none⟩ = _ := fun o => hb3.frozen (p := ⟨w.heap.size + 1, o, none⟩) (by ((try simp only [World.size_alloc, World.size_setCell, World.size_drew, size_drewN]); omega))
    have z3_1 : w.heap.size + 1 < w3.heap.size := (by omega)
    have hc3_2 : ∀ o, w3.cell? ⟨w1.heap.size, o, none⟩ = _ := fun o => hb3.cell (p := ⟨w1.heap.size, o, none⟩) (by ((try simp only [World.size_alloc, World.size_setCell, World.size_drew, size_drewN]); omega))
    have hf3_2 : ∀ o, w3.frozen? ⟨w1.heap.size, o, none⟩ = _ := fun o => hb3.frozen (p := ⟨w1.heap.size, o, none⟩) (by ((try simp only [World.size_alloc, World.size_setCell, World.size_drew, size_drewN]); omega))
    have z3_2 : w1.heap.size < w3.heap.size := (by omega)
    have hc3_3 : ∀ o, w3.cell? ⟨w2.heap.size, o, none⟩ = _ := fun o => hb3.cell (p := ⟨w2.heap.size, o, none⟩) (by ((try simp only [World.size_alloc, World.size_setCell, World.size_drew, size_drewN]); omega))
    have hf3_3 : ∀ o, w3.frozen? ⟨w2.heap.size, o, none⟩ = _ := fun o => hb3.frozen (p := ⟨w2.heap.size, o, none⟩) (by ((try simp only [World.size_alloc, World.size_setCell, World.size_drew, size_drewN]); omega))
    have z3_3 : w2.heap.size < w3.heap.size := (by omega)
    have ne_0_1 : ¬ (w.heap.size = w.heap.size + 1) := (by omega)
    have ne_0_2 : ¬ (w.heap.size = w1.heap.size) := (by omega)
    have ne_0_3 : ¬ (w.heap.size = w2.heap.size) := (by omega)
    have ne_0_4 : ¬ (w.heap.size = w3.heap.size) := (by omega)
    have ne_1_0 : ¬ (w.heap.size + 1 = w.heap.size) := (by omega)
    have ne_1_2 : ¬ (w.heap.size + 1 = w1.heap.size) := (by omega)
    have ne_1_3 : ¬ (w.heap.size + 1 = w2.heap.size) := (by omega)
    have ne_1_4 : ¬ (w.heap.size + 1 = w3.heap.size) := (by omega)
    have ne_2_0 : ¬ (w1.heap.size = w.heap.size) := (by omega)
    have ne_2_1 : ¬ (w1.heap.size = w.heap.size + 1) := (by omega)
    have ne_2_3 : ¬ (w1.heap.size = w2.heap.size) := (by omega)
    have ne_2_4 : ¬ (w1.heap.size = w3.heap.size) := (by omega)
    have ne_3_0 : ¬ (w2.heap.size = w.heap.size) := (by omega)
    have ne_3_1 : ¬ (w2.heap.size = w.heap.size + 1) := (by omega)
    have ne_3_2 : ¬ (w2.heap.size = w1.heap.size) := (by omega)
    have ne_3_4 : ¬ (w2.heap.size = w3.heap.size) := (by omega)
    have ne_4_0 : ¬ (w3.heap.size = w.heap.size) := (by omega)
    have ne_4_1 : ¬ (w3.heap.size = w.heap.size + 1) := (by omega)
    have ne_4_2 : ¬ (w3.heap.size = w1.heap.size) := (by omega)
    have ne_4_3 : ¬ (w3.heap.size = w2.heap.size) := (by omega)
    go_wp2_with fail
    refine (max256_c _).mono ?_
    rintro e w4 ⟨rfl, hb4⟩
    have hs4 := hb4.size
    try simp only [World.size_alloc, World.size_setCell, World.size_drew, size_drewN] at hs4
    have hc4_0 : ∀ o, w4.cell? ⟨w.heap.size, o, none⟩ = _ := fun o => hb4.cell (p := ⟨w.heap.size, o, none⟩) (by ((try simp only [World.size_alloc, World.size_setCell, World.size_drew, size_drewN]); omega))
    have hf4_0 : ∀ o, w4.frozen? ⟨w.heap.size, o, none⟩ = _ := fun o => hb4.frozen (p := ⟨w.heap.size, o, none⟩) (by ((try simp only [World.size_alloc, World.size_setCell, World.size_drew, size_drewN]); omega))
    have z4_0 : w.heap.size < w4.heap.size := (by omega)
    have hc4_1 : ∀ o, w4.cell? ⟨w.heap.size + 1, o, none⟩ = _ := fun o => hb4.cell (p := ⟨w.heap.size + 1, o, none⟩) (by ((try simp only [World.size_alloc, World.size_setCell, World.size_drew, size_drewN]); omega))
    have hf4_1 : ∀ o, w4.frozen? ⟨w.heap.size + 1, o, none⟩ = _ := fun o => hb4.frozen (p := ⟨w.heap.size + 1, o, none⟩) (by ((try simp only [World.size_alloc, World.size_setCell, World.size_drew, size_drewN]); omega))
    have z4_1 : w.heap.size + 1 < w4.heap.size := (by omega)
    have hc4_2 : ∀ o, w4.cell? ⟨w1.heap.size, o, none⟩ = _ := fun o => hb4.cell (p := ⟨w1.heap.size, o, none⟩) (by ((try simp only [World.size_alloc, World.size_setCell, World.size_drew, size_drewN]); omega))
    have hf4_2 : ∀ o, w4.frozen? ⟨w1.heap.size, o, none⟩ = _ := fun o => hb4.frozen (p := ⟨w1.heap.size, o, none⟩) (by ((try simp only [World.size_alloc, World.size_setCell, World.size_drew, size_drewN]); omega))
    have z4_2 : w1.heap.size < w4.heap.size := (by omega)
    have hc4_3 : ∀ o, w4.cell? ⟨w2.heap.size, o, none⟩ = _ := fun o => hb4.cell (p := ⟨w2.heap.size, o, none⟩) (by ((try simp only [World.size_alloc, World.size_setCell, World.size_drew, size_drewN]); omega))
    have hf4_3 : ∀ o, w4.frozen? ⟨w2.heap.size, o, none⟩ = _ := fun o => hb4.frozen (p := ⟨w2.heap.size, o, none⟩) (by ((try simp only [World.size_alloc, World.size_setCell, World.size_drew, size_drewN]); omega))
    have z4_3 : w2.heap.size < w4.heap.size := (by omega)
    have hc4_4 : ∀ o, w4.cell? ⟨w3.heap.size, o, none⟩ = _ := fun o => hb4.cell (p := ⟨w3.heap.size, o, none⟩) (by ((try simp only [World.size_alloc, World.size_setCell, World.size_drew, size_drewN]); omega))
    have hf4_4 : ∀ o, w4.frozen? ⟨w3.heap.size, o, none⟩ = _ := fun o => hb4.frozen (p := ⟨w3.heap.size, o, none⟩) (by ((try simp only [World.size_alloc, World.size_setCell, World.size_drew, size_drewN]); omega))
    have z4_4 : w3.heap.size < w4.heap.size := (by omega)
    go_wp2_with fail
    refine (max256_c _).mono ?_
    rintro e w5 ⟨rfl, hb5⟩
    have hs5 := hb5.size
    try simp only [World.size_alloc, World.size_setCell, World.size_drew, size_drewN] at hs5
    have hc5_0 : ∀ o, w5.cell? ⟨w.heap.size, o, none⟩ = _ := fun o => hb5.cell (p := ⟨w.heap.size, o, none⟩) (by ((try simp only [World.size_alloc, World.size_setCell, World.size_drew, size_drewN]); omega))
    have hf5_0 : ∀ o, w5.frozen? ⟨w.heap.size, o, none⟩ = _ := fun o => hb5.frozen (p := ⟨w.heap.size, o, none⟩) (by ((try simp only [World.size_alloc, World.size_setCell, World.size_drew, size_drewN]); omega))
    have z5_0 : w.heap.size < w5.heap.size := (by omega)
    have hc5_1 : ∀ o, w5.cell? ⟨w.heap.size + 1, o, none⟩ = _ := fun o => hb5.cell (p := ⟨w.heap.size + 1, o, none⟩) (by ((try simp only [World.size_alloc, World.size_setCell, World.size_drew, size_drewN]); omega))
    have hf5_1 : ∀ o, w5.frozen? ⟨w.heap.size + 1, o, none⟩ = _ := fun o => hb5.frozen (p := ⟨w.heap.size + 1, o, none⟩) (by ((try simp only [World.size_alloc, World.size_setCell, World.size_drew, size_drewN]); omega))
    have z5_1 : w.heap.size + 1 < w5.heap.size := (by omega)
    have hc5_2 : ∀ o, w5.cell? ⟨w1.heap.size, o, none⟩ = _ := fun o => hb5.cell (p := ⟨w1.heap.size, o, none⟩) (by ((try simp only [World.size_alloc, World.size_setCell, World.size_drew, size_drewN]); omega))
    have hf5_2 : ∀ o, w5.frozen? ⟨w1.heap.size, o, none⟩ = _ := fun o => hb5.frozen (p := ⟨w1.heap.size, o, none⟩) (by ((try simp only [World.size_alloc, World.size_setCell, World.size_drew, size_drewN]); omega))
    have z5_2 : w1.heap.size < w5.heap.size := (by omega)
    have hc5_3 : ∀ o, w5.cell? ⟨w2.heap.size, o, none⟩ = _ := fun o => hb5.cell (p := ⟨w2.heap.size, o, none⟩) (by ((try simp only [World.size_alloc, World.size_setCell, World.size_drew, size_drewN]); omega))
    have hf5_3 : ∀ o, w5.frozen? ⟨w2.heap.size, o, none⟩ = _ := fun o => hb5.frozen (p := ⟨w2.heap.size, o, none⟩) (by ((try simp only [World.size_alloc, World.size_setCell, World.size_drew, size_drewN]); omega))
    have z5_3 : w2.heap.size < w5.heap.size := (by omega)
    have hc5_4 : ∀ o, w5.cell? ⟨w3.heap.size, o, none⟩ = _ := fun o => hb5.cell (p := ⟨w3.heap.size, o, none⟩) (by ((try simp only [World.size_alloc, World.size_setCell, World.size_drew, size_drewN]); omega))
    have hf5_4 : ∀ o, w5.frozen? ⟨w3.heap.size, o, none⟩ = _ := fun o => hb5.frozen (p := ⟨w3.heap.size, o, none⟩) (by ((try simp only [World.size_alloc, World.size_setCell, World.size_drew, size_drewN]); omega))
    have z5_4 : w3.heap.size < w5.heap.size := (by omega)
    go_wp2_with fail
    go_region_held3 (fun w' => w'.cell? ⟨w.heap.size, 0, none⟩ = some (.int .u64 (lim A 0)) ∧ w'.cell? ⟨w.heap.size, 1, none⟩ = some (.int .u64 (lim A 1)) ∧ w'.cell? ⟨w.heap.size, 2, none⟩ = some (.int .u64 (lim A 2)) ∧ w'.cell? ⟨w.heap.size, 3, none⟩ = some (.int .u64 (lim A 3)) ∧ w'.cell? ⟨w.heap.size + 1, 0, none⟩ = some (.int .u64 (lim B 0)) ∧ w'.cell? ⟨w.heap.size + 1, 1, none⟩ = some (.int .u64 (lim B 1)) ∧ w'.cell? ⟨w.heap.size + 1, 2, none⟩ = some (.int .u64 (lim B 2)) ∧ w'.cell? ⟨w.heap.size + 1, 3, none⟩ = some (.int .u64 (lim B 3)) ∧ w'.cell? ⟨w1.heap.size, 0, none⟩ = some (.int .u64 (18446744073709551615)) ∧ w'.cell? ⟨w1.heap.size, 1, none⟩ = some (.int .u64 (18446744073709551615)) ∧ w'.cell? ⟨w1.heap.size, 2, none⟩ = some (.int .u64 (18446744073709551615)) ∧ w'.cell? ⟨w1.heap.size, 3, none⟩ = some (.int .u64 (18446744073709551615)) ∧ w'.cell? ⟨w2.heap.size, 0, none⟩ = some (.int .u64 (0)) ∧ w'.cell? ⟨w2.heap.size, 1, none⟩ = some (.int .u64 (0)) ∧ w'.cell? ⟨w2.heap.size, 2, none⟩ = some (.int .u64 (0)) ∧ w'.cell? ⟨w2.heap.size, 3, none⟩ = some (.int .u64 (0)) ∧ w'.cell? ⟨w3.heap.size, 0, none⟩ = some (.int .u64 (18446744073709551615)) ∧ w'.cell? ⟨w3.heap.size, 1, none⟩ = some (.int .u64 (18446744073709551615)) ∧ w'.cell? ⟨w3.heap.size, 2, none⟩ = some (.int .u64 (18446744073709551615)) ∧ w'.cell? ⟨w3.heap.size, 3, none⟩ = some (.int .u64 (18446744073709551615))) (simp (maxDischargeDepth := 16) [go_sem, *, World.cell?_alloc_some, World.cell?_setCell_far])
      (first | (go_at_call 41; (with_reducible refine (CA.out _).mono ?_); rintro e w6 ⟨rfl, hb6⟩; (have hs6 := hb6.size); (try simp only [World.size_alloc, World.size_setCell, World.size_drew, size_drewN] at hs6); (have hc6_0 : ∀ o, w6.cell? ⟨w.heap.size, o, none⟩ = _ := fun o => hb6.cell (p := ⟨w.heap.size, o, none⟩) (by ((try simp only [World.size_alloc, World.size_setCell, World.size_drew, size_drewN]); omega))); (have hf6_0 : ∀ o, w6.frozen? ⟨w.heap.size, o, none⟩ = _ := fun o => hb6.frozen (p := ⟨w.heap.size, o, none⟩) (by ((try simp only [World.size_alloc, World.size_setCell, World.size_drew, size_drewN]); omega))); (have z6_0 : w.heap.size < w6.heap.size := (by omega)); (have hc6_1 : ∀ o, w6.cell? ⟨w.heap.size + 1, o, none⟩ = _ := fun o => hb6.cell (p := ⟨w.heap.size + 1, o, none⟩) (by ((try simp only [World.size_alloc, World.size_setCell, World.size_drew, size_drewN]); omega))); (have hf6_1 : ∀ o, w6.frozen? ⟨w.heap.size + 1, o, none⟩ = _ := fun o => hb6.frozen (p := ⟨w.heap.size + 1, o, none⟩) (by ((try simp only [World.size_alloc, World.size_setCell, World.size_drew, size_drewN]); omega))); (have z6_1 : w.heap.size + 1 < w6.heap.size := (by omega)); (have hc6_2 : ∀ o, w6.cell? ⟨w1.heap.size, o, none⟩ = _ := fun o => hb6.cell (p := ⟨w1.heap.size, o, none⟩) (by ((try simp only [World.size_alloc, World.size_setCell, World.size_drew, size_drewN]); omega))); (have hf6_2 : ∀ o, w6.frozen? ⟨w1.heap.size, o, none⟩ = _ := fun o => hb6.frozen (p := ⟨w1.heap.size, o, none⟩) (by ((try simp only [World.size_alloc, World.size_setCell, World.size_drew, size_drewN]); omega))); (have z6_2 : w1.heap.size < w6.heap.size := (by omega)); (have hc6_3 : ∀ o, w6.cell? ⟨w2.heap.size, o, none⟩ = _ := fun o => hb6.cell (p := ⟨w2.heap.size, o, none⟩) (by ((try simp only [World.size_alloc, World.size_setCell, World.size_drew, size_drewN]); omega))); (have hf6_3 : ∀ o, w6.frozen? ⟨w2.heap.size, o, none⟩ = _ := fun o => hb6.frozen (p := ⟨w2.heap.size, o, none⟩) (by ((try simp only [World.size_alloc, World.size_setCell, World.size_drew, size_drewN]); omega))); (have z6_3 : w2.heap.size < w6.heap.size := (by omega)); (have hc6_4 : ∀ o, w6.cell? ⟨w3.heap.size, o, none⟩ = _ := fun o => hb6.cell (p := ⟨w3.heap.size, o, none⟩) (by ((try simp only [World.size_alloc, World.size_setCell, World.size_drew, size_drewN]); omega))); (have hf6_4 : ∀ o, w6.frozen? ⟨w3.heap.size, o, none⟩ = _ := fun o => hb6.frozen (p := ⟨w3.heap.size, o, none⟩) (by ((try simp only [World.size_alloc, World.size_setCell, World.size_drew, size_drewN]); omega))); (have z6_4 : w3.heap.size < w6.heap.size := (by omega))) | (go_at_call 28; (with_reducible refine (CS.out _).mono ?_); rintro e w7 ⟨rfl, hb7⟩; (have hs7 := hb7.size); (try simp only [World.size_alloc, World.size_setCell, World.size_drew, size_drewN] at hs7); (have hc7_0 : ∀ o, w7.cell? ⟨w.heap.size, o, none⟩ = _ := fun o => hb7.cell (p := ⟨w.heap.size, o, none⟩) (by ((try simp only [World.size_alloc, World.size_setCell, World.size_drew, size_drewN]); omega))); (have hf7_0 : ∀ o, w7.frozen? ⟨w.heap.size, o, none⟩ = _ := fun o => hb7.frozen (p := ⟨w.heap.size, o, none⟩) (by ((try simp only [World.size_alloc, World.size_setCell, World.size_drew, size_drewN]); omega))); (have z7_0 : w.heap.size < w7.heap.size := (by omega)); (have hc7_1 : ∀ o, w7.cell? ⟨w.heap.size + 1, o, none⟩ = _ := fun o => hb7.cell (p := ⟨w.heap.size + 1, o, none⟩) (by ((try simp only [World.size_alloc, World.size_setCell, World.size_drew, size_drewN]); omega))); (have hf7_1 : ∀ o, w7.frozen? ⟨w.heap.size + 1, o, none⟩ = _ := fun o => hb7.frozen (p := ⟨w.heap.size + 1, o, none⟩) (by ((try simp only [World.size_alloc, World.size_setCell, World.size_drew, size_drewN]); omega))); (have z7_1 : w.heap.size + 1 < w7.heap.size := (by omega)); (have hc7_2 : ∀ o, w7.cell? ⟨w1.heap.size, o, none⟩ = _ := fun o => hb7.cell (p := ⟨w1.heap.size, o, none⟩) (by ((try simp only [World.size_alloc, World.size_setCell, World.size_drew, size_drewN]); omega))); (have hf7_2 : ∀ o, w7.frozen? ⟨w1.heap.size, o, none⟩ = _ := fun o => hb7.frozen (p := ⟨w1.heap.size, o, none⟩) (by ((try simp only [World.size_alloc, World.size_setCell, World.size_drew, size_drewN]); omega))); (have z7_2 : w1.heap.size < w7.heap.size := (by omega)); (have hc7_3 : ∀ o, w7.cell? ⟨w2.heap.size, o, none⟩ = _ := fun o => hb7.cell (p := ⟨w2.heap.size, o, none⟩) (by ((try simp only [World.size_alloc, World.size_setCell, World.size_drew, size_drewN]); omega))); (have hf7_3 : ∀ o, w7.frozen? ⟨w2.heap.size, o, none⟩ = _ := fun o => hb7.frozen (p := ⟨w2.heap.size, o, none⟩) (by ((try simp only [World.size_alloc, World.size_setCell, World.size_drew, size_drewN]); omega))); (have z7_3 : w2.heap.size < w7.heap.size := (by omega)); (have hc7_4 : ∀ o, w7.cell? ⟨w3.heap.size, o, none⟩ = _ := fun o => hb7.cell (p := ⟨w3.heap.size, o, none⟩) (by ((try simp only [World.size_alloc, World.size_setCell, World.size_drew, size_drewN]); omega))); (have hf7_4 : ∀ o, w7.frozen? ⟨w3.heap.size, o, none⟩ = _ := fun o => hb7.frozen (p := ⟨w3.heap.size, o, none⟩) (by ((try simp only [World.size_alloc, World.size_setCell, World.size_drew, size_drewN]); omega))); (have z7_4 : w3.heap.size < w7.heap.size := (by omega))) | (go_at_call 42; (with_reducible refine (CM.out _).mono ?_); rintro e w8 ⟨rfl, hb8⟩; (have hs8 := hb8.size); (try simp only [World.size_alloc, World.size_setCell, World.size_drew, size_drewN] at hs8); (have hc8_0 : ∀ o, w8.cell? ⟨w.heap.size, o, none⟩ = _ := fun o => hb8.cell (p := ⟨w.heap.size, o, none⟩) (by ((try simp only [World.size_alloc, World.size_setCell, World.size_drew, size_drewN]); omega))); (have hf8_0 : ∀ o, w8.frozen? ⟨w.heap.size, o, none⟩ = _ := fun o => hb8.frozen (p := ⟨w.heap.size, o, none⟩) (by ((try simp only [World.size_alloc, World.size_setCell, World.size_drew, size_drewN]); omega))); (have z8_0 : w.heap.size < w8.heap.size := (by omega)); (have hc8_1 : ∀ o, w8.cell? ⟨w.heap.size + 1, o, none⟩ = _ := fun o => hb8.cell (p := ⟨w.heap.size + 1, o, none⟩) (by ((try simp only [World.size_alloc, World.size_setCell, World.size_drew, size_drewN]); omega))); (have hf8_1 : ∀ o, w8.frozen? ⟨w.heap.size + 1, o, none⟩ = _ := fun o => hb8.frozen (p := ⟨w.heap.size + 1, o, none⟩) (by ((try simp only [World.size_alloc, World.size_setCell, World.size_drew, size_drewN]); omega))); (have z8_1 : w.heap.size + 1 < w8.heap.size := (by omega)); (have hc8_2 : ∀ o, w8.cell? ⟨w1.heap.size, o, none⟩ = _ := fun o => hb8.cell (p := ⟨w1.heap.size, o, none⟩) (by ((try simp only [World.size_alloc, World.size_setCell, World.size_drew, size_drewN]); omega))); (have hf8_2 : ∀ o, w8.frozen? ⟨w1.heap.size, o, none⟩ = _ := fun o => hb8.frozen (p := ⟨w1.heap.size, o, none⟩) (by ((try simp only [World.size_alloc, World.size_setCell, World.size_drew, size_drewN]); omega))); (have z8_2 : w1.heap.size < w8.heap.size := (by omega)); (have hc8_3 : ∀ o, w8.cell? ⟨w2.heap.size, o, none⟩ = _ := fun o => hb8.cell (p := ⟨w2.heap.size, o, none⟩) (by ((try simp only [World.size_alloc, World.size_setCell, World.size_drew, size_drewN]); omega))); (have hf8_3 : ∀ o, w8.frozen? ⟨w2.heap.size, o, none⟩ = _ := fun o => hb8.frozen (p := ⟨w2.heap.size, o, none⟩) (by ((try simp only [World.size_alloc, World.size_setCell, World.size_drew, size_drewN]); omega))); (have z8_3 : w2.heap.size < w8.heap.size := (by omega)); (have hc8_4 : ∀ o, w8.cell? ⟨w3.heap.size, o, none⟩ = _ := fun o => hb8.cell (p := ⟨w3.heap.size, o, none⟩) (by ((try simp only [World.size_alloc, World.size_setCell, World.size_drew, size_drewN]); omega))); (have hf8_4 : ∀ o, w8.frozen? ⟨w3.heap.size, o, none⟩ = _ := fun o => hb8.frozen (p := ⟨w3.heap.size, o, none⟩) (by ((try simp only [World.size_alloc, World.size_setCell, World.size_drew, size_drewN]); omega))); (have z8_4 : w3.heap.size < w8.heap.size := (by omega))))
    go_wp2
    go_ret
    exact ⟨rfl, (by (repeat' (first | (with_reducible exact Below.refl _ _) | (with_reducible assumption) | (with_reducible refine Below.alloc ?_ ?_ _) | (with_reducible refine Below.drew ?_) | (with_reducible refine below_drewN ?_ _) | (with_reducible refine Below.setCell ?_ ?_ _) | (with_reducible refine below_step (by with_reducible assumption) ?_ ?_) | (first | (with_reducible exact Nat.le_refl _) | (with_reducible assumption) | omega | (simp only [World.size_alloc, World.size_setCell, World.size_drew, size_drewN]; omega) | (simp; omega) | (simp; done)))))⟩
set_option maxHeartbeats 4000000 in
theorem Uint256Saturating_walk (a0 a1 a2 a3 b0 b1 b2 b3 : Int) (wa0 : (Lit.int .u64 a0).wf = true) (wa1 : (Lit.int .u64 a1).wf = true) (wa2 : (Lit.int .u64 a2).wf = true) (wa3 : (Lit.int .u64 a3).wf = true) (wb0 : (Lit.int .u64 b0).wf = true) (wb1 : (Lit.int .u64 b1).wf = true) (wb2 : (Lit.int .u64 b2).wf = true) (wb3 : (Lit.int .u64 b3).wf = true) (w : World) :
    Calls Try.prog 9 #[.agg #[.int .u64 a0, .int .u64 a1, .int .u64 a2, .int .u64 a3], .agg #[.int .u64 b0, .int .u64 b1, .int .u64 b2, .int .u64 b3]] w fun e w' => e = .returned (.bool true) ∧ Below w.heap.size w w' := by
  obtain ⟨A, hA, rfl, rfl, rfl, rfl⟩ := isU_wf wa0 wa1 wa2 wa3
  obtain ⟨B, hB, rfl, rfl, rfl, rfl⟩ := isU_wf wb0 wb1 wb2 wb3
  clear wa0 wa1 wa2 wa3 wb0 wb1 wb2 wb3
  have HS := hide (sat_c hA hB)
  clear hA hB
  go_enter Try.func9, Try.ntmps9
  go_wp2_with fail
  refine (HS.out _).mono ?_
  rintro e w1 ⟨rfl, hb1⟩
  have hs1 := hb1.size
  try simp only [World.size_alloc, World.size_setCell, World.size_drew, size_drewN] at hs1
  have hc1_0 : ∀ o, w1.cell? ⟨w.heap.size, o, none⟩ = _ := fun o => hb1.cell (p := ⟨w.heap.size, o, none⟩) (by ((try simp only [World.size_alloc, World.size_setCell, World.size_drew, size_drewN]); omega))
  have hf1_0 : ∀ o, w1.frozen? ⟨w.heap.size, o, none⟩ = _ := fun o => hb1.frozen (p := ⟨w.heap.size, o, none⟩) (by ((try simp only [World.size_alloc, World.size_setCell, World.size_drew, size_drewN]); omega))
  have z1_0 : w.heap.size < w1.heap.size := (by omega)
  have hc1_1 : ∀ o, w1.cell? ⟨w.heap.size + 1, o, none⟩ = _ := fun o => hb1.cell (p := ⟨w.heap.size + 1, o, none⟩) (by ((try simp only [World.size_alloc, World.size_setCell, World.size_drew, size_drewN]); omega))
  have hf1_1 : ∀ o, w1.frozen? ⟨w.heap.size + 1, o, none⟩ = _ := fun o => hb1.frozen (p := ⟨w.heap.size + 1, o, none⟩) (by ((try simp only [World.size_alloc, World.size_setCell, World.size_drew, size_drewN]); omega))
  have z1_1 : w.heap.size + 1 < w1.heap.size := (by omega)
  go_wp2_with fail
  refine (awake1_c _).mono ?_
  rintro e w2 ⟨rfl, hb2⟩
  have hs2 := hb2.size
  try simp only [World.size_alloc, World.size_setCell, World.size_drew, size_drewN] at hs2
  have hc2_0 : ∀ o, w2.cell? ⟨w.heap.size, o, none⟩ = _ := fun o => hb2.cell (p := ⟨w.heap.size, o, none⟩) (by ((try simp only [World.size_alloc, World.size_setCell, World.size_drew, size_drewN]); omega))
  have hf2_0 : ∀ o, w2.frozen? ⟨w.heap.size, o, none⟩ = _ := fun o => hb2.frozen (p := ⟨w.heap.size, o, none⟩) (by ((try simp only [World.size_alloc, World.size_setCell, World.size_drew, size_drewN]); omega))
  have z2_0 : w.heap.size < w2.heap.size := (by omega)
  have hc2_1 : ∀ o, w2.cell? ⟨w.heap.size + 1, o, none⟩ = _ := fun o => hb2.cell (p := ⟨w.heap.size + 1, o, none⟩) (by ((try simp only [World.size_alloc, World.size_setCell, World.size_drew, size_drewN]); omega))
  have hf2_1 : ∀ o, w2.frozen? ⟨w.heap.size + 1, o, none⟩ = _ := fun o => hb2.frozen (p := ⟨w.heap.size + 1, o, none⟩) (by ((try simp only [World.size_alloc, World.size_setCell, World.size_drew, size_drewN]); omega))
  have z2_1 : w.heap.size + 1 < w2.heap.size := (by omega)
  go_wp2
  go_ret
  exact ⟨rfl, (by (repeat' (first | (with_reducible exact Below.refl _ _) | (with_reducible assumption) | (with_reducible refine Below.alloc ?_ ?_ _) | (with_reducible refine Below.drew ?_) | (with_reducible refine below_drewN ?_ _) | (with_reducible refine Below.setCell ?_ ?_ _) | (with_reducible refine below_step (by with_reducible assumption) ?_ ?_) | (first | (with_reducible exact Nat.le_refl _) | (with_reducible assumption) | omega | (simp only [World.size_alloc, World.size_setCell, World.size_drew, size_drewN]; omega) | (simp; omega) | (simp; done)))))⟩
end Go.Proofs.Ytphnmolndhnnpaa
